/- What the proof of the statement stands on, part 2. -/
import Derived.Test.YtmdeiacjehhcoaaDoorA1
import Derived.Laws.OwnMore
import Derived.Test.YtmdeiacjehhcoaaDoorA0
import Derived.Tactics
import Derived.Lib.SliceRun
set_option linter.unusedVariables false
set_option linter.unusedSimpArgs false
namespace Go.Y
open Go.Eng (T RepT RepM SRep Kept Base G SameOn VRep Split Live Free kn Owns)
variable {P : Program} {I : Ids} {φ : FnP} {β : Base} {nt : Nat} {cs : List (Nat × Con)}
variable {ρ : Type} {ls : List (Nat × LoopC ρ)} {r : ρ} {tb : Tabs} {st : St L} {gd : Option (Gd L)} {k : St L → Option ρ} {o : Oper}
theorem inv_put {g : G} {w : World} (h : Inv P I φ β st g w) {k j : Nat} {r : Root L} {c : Cell L} {e0 : TypeId} (hr : get st.sto k = some r) (hm : r.mem = some e0) (hc : r.cells[j]? = some c) (e : E L) (u : Value) (N : Nat → Prop)
    (hN : Free β g (injS I φ st) w N) (hh : Held P I φ st g w e u N) :
    ∃ g', Pass P I φ st g w (setCell st k j ⟨c.stamp + 1, e⟩) g' (w.setCell ⟨g.ad k, j, none⟩ u) ∧ Inv P I φ β (setCell st k j ⟨c.stamp + 1, e⟩) g' (w.setCell ⟨g.ad k, j, none⟩ u) ∧ g'.F = g.F ∧ g'.ad = g.ad ∧
      ∀ b, Live g' (injS I φ (setCell st k j ⟨c.stamp + 1, e⟩)) b → Live g (injS I φ st) b ∨ N b := by
  have hr' : Eng.get (injS I φ st) k = some (injR I φ st r) := by rw [get_injS, hr]; rfl
  have hc' := injR_cell (I := I) (φ := φ) (st := st) hc
  have hbl : ∀ l, e = .rf l → bnd st l ∧ l.steps = [] := by
    intro l he
    subst he
    obtain ⟨h1, h2⟩ := hh
    cases h1 with
    | pt _ b o hb _ => exact ⟨hb, h2⟩
  obtain ⟨g', hM, hF, had, hlive⟩ := Eng.move_putM h.s h.k hr' (e0 := e0) hm (lt_of_get hc') (injE I φ st e) u N hN (by
    cases e with
    | o d v => exact hh
    | mv => trivial
    | rf l =>
      simp only [injE]
      cases hr : rootAt st l with
      | none => trivial
      | some r' =>
        simp only
        obtain ⟨h1, h2⟩ := hh
        refine ⟨?_, by simp [Eng.fpC, injLoc, h2]⟩
        cases h1 with
        | pt _ b o hb h8 => exact .pt _ _ fun ht => ⟨_, h8 ⟨⟨r', hr⟩, fun hs => absurd h2 hs⟩ ht, rfl⟩)
  have hT : Turn st k j c ⟨c.stamp + 1, e⟩ r := ⟨hr, hc, Nat.le_succ _, hbl⟩
  have hget := fun i => hT.get (I := I) (φ := φ) (Eng.fpC k j) (fun l hl => by simp [Eng.fpC, hl]) h.c i
  have hst : ∀ l : Loc L, bnd st l → l.root = k → l.off = j → l.gen = r.gen → l.stamp = c.stamp + 1 → False := by
    intro l ⟨r1, h1, h2, h3⟩ e1 e2 e3 e4
    rw [e1, hr, Option.some.injEq] at h1
    subst h1
    have := h3 e3 c (by rw [e2]; exact hc)
    omega
  have hvA : ∀ l, bnd st l → validA (setCell st k j ⟨c.stamp + 1, e⟩) l → validA st l ∧ ¬ (l.root = k ∧ l.off = j) := by
    intro l hb hv
    rcases hT.validA l hv with hv | ⟨e1, e2, e3, e4⟩
    · exact ⟨hv.2, hv.1⟩
    · exact (hst l hb e1 e2 e3 e4).elim
  obtain ⟨h2, h3⟩ := pass_of_move (st' := setCell st k j ⟨c.stamp + 1, e⟩) hM hget (by simp) hT.bnd
    (fun l hb hv => ⟨(hvA l hb hv).1, by
      have := (hvA l hb hv).2
      simp only [Eng.faC, injLoc, Bool.and_eq_false_iff, beq_eq_false_iff_ne]
      rcases Decidable.em (l.root = k) with e | e
      · exact .inr fun e2 => this ⟨e, e2⟩
      · exact .inl e⟩)
    (fun l hb hv => by
      refine ⟨⟨hT.rootAt l hv.1, fun hs => (hvA l hb (hv.2 hs)).1⟩, ?_⟩
      by_cases hs : l.steps = []
      · simp [Eng.fpC, injLoc, hs]
      · have := (hvA l hb (hv.2 hs)).2
        simp only [Eng.fpC, injLoc, Bool.and_eq_false_iff, beq_eq_false_iff_ne]
        refine .inl ?_
        rcases Decidable.em (l.root = k) with e | e
        · exact .inr fun e2 => this ⟨e, e2⟩
        · exact .inl e) (hT.cbnd h.c) (fun b hb => by simpa using h.f b (by rw [← hF]; exact hb))
  exact ⟨g', h2, h3, hF, had, fun b hb => hlive b ((live_congr hget b).1 hb)⟩
theorem rep_one {w : World} {F : Nat → Prop} {d : Nat} {v : L} {u : Value} {B : Nat → Prop} (h : RepM P w F d (trL I φ v) u B) (hv : @eOk L (semL cs) (.o d v) = true) : u.oneCell' = true := by
  have hrep := RepM.give d h
  have one' : ∀ t : T, RepT P w (fun b => F b ∨ B b) t u → t.isAg = false → (∀ q, t ≠ .fl q) → u.oneCell' = true := by
    intro t ht h1 h2
    cases ht with
    | ag => cases h1
    | fl q v hp => exact absurd rfl (h2 q)
    | _ => rfl
  obtain ⟨vty, vv⟩ := v
  cases vty with
  | unit => cases hv
  | pair a b => cases hv
  | st f => cases hv
  | fn a b => cases hv
  | err => exact one' _ hrep (trE_ag _) (fun q hq => by
      have hq : trE I vv = .fl q := hq
      cases vv <;> simp [trE] at hq)
  | ptr e a => exact one' _ hrep (by cases vv <;> rfl) (fun q hq => by cases vv <;> (simp only [trL, tr, trc] at hq; cases hq))
  | _ => exact one' _ hrep rfl (fun q hq => by simp only [trL, tr, trc] at hq; cases hq)
theorem held_one {g : G} {w : World} {e : E L} {u : Value} {N : Nat → Prop} (h : Held P I φ st g w e u N) (he : @eOk L (semL cs) e = true) : u.oneCell' = true := by
  cases e with
  | o d v => exact rep_one h he
  | rf l =>
    obtain ⟨h1, _⟩ := h
    cases h1; rfl
  | mv => cases he
theorem setCell_sto {st : St L} {k j : Nat} {c : Cell L} {r : Root L} (hr : get st.sto k = some r) : get (setCell st k j c).sto k = some { r with cells := r.cells.set j c } := by
  rw [get_setCell st k j c r hr, if_pos rfl]
theorem storeCells_ok {k : Nat} {e0 : TypeId} : ∀ (es : List (E L)) (us : List Value) (j i0 b o0 : Nat) {st : St L} {g : G} {w : World} (_ : Inv P I φ β st g w) {r : Root L} (_ : get st.sto k = some r) (_ : r.mem = some e0) (_ : j + es.length ≤ r.cells.length)
    (Ns : Nat → Nat → Prop) (_ : Free β g (injS I φ st) w (fun b => ∃ j, Ns j b)) (_ : ∀ j k b, Ns j b → Ns k b → j = k) (_ : @allE L (semL cs) es = true) (_ : us.length = es.length) (_ : b = g.ad k) (_ : o0 + i0 = j)
    (_ : ∀ (i : Nat) e u, es[i]? = some e → us[i]? = some u → Held P I φ st g w e u (Ns i)),
    ∃ g' w', (Go.storeCells ⟨b, o0, none⟩ us i0).run P w = .ok () w' ∧ Pass P I φ st g w (storeCells st k j es) g' w' ∧ Inv P I φ β (storeCells st k j es) g' w' ∧ (storeCells st k j es).env = st.env ∧ (storeCells st k j es).gnv = st.gnv
  | [], us, j, i0, b, o0, st, g, w, hi, r, hr, hm, hle, Ns, hN, hd, ha, hl, hb, ho, hh => by
    have : us = [] := List.eq_nil_of_length_eq_zero (by simpa using hl)
    subst this
    exact ⟨g, w, rfl, Pass.refl _ _ _, hi, rfl, rfl⟩
  | e :: es, [], j, i0, b, o0, st, g, w, hi, r, hr, hm, hle, Ns, hN, hd, ha, hl, hb, ho, hh => by simp at hl
  | e :: es, u :: us, j, i0, b, o0, st, g, w, hi, r, hr, hm, hle, Ns, hN, hd, ha, hl, hb, ho, hh => by
    simp only [List.length_cons] at hle hl
    simp only [allE, Bool.and_eq_true] at ha
    have hjl : j < r.cells.length := by omega
    have hc : r.cells[j]? = some r.cells[j] := List.getElem?_eq_getElem hjl
    have hh0 := hh 0 e u rfl rfl
    have hN0 : Free β g (injS I φ st) w (Ns 0) := fun b hb => hN b ⟨0, hb⟩
    obtain ⟨g1, hp1, hi1, hF1, had1, hlive⟩ := inv_put hi hr hm hc e u (Ns 0) hN0 hh0
    have hone := held_one hh0 ha.1
    have hr' : Eng.get (injS I φ st) k = some (injR I φ st r) := by rw [get_injS, hr]; rfl
    obtain ⟨hroot, _⟩ := hi.s.root k _ hr'
    obtain ⟨cur, hcur, hcsz⟩ := hroot e0 hm
    have hcell : ∃ v0, w.cell? ⟨g.ad k, j, none⟩ = some v0 := by
      rw [cell_of_row w _ j cur e0 (0, 0) hcur]
      have : j < cur.size := by rw [hcsz]; simpa [injR] using hjl
      exact ⟨_, Array.getElem?_eq_getElem this⟩
    obtain ⟨v0, hv0⟩ := hcell
    have hstore : (store ((⟨b, o0, none⟩ : Addr).add i0) u).run P w = .ok () (w.setCell ⟨g.ad k, j, none⟩ u) := by
      rw [Eng.addr_add, hb, ho, run_store P w _ u _ hone, hv0]
      simp only
      rw [frozen_of_row w _ j cur e0 hcur]
      simp
    have hgr : (w.setCell ⟨g.ad k, j, none⟩ u).heap.size = w.heap.size := by simp
    have hsame : SameOn (fun b => g.F b ∨ ∃ j, Ns (j + 1) b) w (w.setCell ⟨g.ad k, j, none⟩ u) := by
      have hadB : Live g (injS I φ st) (g.ad k) := ⟨k, _, hr', Eng.RootOk.ad_mem (hi.s.root k _ hr') (e := e0) hm⟩
      refine Eng.same_setCell _ _ _ _ fun hb => ?_
      rcases hb with hb | ⟨j', hb⟩
      · obtain ⟨k', r', h1, h2⟩ := hadB
        exact (hi.s.own k' r' h1 _ h2).1 hb
      · exact (hN _ ⟨j' + 1, hb⟩).1 hadB
    obtain ⟨g2, w2, hrun, hp2, hi2, he1, he2⟩ := storeCells_ok es us (j + 1) (i0 + 1) b o0 hi1 (setCell_sto hr) hm (by simp; omega) (fun j => Ns (j + 1))
      (fun b hb => by
        obtain ⟨j', hb⟩ := hb
        obtain ⟨h1, h2, h3, h4⟩ := hN b ⟨j' + 1, hb⟩
        refine ⟨fun hl => ?_, by rw [hF1]; exact h2, by rw [hgr]; exact h3, h4⟩
        rcases hlive b hl with hl | hl
        · exact h1 hl
        · exact absurd (hd _ _ b hl hb) (by omega))
      (fun j k b h1 h2 => by have := hd _ _ b h1 h2; omega) ha.2 (by omega) (by rw [hb, had1]) (by omega)
      (fun i e' u' h1 h2 => by
        have := hh (i + 1) e' u' (by simpa using h1) (by simpa using h2)
        cases e' with
        | o d v => exact RepM.mono d (hsame.mono fun b hb => hb.imp id fun hb => ⟨i, hb⟩) hp1.F (fun _ hb => hb) this
        | rf l => exact ⟨hp1.a _ _ this.1, this.2⟩
        | mv => trivial)
    have heq : storeCells st k j (e :: es) = storeCells (setCell st k j ⟨r.cells[j].stamp + 1, e⟩) k (j + 1) es := by
      simp only [storeCells, hr, getL_eq, hc]
    rw [heq]
    refine ⟨g2, w2, ?_, hp1.trans hp2, hi2, he1.trans (setCell_env _ _ _ _).1, he2.trans (setCell_env _ _ _ _).2⟩
    simp only [Go.storeCells, Sem.run_bind, hstore, Result.andThen_ok]
    exact hrun
theorem setCell_shape {st : St L} {k j : Nat} {c : Cell L} (i : Nat) : (get (setCell st k j c).sto i).map (fun r => (r.gen, r.mem, r.cells.length)) = (get st.sto i).map (fun r => (r.gen, r.mem, r.cells.length)) := by
  cases hr : get st.sto k with
  | none => unfold setCell; rw [hr]
  | some r =>
    rw [get_setCell st k j c r hr]
    split
    · rename_i h; subst h; rw [hr]; simp
    · rfl
theorem absorb_shape {st : St L} {c : AV L} {e : E L} {st' : St L} (h : @absorb L (semL cs) st c = some (e, st')) (i : Nat) : (get st'.sto i).map (fun r => (r.gen, r.mem, r.cells.length)) = (get st.sto i).map (fun r => (r.gen, r.mem, r.cells.length)) := by
  unfold absorb at h
  split at h
  · simp only [Option.some.injEq, Prod.mk.injEq] at h; obtain ⟨_, rfl⟩ := h; rfl
  · simp only [Option.some.injEq, Prod.mk.injEq] at h; obtain ⟨_, rfl⟩ := h; rfl
  · simp only [Option.some.injEq, Prod.mk.injEq] at h; obtain ⟨_, rfl⟩ := h; rfl
  · split at h
    · split at h
      · split at h
        · simp only [Option.some.injEq, Prod.mk.injEq] at h; obtain ⟨_, rfl⟩ := h; exact setCell_shape i
        · cases h
      · cases h
    · cases h
  · split at h
    · simp only [Option.some.injEq, Prod.mk.injEq] at h; obtain ⟨_, rfl⟩ := h; rfl
    · cases h
  · simp only [Option.some.injEq, Prod.mk.injEq] at h; obtain ⟨_, rfl⟩ := h; rfl
  · cases h
theorem absorbL_shape : ∀ {qs : List (AV L)} {st : St L} {es : List (E L)} {st' : St L}, @absorbL L (semL cs) st qs = some (es, st') → ∀ i, (get st'.sto i).map (fun r => (r.gen, r.mem, r.cells.length)) = (get st.sto i).map (fun r => (r.gen, r.mem, r.cells.length))
  | [], st, es, st', h => by simp only [absorbL, Option.some.injEq, Prod.mk.injEq] at h; obtain ⟨_, rfl⟩ := h; exact fun _ => rfl
  | c :: qs, st, es, st', h => by
    simp only [absorbL] at h
    split at h
    · rename_i e st1 h1
      split at h
      · rename_i es2 st2 h2
        simp only [Option.some.injEq, Prod.mk.injEq] at h
        obtain ⟨_, rfl⟩ := h
        exact fun i => (absorbL_shape h2 i).trans (absorb_shape h1 i)
      · cases h
    · cases h
end Go.Y
namespace Go.Y
open Go.Eng (T RepT RepM SRep Kept Base G SameOn VRep Split Live Free kn Owns ownB)
variable {P : Program} {I : Ids} {φ : FnP} {β : Base} {nt : Nat} {cs : List (Nat × Con)}
theorem run_append_zero {t u ty e : TypeId} {q : TypeInfo} {base : Option Addr} {n cap m c : Nat} {src : Option Addr} {w : World} (ht : P.underlying t = some (.slice e)) (hu : P.underlying u = some (.slice e)) (hq : P.info? e = some q)
    (hn : n ≤ cap) (hm : m = 0) : (Builtin.append_ #[t, u] ty #[.slice base n cap, .slice src m c]).run P w = .ok (.slice base n cap) w := by
  subst hm
  cases src <;> cases base <;> simp [Builtin.append_, run_underlying ht, run_underlying hu, sizeOf, typeInfo, hq, Builtin.lenOf, Builtin.firstCells, hn, Go.storeCells, loadCells, loadCellsFrom]
structure Appended (w : World) (e : TypeId) (size : Nat) (v : Value) (N : Nat) (xs : List Value) (v' : Value) (w' : World) : Prop where
  owns : Owns w' e size v' N xs
  os : w'.os = w.os
  tape : w'.tape = w.tape
  output : w'.output = w.output
  size : w.heap.size ≤ w'.heap.size
  block : ∀ b, b < w.heap.size → ownB v ≠ some b → w'.heap[b]? = w.heap[b]?
  own : ∀ b, ownB v' = some b → ownB v = some b ∨ (w.heap.size ≤ b ∧ b < w'.heap.size)
theorem run_append2 {t ty e : TypeId} {q : TypeInfo} {z : Value} {w : World} (ht : P.underlying t = some (.slice e)) (hq : P.info? e = some q) (hz : q.zero = some z) (hzs : z.cells.size = q.size)
    {v : Value} {n : Nat} {xs : List Value} (hown : Owns w e q.size v n xs)
    {src : Option Addr} {m c : Nat} {news : List Value} (hl : news.length = m * q.size) (hnews : ∀ a, src = some a → ∀ (j : Nat) u, news[j]? = some u → w.cell? (a.add j) = some u) (hsrc : src = none → m = 0)
    (h1 : ∀ u ∈ news, u.oneCell' = true) (h63 : n + m ≤ 140737488355328) (hbytes : (n + m) * q.bytes ≤ 140737488355328) :
    ∃ v' w', (Builtin.append_ #[t, t] ty #[v, .slice src m c]).run P w = .ok v' w' ∧ Appended w e q.size v (n + m) (xs ++ news) v' w' := by
  by_cases hm : m = 0
  · subst hm
    have hnn : news = [] := List.eq_nil_of_length_eq_zero (by simpa using hl)
    subst hnn
    have key : ∀ base cap, v = .slice base n cap → n ≤ cap → (Builtin.append_ #[t, t] ty #[v, .slice src 0 c]).run P w = .ok v w := fun base cap hv hc => by
      rw [hv]; exact run_append_zero ht ht hq hc rfl
    have hself : Appended w e q.size v (n + 0) (xs ++ []) v w := ⟨by simpa using hown, rfl, rfl, rfl, Nat.le_refl _, fun _ _ _ => rfl, fun b hb => .inl hb⟩
    rcases hown with ho | ⟨rfl, rfl, b, rfl⟩
    · rcases ho.2 with ⟨rfl, rfl⟩ | ⟨g, cap, cur, rfl, _, _, hnc, _⟩
      · exact ⟨_, w, key none 0 rfl (Nat.le_refl _), hself⟩
      · exact ⟨_, w, key _ cap rfl hnc, hself⟩
    · exact ⟨_, w, key _ 0 rfl (Nat.le_refl _), hself⟩
  · obtain ⟨a, rfl⟩ : ∃ a, src = some a := by
      cases src with
      | none => exact absurd (hsrc rfl) hm
      | some a => exact ⟨a, rfl⟩
    have hnews := hnews a rfl
    have hlen : (xs ++ news).length = (n + m) * q.size := by rw [List.length_append, Owns.len hown, hl, Nat.add_mul]
    have grown : ∀ old, old < n + m → Appended w e q.size v (n + m) (xs ++ news) (.slice (some ⟨w.heap.size, 0, none⟩) (n + m) (grownCap w (n + m) old e))
        (w.drew.alloc (.cells (xs.toArray ++ news.toArray ++ Builtin.zeroCells z.cells (grownCap w (n + m) old e - (n + m))) e)) := by
      intro old hold
      have hge := grownCap_ge w (n + m) old e
      refine ⟨.inl ⟨hlen, .inr ⟨w.heap.size, _, _, rfl, Nat.zero_le _, heap_alloc_new w.drew _, hge, grownCap_le_maxLen w (n + m) old e (by simp only [maxLen]; omega), ?_, ?_⟩⟩, rfl, rfl, rfl, by simp, fun b hb _ => heap_alloc_old w.drew _ b hb, fun b hb => .inr ?_⟩
      · have h2 := Owns.len hown
        simp only [Array.size_append, List.size_toArray, size_zeroCells, hzs, h2, hl]
        rw [← Nat.add_mul, ← Nat.add_mul]
        congr 1
        omega
      · rw [← hlen, Array.toList_append, Array.toList_append, List.take_append_of_le_length (by simp)]
        exact List.take_of_length_le (by simp)
      · cases hc : grownCap w (n + m) old e with
        | zero => rw [hc] at hb; simp [ownB] at hb
        | succ k =>
          rw [hc] at hb
          simp only [ownB, Option.some.injEq] at hb
          subst hb
          simp
    have hgrow : ∀ b sCap, v = .slice (some b) n sCap → sCap < n + m → (∀ (j : Nat) u, xs[j]? = some u → w.cell? (b.add j) = some u) → ∃ v' w', (Builtin.append_ #[t, t] ty #[v, .slice (some a) m c]).run P w = .ok v' w' ∧ Appended w e q.size v (n + m) (xs ++ news) v' w' := by
      intro b sCap hv hc hx
      refine ⟨_, _, ?_, grown sCap hc⟩
      rw [hv]
      exact run_append_grow w t ty e q z ht hq hz b n sCap xs (Owns.len hown) hx a m c news hl hnews hc (by omega) (growslice_fits hc hbytes)
    rcases hown with ho | ⟨rfl, rfl, b, rfl⟩
    · rcases ho.2 with ⟨rfl, rfl⟩ | ⟨g, cap, cur, rfl, hbg, hg, hnc, hcm, hcs, htake⟩
      · have hx : xs = [] := List.eq_nil_of_length_eq_zero (by simpa using ho.1)
        subst hx
        have hgr := grown 0 (by omega)
        simp only [Nat.zero_add, List.nil_append] at hgr h63 hbytes ⊢
        refine ⟨_, _, run_append_nil w t ty e q z ht hq hz a m c news hl hnews (by omega) (by omega) (by omega), ?_⟩
        simpa using hgr
      · by_cases hroom : n + m ≤ cap
        · have hfit : n * q.size + news.length ≤ cur.size := by rw [hl, hcs, ← Nat.add_mul]; exact Nat.mul_le_mul_right _ hroom
          refine ⟨_, _, run_append_room w t ty e q ht hq g n cap cur hg a m c news hl hnews h1 hroom hfit, ?_⟩
          have hcap : ownB (.slice (some ⟨g, 0, none⟩) n cap) = some g := by
            cases cap with
            | zero => omega
            | succ k => rfl
          refine ⟨.inl ⟨hlen, .inr ⟨g, cap, _, rfl, hbg, setRow_heap w g cur _ e _ hg, hroom, hcm, ?_, ?_⟩⟩, rfl, rfl, rfl, by simp, fun b hb hne => setRow_other w g b _ (fun h => hne (by rw [hcap, h])), fun b hb => .inl ?_⟩
          · simp only [List.size_toArray, List.length_append, List.length_take, List.length_drop, Array.length_toList]
            omega
          · simp only [htake]
            rw [List.take_append_of_le_length (by rw [hlen]; exact Nat.le_refl _), ← hlen]
            exact List.take_length
          · rw [hcap]
            cases cap with
            | zero => omega
            | succ k => exact hb
        · exact hgrow ⟨g, 0, none⟩ cap rfl (by omega) fun j u hj => by
            have := (Eng.ownsRow_cells ho).2.2 j u hj
            rw [Eng.addr_add, Nat.zero_add]; exact this
    · exact hgrow b 0 rfl (by omega) fun j u hj => by simp at hj
end Go.Y
namespace Go.Y
open Go.Eng (T RepT RepM SRep Kept Base G SameOn VRep Split Live Free kn Owns ownB)
variable {P : Program} {I : Ids} {φ : FnP} {β : Base} {nt : Nat} {cs : List (Nat × Con)}
variable {ρ : Type} {ls : List (Nat × LoopC ρ)} {r : ρ} {tb : Tabs} {st : St L} {gd : Option (Gd L)} {k : St L → Option ρ} {o : Oper}
theorem inv_world {st : St L} {g : G} {w w' : World} (h : Inv P I φ β st g w) (hs : SameOn (fun b => g.F b ∨ Live g (injS I φ st) b) w w') (hsz : w.heap.size ≤ w'.heap.size) (hfr : ∀ b, b < β.w.heap.size → ¬ β.B b → w'.heap[b]? = w.heap[b]?)
    (hos : w'.os = w.os) (htape : w'.tape = w.tape) (hout : w'.output = w.output) : Pass P I φ st g w st g w' ∧ Inv P I φ β st g w' :=
  pass_of_move (st' := st) (Eng.move_world h.s h.k hs hsz hfr hos htape hout) (fun _ => rfl) hsz (fun _ hl => hl) (fun _ _ hv => ⟨hv, rfl⟩) (fun _ _ hv => ⟨hv, rfl⟩) h.c (fun b hb => Nat.lt_of_lt_of_le (h.f b hb) hsz)
theorem live_lt {st : St L} {g : G} {w : World} (h : Inv P I φ β st g w) {b : Nat} (hb : Live g (injS I φ st) b) : b < w.heap.size := by
  obtain ⟨k, r, h1, h2⟩ := hb
  exact (h.s.own k r h1 b h2).2
theorem trc_tys : ∀ (A : Ty) (x : A.den) (o : Nat) (t : T), (trc I φ A x)[o]? = some t → ∃ (ft : Ty) (y : ft.den), A.flat[o]? = some ft ∧ t = tr I φ ft y
  | .unit, x, o, t, h => by simp [trc] at h
  | .pair a b, x, o, t, h => by
    simp only [trc] at h
    simp only [Ty.flat]
    by_cases ho : o < (trc I φ a x.1).length
    · rw [List.getElem?_append_left ho] at h
      obtain ⟨ft, y, h1, h2⟩ := trc_tys a x.1 o t h
      exact ⟨ft, y, by rw [List.getElem?_append_left (by rw [trc_length] at ho; exact ho)]; exact h1, h2⟩
    · rw [List.getElem?_append_right (by omega)] at h
      obtain ⟨ft, y, h1, h2⟩ := trc_tys b x.2 _ t h
      rw [trc_length] at h1 ho
      exact ⟨ft, y, by rw [List.getElem?_append_right (by omega)]; exact h1, h2⟩
  | .st f, x, o, t, h => trc_tys f x o t h
  | .bool, x, o, t, h => leaf .bool x rfl rfl o t h
  | .int k, x, o, t, h => leaf (.int k) x rfl rfl o t h
  | .str, x, o, t, h => leaf .str x rfl rfl o t h
  | .sl e a, x, o, t, h => leaf (.sl e a) x rfl rfl o t h
  | .ptr e a, x, o, t, h => leaf (.ptr e a) x rfl rfl o t h
  | .err, x, o, t, h => leaf .err x rfl rfl o t h
  | .fn a b, x, o, t, h => leaf (.fn a b) x rfl rfl o t h
where
  leaf (A : Ty) (x : A.den) (hf : A.flat = [A]) (hA : A.isAgg = false) (o : Nat) (t : T) (h : (trc I φ A x)[o]? = some t) : ∃ (ft : Ty) (y : ft.den), A.flat[o]? = some ft ∧ t = tr I φ ft y := by
    obtain ⟨c, h1, _⟩ := trc_one (I := I) (φ := φ) A hA x
    rw [h1] at h
    cases o with
    | zero =>
      simp only [List.getElem?_cons_zero, Option.some.injEq] at h
      subst h
      refine ⟨A, x, by rw [hf]; rfl, ?_⟩
      unfold tr; rw [h1]
      cases A <;> first | rfl | cases hA
    | succ o => simp at h
theorem zeroIs_notFn : ∀ (ts : List Ty) (vs : List Value), zeroIs ts vs = true → ∀ t ∈ ts, ∀ A B, t ≠ .fn A B
  | [], vs, h, t, ht => by simp at ht
  | t0 :: ts, [], h, t, ht => by simp [zeroIs] at h
  | t0 :: ts, v :: vs, h, t, ht => by
    intro A B e
    rcases List.mem_cons.1 ht with e2 | ht
    · subst e2; subst e
      simp [zeroIs] at h
    · refine zeroIs_notFn ts vs ?_ t ht A B e
      cases t0 <;> cases v <;> try (simp only [zeroIs, Bool.and_eq_true, Bool.false_eq_true] at h)
      all_goals (try (cases h; done))
      case bool.bool => exact h.2
      case int.int => exact h.2.2
      case str.string => exact h.2
      case sl.slice p _ _ => cases p <;> simp only [zeroIs, Bool.and_eq_true, Bool.false_eq_true] at h; exact h.2.2
      case ptr.pointer p => cases p <;> simp only [zeroIs, Bool.false_eq_true] at h; exact h
      case err.nilIface => exact h
theorem zok_flat {t : TypeId} {i : TI} (hi : TiFacts P I t i) (hz : i.zok = true) : ∀ ft ∈ i.ty.flat, ∀ A B, ft ≠ .fn A B := by
  obtain ⟨q, hq, _, hz1⟩ := hi.bytes
  obtain ⟨z, hz2, hz3⟩ := hz1 hz
  exact zeroIs_notFn _ _ hz3
theorem rep_one' {w : World} {F : Nat → Prop} {A : Ty} {x : A.den} {u : Value} (h : RepT P w F (tr I φ A x) u) (hA : A.isAgg = false) (hf : ∀ B C, A ≠ .fn B C) : u.oneCell' = true := by
  refine rep_one (cs := []) (v := ⟨A, x⟩) (d := 0) (B := fun _ => False) h ?_
  cases A with
  | fn a b => exact absurd rfl (hf a b)
  | unit => cases hA
  | pair a b => cases hA
  | st f => cases hA
  | _ => rfl
theorem run_append_types {t u ty e : TypeId} {q : TypeInfo} {b b' : Option Addr} {n c n' c' : Nat} {w : World} (ht : P.underlying t = some (.slice e)) (hu : P.underlying u = some (.slice e)) (hq : P.info? e = some q) :
    (Builtin.append_ #[t, u] ty #[.slice b n c, .slice b' n' c']).run P w = (Builtin.append_ #[t, t] ty #[.slice b n c, .slice b' n' c']).run P w := by
  simp [Builtin.append_, run_underlying ht, run_underlying hu, sizeOf, typeInfo, hq]
def SrcOk (P : Program) (I : Ids) (φ : FnP) (w : World) (F : Nat → Prop) (e : TypeId) (a : Ty) (ys : List a.den) (u : Value) : Prop :=
  ∃ (src : Option Addr) (m c : Nat) (news : List Value), u = .slice src m c ∧ m = ys.length ∧ news.length = m * P.cellsOf e ∧ (∀ x, src = some x → ∀ (j : Nat) v, news[j]? = some v → w.cell? (x.add j) = some v) ∧ (src = none → m = 0) ∧ (∀ v ∈ news, v.oneCell' = true) ∧
      ∀ (j : Nat) t, (Eng.flat (ys.map fun y => one a (trc I φ a y)))[j]? = some t → ∃ v, news[j]? = some v ∧ RepT P w F t v
theorem src_cells {w : World} {F : Nat → Prop} {e : TypeId} {a : Ty} {ys : List a.den} {u : Value} (hnf : ∀ ft ∈ a.flat, ∀ A B, ft ≠ .fn A B) (h : RepT P w F (trL I φ ⟨.sl e a, ys⟩) u) :
    SrcOk P I φ w F e a ys u := by
  unfold SrcOk
  have h : RepT P w F (.sl e false (ys.map fun y => one a (trc I φ a y))) u := h
  generalize hxs : (ys.map fun y => one a (trc I φ a y)) = xs at h ⊢
  have hlx : xs.length = ys.length := by rw [← hxs]; simp
  cases h with
  | nsl => exact ⟨none, 0, 0, [], rfl, by rw [← hlx]; rfl, by simp, fun x hx => (by cases hx), fun _ => rfl, by simp, fun j t hj => by simp [Eng.flat] at hj⟩
  | esl _ _ b cap => exact ⟨some b, 0, cap, [], rfl, by rw [← hlx]; rfl, by simp, fun x hx j v hj => by simp at hj, fun _ => rfl, by simp, fun j t hj => by simp [Eng.flat] at hj⟩
  | sl _ _ _ b off cap us hF hs hl hc hr =>
    have hfl := Eng.flat_length hs
    refine ⟨some ⟨b, off, none⟩, xs.length, cap, (List.range (Eng.flat xs).length).map us, rfl, hlx, by simp [hfl], fun x hx j v hj => ?_, fun hx => (by cases hx), fun v hv => ?_, fun j t hj => ?_⟩
    · simp only [Option.some.injEq] at hx
      subst hx
      rw [List.getElem?_map, Option.map_eq_some_iff] at hj
      obtain ⟨j', hj', rfl⟩ := hj
      have hjl := lt_of_get hj'
      simp only [List.length_range] at hjl
      rw [List.getElem?_range hjl, Option.some.injEq] at hj'
      subst hj'
      rw [Eng.addr_add]
      exact hc j _ (List.getElem?_eq_getElem hjl)
    · obtain ⟨j, hj, rfl⟩ := List.mem_map.1 hv
      have hjl := List.mem_range.1 hj
      obtain ⟨_, _, x, hx, hxc⟩ := flat_at hs (List.getElem?_eq_getElem hjl)
      rw [← hxs, List.getElem?_map, Option.map_eq_some_iff] at hx
      obtain ⟨y, _, rfl⟩ := hx
      rw [show one a (trc I φ a y) = tr I φ a y from rfl, tr_cells] at hxc
      obtain ⟨ft, z, h1, h2⟩ := trc_tys a y _ _ hxc
      have := hr j _ (List.getElem?_eq_getElem hjl)
      rw [h2] at this
      exact rep_one' this (flat_notAgg a ft (List.mem_of_getElem? h1)) (hnf ft (List.mem_of_getElem? h1))
    · have hjl := lt_of_get hj
      exact ⟨us j, by rw [List.getElem?_map, List.getElem?_range hjl]; rfl, hr j t hj⟩
theorem scalar_flat : ∀ (A : Ty), A.scalar = true → ∀ ft ∈ A.flat, ft.scalar = true
  | .unit, _, ft, h => by simp [Ty.flat] at h
  | .bool, _, ft, h => by simp only [Ty.flat, List.mem_singleton] at h; subst h; rfl
  | .int k, _, ft, h => by simp only [Ty.flat, List.mem_singleton] at h; subst h; rfl
  | .str, _, ft, h => by simp only [Ty.flat, List.mem_singleton] at h; subst h; rfl
  | .pair a b, hs, ft, h => by
    simp only [Ty.scalar, Bool.and_eq_true] at hs
    simp only [Ty.flat, List.mem_append] at h
    exact h.elim (scalar_flat a hs.1 ft) (scalar_flat b hs.2 ft)
  | .st f, hs, ft, h => scalar_flat f hs ft h
  | .sl e a, hs, _, _ => by cases hs
  | .ptr e a, hs, _, _ => by cases hs
  | .err, hs, _, _ => by cases hs
  | .fn a b, hs, _, _ => by cases hs
theorem repM_succ_scalar {w : World} {F : Nat → Prop} {d : Nat} {A : Ty} (hs : A.scalar = true) {x : A.den} {u : Value} {B : Nat → Prop} (h : RepM P w F d (tr I φ A x) u B) : RepT P w F (tr I φ A x) u := by
  cases d with
  | zero => exact h
  | succ d =>
    cases A with
    | sl e a => cases hs
    | ptr e a => cases hs
    | err => cases hs
    | fn a b => cases hs
    | _ => exact h
theorem src_own {w : World} {F : Nat → Prop} {e : TypeId} {a : Ty} {ys : List a.den} {u : Value} {d : Nat} {B : Nat → Prop} (hs : a.scalar = true) (h : RepM P w F d (trL I φ ⟨.sl e a, ys⟩) u B) : SrcOk P I φ w F e a ys u := by
  unfold SrcOk
  have hnf : ∀ ft ∈ a.flat, ∀ A B, ft ≠ .fn A B := fun ft hft A B he => by
    have := scalar_flat a hs ft hft
    rw [he] at this; cases this
  cases d with
  | zero => exact src_cells hnf (show RepT P w F (trL I φ ⟨.sl e a, ys⟩) u from h)
  | succ d =>
    have h : RepM P w F (d + 1) (.sl e false (ys.map fun y => one a (trc I φ a y))) u B := h
    obtain ⟨us, ho, hfit, Bs, hsp, hc⟩ := h
    rw [List.length_map] at ho
    have hfl := Eng.flat_length hfit
    rw [List.length_map] at hfl
    have hul := Owns.len ho
    have hrep : ∀ (j : Nat) t, (Eng.flat (ys.map fun y => one a (trc I φ a y)))[j]? = some t → ∃ v, us[j]? = some v ∧ RepT P w F t v := by
      intro j t hj
      have hjl := lt_of_get hj
      refine ⟨us[j]'(by omega), List.getElem?_eq_getElem _, ?_⟩
      have h1 := hc j t _ hj (List.getElem?_eq_getElem (by omega))
      obtain ⟨_, _, x, hx, hxc⟩ := flat_at hfit hj
      rw [List.getElem?_map, Option.map_eq_some_iff] at hx
      obtain ⟨y, _, rfl⟩ := hx
      rw [show one a (trc I φ a y) = tr I φ a y from rfl, tr_cells] at hxc
      obtain ⟨ft, z, h2, h3⟩ := trc_tys a y _ _ hxc
      rw [h3] at h1 ⊢
      exact repM_succ_scalar (scalar_flat a hs ft (List.mem_of_getElem? h2)) h1
    have hone : ∀ v ∈ us, v.oneCell' = true := by
      intro v hv
      obtain ⟨j, hj, hje⟩ := List.getElem_of_mem hv
      have hjt : (Eng.flat (ys.map fun y => one a (trc I φ a y)))[j]? = some ((Eng.flat (ys.map fun y => one a (trc I φ a y)))[j]'(by omega)) := List.getElem?_eq_getElem _
      obtain ⟨v', hv', hr⟩ := hrep j _ hjt
      rw [List.getElem?_eq_getElem hj, hje, Option.some.injEq] at hv'
      subst hv'
      obtain ⟨_, _, x, hx, hxc⟩ := flat_at hfit hjt
      rw [List.getElem?_map, Option.map_eq_some_iff] at hx
      obtain ⟨y, _, rfl⟩ := hx
      rw [show one a (trc I φ a y) = tr I φ a y from rfl, tr_cells] at hxc
      obtain ⟨ft, z, h1, h2⟩ := trc_tys a y _ _ hxc
      rw [h2] at hr
      exact rep_one' hr (flat_notAgg a ft (List.mem_of_getElem? h1)) (hnf ft (List.mem_of_getElem? h1))
    rcases ho with ho | ⟨h0, hu0, b, rfl⟩
    · rcases ho.2 with ⟨rfl, h0⟩ | ⟨g, cap, cur, rfl, _⟩
      · exact ⟨none, 0, 0, us, rfl, h0.symm, by rw [hul, h0], fun x hx => (by cases hx), fun _ => rfl, hone, hrep⟩
      · refine ⟨_, _, cap, us, rfl, rfl, hul, fun x hx j v hj => ?_, fun hx => (by cases hx), hone, hrep⟩
        simp only [Option.some.injEq] at hx
        subst hx
        rw [Eng.addr_add, Nat.zero_add]
        exact Owns.cell (.inl ho) j v hj
    · exact ⟨_, 0, 0, us, rfl, h0.symm, by rw [hul, h0], fun x hx j v hj => by rw [hu0] at hj; simp at hj, fun hx => (by cases hx), hone, hrep⟩
theorem flat_append (xs ys : List T) : Eng.flat (xs ++ ys) = Eng.flat xs ++ Eng.flat ys := by simp [Eng.flat]
theorem append_core {st : St L} {g : G} {w : World} (hi : Inv P I φ β st g w) {e : TypeId} {a : Ty} {xs ys : List a.den} {dd d : Nat} {ux uy : Value} {N : Nat → Prop} {el : TI} (hel : TiFacts P I e el) (hz : el.zok = true) (hty : el.ty = a) {t1 t2 ty : TypeId}
    (ht1 : P.underlying t1 = some (.slice e)) (ht2 : P.underlying t2 = some (.slice e)) (hok : elOk P e a = true)
    (hN : Free β g (injS I φ st) w N) (hx : RepM P w g.F (dd + 1) (trL I φ ⟨.sl e a, xs⟩) ux N) (hy : SrcOk P I φ w g.F e a ys uy) (hroom : room el.bytes (len (xs ++ ys)) = true) :
    ∃ v w' g', (Builtin.append_ #[t1, t2] ty #[ux, uy]).run P w = .ok v w' ∧ Pass P I φ st g w (newRoot st d none [.o 1 ⟨.sl e a, (xs ++ ys : List a.den)⟩]).1 g' w' ∧ Inv P I φ β (newRoot st d none [.o 1 ⟨.sl e a, (xs ++ ys : List a.den)⟩]).1 g' w' ∧
      ARep P I φ (newRoot st d none [.o 1 ⟨.sl e a, (xs ++ ys : List a.den)⟩]).1 g' w' (.ar ⟨d, (newRoot st d none [.o 1 ⟨.sl e a, (xs ++ ys : List a.den)⟩]).2, 0, 0, []⟩) v := by
  subst hty
  obtain ⟨q, z, hq, hqz, hsize, _, _⟩ := zok_info (I := I) (φ := φ) hel hz
  obtain ⟨q', hq', hqb, _⟩ := hel.bytes
  rw [hq, Option.some.injEq] at hq'
  subst hq'
  have hsz : q.size = P.cellsOf e := (cellsOf_info hq).symm
  rw [room_iff] at hroom
  simp only [len, List.length_append] at hroom
  have hx : RepM P w g.F (dd + 1) (.sl e false (xs.map fun y => one el.ty (trc I φ el.ty y))) ux N := hx
  obtain ⟨us, hown, hfit, Bs, hsp, hcell⟩ := hx
  rw [List.length_map] at hown
  obtain ⟨src, m, c, news, rfl, hm, hnl, hnews, hnone, hone, hrep⟩ := hy
  obtain ⟨b0, c0, hux⟩ : ∃ b0 c0, ux = .slice b0 xs.length c0 := by
    rcases hown with ho | ⟨h1, _, b, off, rfl⟩
    · rcases ho.2 with ⟨rfl, h0⟩ | ⟨g, cap, cur, rfl, _⟩
      · exact ⟨none, 0, by rw [h0]⟩
      · exact ⟨_, cap, rfl⟩
    · exact ⟨_, 0, by rw [h1]⟩
  have hb1 : (xs.length + m) * q.bytes ≤ 140737488355328 := by
    have h1 := hroom.1
    rw [hqb, hm]
    have h2 : (((xs.length + ys.length) * el.bytes : Nat) : Int) ≤ 140737488355328 := by rw [Int.natCast_mul]; exact h1
    omega
  have hb2 : xs.length + m ≤ 140737488355328 := by
    have h1 := hroom.2
    rw [hm]
    omega
  have hzs2 : z.cells.size = q.size := by rw [hsize, hsz]
  obtain ⟨v, w', hrun, hA⟩ := run_append2 (ty := ty) ht1 hq hqz hzs2 (by rw [hsz]; exact hown) (by rw [hsz]; exact hnl) hnews hnone hone hb2 hb1
  have hownN : ∀ b, ownB ux = some b → N b := hsp.1
  obtain ⟨hp1, hi1⟩ := inv_world hi (w' := w') (fun b hb hlt => hA.block b hlt fun he => by
      have := hN b (hownN b he)
      rcases hb with hb | hb
      · exact this.2.1 hb
      · exact this.1 hb) hA.size (fun b hlt hB => hA.block b (Nat.lt_of_lt_of_le hlt hi.k.size) fun he => by
      rcases (hN b (hownN b he)).2.2.2 with h | h
      · exact hB h
      · omega) hA.os hA.tape hA.output
  have hNe : Free β g (injS I φ st) w' (fun b => ∃ j, Bs j b) := fun b ⟨j, hb⟩ => by
    obtain ⟨h1, h2, h3, h4⟩ := hN b (hsp.2.1 j b hb).1
    exact ⟨h1, h2, Nat.lt_of_lt_of_le h3 hA.size, h4⟩
  obtain ⟨hp2, hi2⟩ := inv_give hi1 _ hNe
  have hN' : Free β { g with F := fun b => g.F b ∨ ∃ j, Bs j b } (injS I φ st) w' (fun b => ownB v = some b) := by
    intro b hb
    rcases hA.own b hb with h | ⟨h, h2⟩
    · obtain ⟨h1, h3, h4, h5⟩ := hN b (hownN b h)
      refine ⟨h1, fun hf => ?_, Nat.lt_of_lt_of_le h4 hA.size, h5⟩
      rcases hf with hf | ⟨j, hf⟩
      · exact h3 hf
      · exact (hsp.2.1 j b hf).2 h
    · refine ⟨fun hl => by have := live_lt hi hl; omega, fun hf => ?_, h2, .inr (Nat.le_trans hi.k.size h)⟩
      rcases hf with hf | ⟨j, hf⟩
      · have := hi.f b hf; omega
      · have := (hN b (hsp.2.1 j b hf).1).2.2.1; omega
  have hsame : SameOn (fun b => g.F b ∨ ∃ j, Bs j b) w w' := fun b hb hlt => hA.block b hlt fun he => by
    rcases hb with hb | ⟨j, hb⟩
    · exact (hN b (hownN b he)).2.1 hb
    · exact (hsp.2.1 j b hb).2 he
  obtain ⟨h4, h5⟩ := inv_new hi2 d none [(1, (⟨.sl e el.ty, (xs ++ ys : List el.ty.den)⟩ : L))] 0 (fun _ => v) (fun b => ownB v = some b) (fun j b => j = 0 ∧ ownB v = some b) hN'
    ⟨fun b hb => by simp at hb, fun j b hb => ⟨hb.2, by simp⟩, fun j k b hb hk => by rw [hb.1, hk.1]⟩ (fun e' he' => by cases he')
    (fun j d0 v0 hj => by
      cases j with
      | succ j => simp at hj
      | zero =>
        simp only [List.getElem?_cons_zero, Option.some.injEq, Prod.mk.injEq] at hj
        obtain ⟨rfl, rfl⟩ := hj
        refine ⟨_, rfl, ?_⟩
        show RepM P w' _ 1 (.sl e false ((xs ++ ys).map fun y => one el.ty (trc I φ el.ty y))) v _
        have hfitA : ∀ x ∈ ((xs ++ ys).map fun y => one el.ty (trc I φ el.ty y)), Eng.Fits P e x := by
          intro x hx
          obtain ⟨y, _, rfl⟩ := List.mem_map.1 hx
          exact elOk_fits hok y
        refine ⟨us ++ news, ?_, hfitA, fun _ _ => False, ⟨fun b hb => ⟨rfl, hb⟩, fun j b hb => hb.elim, fun j k b hb => hb.elim⟩, fun j t u hj hu => ?_⟩
        · have := hA.owns
          rw [hm, hsz] at this
          simpa using this
        · show RepT P w' _ t u
          rw [List.map_append, flat_append] at hj
          have hul : us.length = (Eng.flat (xs.map fun y => one el.ty (trc I φ el.ty y))).length := by
            rw [Owns.len hown, Eng.flat_length hfit, List.length_map]
          by_cases hlt : j < us.length
          · rw [List.getElem?_append_left (by omega)] at hj
            rw [List.getElem?_append_left hlt] at hu
            have := RepM.give dd (hcell j t u hj hu)
            exact this.mono (hsame.mono fun b hb => hb.imp id fun hb => ⟨j, hb⟩) fun b hb => hb.imp id fun hb => ⟨j, hb⟩
          · rw [List.getElem?_append_right (by omega)] at hj
            rw [List.getElem?_append_right (by omega)] at hu
            rw [← hul] at hj
            obtain ⟨v1, h1, h2⟩ := hrep _ t hj
            rw [hu, Option.some.injEq] at h1
            subst h1
            exact h2.mono (hsame.mono fun b hb => .inl hb) fun b hb => .inl hb)
  refine ⟨v, w', _, ?_, (hp1.trans hp2).trans h4, h5, arep_newar'⟩
  rw [hux] at hrun ⊢
  rw [run_append_types ht1 ht2 hq]
  exact hrun
theorem exec_builtinW {c : Call} {b : Builtin} {ac : Act} {w w' : World} {v : Sem Value} {z : Value} (ho : o.op = .call c) (hb : c.callee = .builtin b) (hv : ∀ q, builtin b c.argTypes o.type q (c.args.map ac.eval) = (do pure (.value (← v))))
    (h : v.run P w = .ok z w') : (execOp ac.eval o).run P w = .ok (.value z) w' := by
  unfold execOp
  simp only [ho]
  unfold resolve
  simp only [hb, Sem.run_bind, Sem.run_pure, Result.andThen_ok]
  unfold invoke
  simp only
  rw [hv]
  exact run_v h
theorem SrcOk.mono {w : World} {F F' : Nat → Prop} {e : TypeId} {a : Ty} {ys : List a.den} {u : Value} (h : SrcOk P I φ w F e a ys u) (hs : SameOn F w w) (hF : ∀ b, F b → F' b) : SrcOk P I φ w F' e a ys u := by
  obtain ⟨src, m, c, news, h1, h2, h3, h4, h5, h6, h7⟩ := h
  exact ⟨src, m, c, news, h1, h2, h3, h4, h5, h6, fun j t hj => by
    obtain ⟨v, h8, h9⟩ := h7 j t hj
    exact ⟨v, h8, h9.mono hs hF⟩⟩
theorem keepY_env {a : Ty} {y : AV L} : (keepY st a y).env = st.env ∧ (keepY st a y).gnv = st.gnv := by
  unfold keepY
  split
  · exact ⟨rfl, rfl⟩
  · exact freezeA_env y
theorem keepY_ok {e : TypeId} {a : Ty} {y : AV L} {ys : L} {g : G} {w : World} {uy : Value} (hf : FnsOk φ cs) (hi : Inv P I φ β st g w) (hys : pk cs st y = some ys) (hay : ARep P I φ st g w y uy) (hnf : ∀ ft ∈ a.flat, ∀ A B, ft ≠ .fn A B) :
    ∃ g1, Pass P I φ st g w (keepY st a y) g1 w ∧ Inv P I φ β (keepY st a y) g1 w ∧ ∀ yv : List a.den, ys = ⟨.sl e a, yv⟩ → SrcOk P I φ w g1.F e a yv uy := by
  unfold keepY
  split
  · rename_i hk
    simp only [Bool.and_eq_true] at hk
    refine ⟨g, Pass.refl _ _ _, hi, fun yv hyv => ?_⟩
    cases y with
    | ar l =>
      obtain ⟨r, s, d, _, _, _, _, _, _, _, B, hr, _⟩ := peekA_ok hi (cs := cs) hys hay
      subst hyv
      exact src_own hk.1 hr
    | _ => cases hk.2
  · obtain ⟨g1, h1, h2, h3⟩ := freezeA_ok hf hi y
    refine ⟨g1, h1, h2, fun yv hyv => ?_⟩
    subst hyv
    exact src_cells hnf (h3 _ _ hys hay)
theorem op_append {cl : Call} (hT : TabOk P I tb) (hf : FnsOk φ cs) (ho : o.op = .call cl) (hcal : cl.callee = .builtin .append) (hd : ∀ d, o.dst = some d → d < nt) (hself : selfOk gd o.dst = true)
    (h : @opK L (Option ρ) (semL cs) (semF ρ) (semR ρ cs ls) tb st gd o.dst o.type o.op k = some r) : ∃ st', k st' = some r ∧ Does P I φ β nt o st gd st' := by
  rw [ho] at h
  simp only [opK, hcal] at h
  rcases rootG_some h with ⟨hong, h0⟩ | ⟨g1, rfl, hoff, h0⟩
  rotate_left
  · split at h0
    · rename_i d t1 _ hdst _
      obtain ⟨i, _, h1⟩ := oCase_some h0
      split at h1
      · exact ⟨_, h1, does_off hdst (hd d hdst) hself hoff⟩
      · cases h1
    · cases h0
  clear h
  have h := h0
  clear h0
  split at h
  · rename_i x y t1 t2 d hargs htys hdst
    obtain ⟨ax, hax, h1⟩ := oCase_some h
    clear h
    obtain ⟨ay, hay, h⟩ := oCase_some h1
    clear h1
    obtain ⟨i, hti, h1⟩ := oCase_some h
    clear h
    obtain ⟨i2, hti2, h⟩ := oCase_some h1
    clear h1
    have hi1 := ti_facts (hT t1 i hti)
    have hi2 := ti_facts (hT t2 i2 hti2)
    split at h
    · rename_i e a hity
      obtain ⟨el, hel, h1⟩ := oCase_some h
      clear h
      have hel := ti_facts (hT e el hel)
      split at h1
      · cases h1
      · rename_i hcond
        simp only [Bool.and_eq_true, decide_eq_true_eq] at hcond
        obtain ⟨hity2, hz, hela⟩ := hcond
        obtain ⟨hp1, _, hok⟩ := sl_facts hi1 hity
        obtain ⟨hp2, _, _⟩ := sl_facts hi2 hity2
        obtain ⟨ys, hys, h⟩ := peek_pk h1
        clear h1
        have hnfa : ∀ ft ∈ a.flat, ∀ A B, ft ≠ .fn A B := hela ▸ zok_flat hel hz
        have fin : ∀ (st2 : St L) (xs : L), @oCase (Option ρ) (semF ρ) _ (@LAlg.appV L (semL cs) xs ys) "append" (fun zs => @oCase (Option ρ) (semF ρ) _ (@LAlg.lenV L (semL cs) zs) "append" fun n => @oCase (Option ρ) (semF ρ) _ (@LAlg.roomV L (semL cs) el.bytes n) "append" fun c =>
            @RAlg.check L (Option ρ) (semR ρ cs ls) (Option.map (fun x => x.c) gd) c (k (putE (newRoot st2 d none [.o 1 zs]).1 none d (.ar ⟨d, (newRoot st2 d none [.o 1 zs]).2, 0, 0, []⟩)))) = some r → xs.ty = .sl e a →
            st2.env = st.env ∧ st2.gnv = st.gnv →
            (∀ (w : World) (g : G) (ux uy : Value), Inv P I φ β st g w → ARep P I φ st g w ax ux → ARep P I φ st g w ay uy → ∃ g2 N dd, Pass P I φ st g w st2 g2 w ∧ Inv P I φ β st2 g2 w ∧ Free β g2 (injS I φ st2) w N ∧ RepM P w g2.F (dd + 1) (trL I φ xs) ux N ∧ ∀ yv : List a.den, ys = ⟨.sl e a, yv⟩ → SrcOk P I φ w g2.F e a yv uy) →
            ∃ st', k st' = some r ∧ Does P I φ β nt o st gd st' := by
          intro st2 xs hk hxt henv hmem
          clear h
          obtain ⟨zs, hzs, h1⟩ := oCase_some hk
          clear hk
          obtain ⟨n, hn, h⟩ := oCase_some h1
          clear h1
          obtain ⟨c, hc, h1⟩ := oCase_some h
          clear h
          obtain ⟨h, b, hb, hon⟩ := check_some h1
          clear h1
          have hon := hon (onL_of hong)
          subst hon
          obtain ⟨xty, xv⟩ := xs
          simp only at hxt
          subst hxt
          have hzs : appL ⟨.sl e a, xv⟩ ys = some zs := hzs
          simp only [appL] at hzs
          split at hzs
          · rename_i yv hyv
            simp only [Option.some.injEq] at hzs
            subst hzs
            have hyv := as_some hyv
            subst hyv
            have hn : lenLv ⟨.sl e a, ((xv : List a.den) ++ (yv : List a.den) : List a.den)⟩ = some n := hn
            simp only [lenLv, Option.some.injEq] at hn
            subst hn
            have hc : roomL el.bytes (mkI .i64 (len ((xv : List a.den) ++ (yv : List a.den)))) = some c := hc
            simp only [roomL, mkI, L.int, Option.some.injEq] at hc
            subst hc
            simp only [mkB, L.bool, Option.some.injEq] at hb
            refine ⟨_, h, does_newG hdst (hd d hdst) (by rw [newRoot_eq]; exact henv.1) (by rw [newRoot_eq]; exact henv.2) hong fun ac w g hi he hn hh => ?_⟩
            have hau := evalO_ok (P := P) (I := I) (φ := φ) (g := g) (w := w) he hn hh hax
            have hau2 := evalO_ok (P := P) (I := I) (φ := φ) (g := g) (w := w) he hn hh hay
            obtain ⟨g2, N, dd, h3, h4, h5, h6, h7⟩ := hmem w g _ _ hi hau hau2
            obtain ⟨v, w', g', h8, h9, h10, h11⟩ := append_core (ty := o.type) (d := d) h4 hel hz hela hp1 hp2 hok h5 h6 (h7 _ rfl) hb
            refine ⟨v, w', g', ?_, h3.trans h9, h10, h11⟩
            have hA : cl.args = #[x, y] := by rw [← Array.toArray_toList (xs := cl.args), hargs]
            have hB : cl.argTypes = #[t1, t2] := by rw [← Array.toArray_toList (xs := cl.argTypes), htys]
            refine exec_builtinW ho hcal (fun _ => rfl) ?_
            simpa [hA, hB] using h8
          · cases hzs
        split at h
        · rename_i e' a'
          split at h
          · rename_i hea
            simp only [Bool.and_eq_true, decide_eq_true_eq] at hea
            refine fin _ _ h rfl keepY_env fun w g ux uy hi hax hay => ?_
            obtain ⟨g1, h1, h2, h3⟩ := keepY_ok (a := a) hf hi hys hay hnfa
            refine ⟨g1, fun _ => False, 0, h1, h2, fun b hb => hb.elim, ?_, h3⟩
            cases hax with
            | zs _ _ _ hz => exact rep_zs_any (a := a) hz _ _
          · cases h
        · rename_i l
          split at h
          · rename_i s n v hst hc
            split at h
            · rename_i hs
              simp only [Bool.and_eq_true, decide_eq_true_eq] at hs
              have hs1 := (beq_iff _ _).1 hs.1
              have hvt : v.ty = .sl e a := hs.2
              refine fin _ _ h hvt ⟨(setCell_env _ _ _ _).1.trans keepY_env.1, (setCell_env _ _ _ _).2.trans keepY_env.2⟩ fun w g ux uy hi hax hay => ?_
              obtain ⟨g1, h1, h2, h3⟩ := keepY_ok (a := a) hf hi hys hay hnfa
              obtain ⟨r0, hr0, hg0, hcell⟩ := cellAt_iff.1 hc
              have hu := ar_root (h1.a _ _ hax) hr0 hg0 hcell hs1 (by rw [hvt]; rfl) hst
              obtain ⟨g2, u', N, h4, h5, h6, h7, h8, h9, _, _⟩ := inv_take h2 hr0 hcell
              rw [hu, Option.some.injEq] at h7
              subst h7
              refine ⟨g2, N, n, h1.trans h4, h5, h9, by rw [h6]; exact h8, fun yv hyv => (h3 yv hyv).mono h4.same h4.F⟩
            · cases h
          · cases h
        · cases h
    · cases h
  · cases h
end Go.Y
namespace Go.Y
open Go.Eng (T RepT RepM SRep Kept Base G SameOn VRep Split Live Free kn Owns ownB RootOk ERep)
variable {P : Program} {I : Ids} {φ : FnP} {β : Base} {nt : Nat} {cs : List (Nat × Con)}
theorem memN_iff {k : Nat} {l : List Nat} : memN k l = true ↔ k ∈ l := by
  induction l with
  | nil => simp [memN]
  | cons j r ih =>
    simp only [memN]
    by_cases h : j = k
    · subst h; simp [Nat.beq_refl]
    · simp [beq_false h, ih, Ne.symm h]
theorem get_keepSto (ks : List Nat) (sto : List (Nat × Root L)) (k : Nat) : get (keepSto ks sto) k = if k ∈ ks then get sto k else none := by
  induction sto with
  | nil => simp [keepSto, get]
  | cons p r ih =>
    obtain ⟨j, x⟩ := p
    simp only [keepSto]
    cases hm : memN j ks with
    | true =>
      have hj := memN_iff.1 hm
      simp only [get_cons, ih]
      by_cases hk : j = k
      · subst hk; simp [hj]
      · simp [hk]
    | false =>
      have hj : j ∉ ks := fun h => by rw [memN_iff.2 h] at hm; cases hm
      simp only [ih, get_cons]
      by_cases hk : j = k
      · subst hk; simp [hj]
      · simp [hk]
def cutSt (ks : List Nat) (st : St L) : St L := { st with sto := keepSto ks st.sto }
def cutBase (ks : List Nat) (st : St L) (g : G) (w : World) : Base := ⟨w, g.F, fun b => ∃ k r, k ∈ ks ∧ get st.sto k = some r ∧ g.B k b⟩
def Closed (ks : List Nat) (st : St L) : Prop := ∀ k r (c : Cell L) l, k ∈ ks → get st.sto k = some r → c ∈ r.cells → c.e = .rf l → l.root ∈ ks
theorem rootAt_cut {ks : List Nat} {st : St L} {l : Loc L} (h : l.root ∈ ks) : rootAt (cutSt ks st) l = rootAt st l := by
  unfold rootAt cutSt
  simp only [get_keepSto, if_pos h]
theorem get_injS_cut {ks : List Nat} {st : St L} (hc : Closed ks st) (k : Nat) : Eng.get (injS I φ (cutSt ks st)) k = if k ∈ ks then Eng.get (injS I φ st) k else none := by
  rw [get_injS, get_injS]
  simp only [cutSt, get_keepSto]
  split
  · rename_i hk
    cases hr : get st.sto k with
    | none => rfl
    | some r =>
      simp only [Option.map_some, Option.some.injEq, injR, Eng.Root.mk.injEq, true_and]
      refine List.map_congr_left fun c hcm => ?_
      cases he : c.e with
      | o d v => rfl
      | mv => rfl
      | rf l =>
        simp only [injE]
        have := rootAt_cut (st := st) (hc k r c l hk hr hcm he)
        unfold cutSt at this
        rw [this]
  · rfl
section
variable {sto sto' : List (Nat × Eng.Root)} {ks : List Nat} (h : ∀ k, k ∈ ks → Eng.get sto' k = Eng.get sto k)
include h
theorem at_in (l : Eng.Loc) (hl : l.root ∈ ks) : Eng.at_ sto' l = Eng.at_ sto l := by unfold Eng.at_; rw [h _ hl]
theorem locA_in (g : G) (w : World) (l : Eng.Loc) (hl : l.root ∈ ks) : Eng.locA P g w sto' l = Eng.locA P g w sto l := by unfold Eng.locA; rw [h _ hl]
theorem locV_in (g : G) (w : World) (l : Eng.Loc) (hl : l.root ∈ ks) : Eng.locV P g w sto' l = Eng.locV P g w sto l := by
  unfold Eng.locV; rw [h _ hl, locA_in h _ _ _ hl]
theorem there_in (l : Eng.Loc) (hl : l.root ∈ ks) : Eng.There sto' l ↔ Eng.There sto l := by
  unfold Eng.There
  split
  · rw [h _ hl]
  · rw [at_in h _ hl]
end
theorem arep_cut {ks : List Nat} {st : St L} (hc : Closed ks st) {g : G} {w : World} {l : Loc L} (hl : l.root ∈ ks) :
    (∀ u, ARep P I φ st g w (.ar l) u → ARep P I φ (cutSt ks st) g w (.ar l) u) ∧ ∀ u, ARep P I φ st g w (.pt l) u → ARep P I φ (cutSt ks st) g w (.pt l) u := by
  have hg : ∀ k, k ∈ ks → Eng.get (injS I φ (cutSt ks st)) k = Eng.get (injS I φ st) k := fun k hk => by rw [get_injS_cut hc, if_pos hk]
  have hb : bnd st l → bnd (cutSt ks st) l := fun ⟨r, h1, h2⟩ => ⟨r, by simp only [cutSt, get_keepSto, if_pos hl]; exact h1, h2⟩
  have hcell : cellAt (cutSt ks st) l = cellAt st l := by unfold cellAt; rw [rootAt_cut hl]
  refine ⟨fun u h => ?_, fun u h => ?_⟩
  · cases h with
    | ar _ _ h1 h2 =>
      refine .ar l u (hb h1) fun hv hs0 d e nl xs hat => ?_
      rw [at_in hg _ hl] at hat
      rw [locV_in hg _ _ _ hl]
      exact h2 (by obtain ⟨c, h3, h4⟩ := hv; exact ⟨c, by rw [← hcell]; exact h3, h4⟩) hs0 d e nl xs hat
  · cases h with
    | pt _ b o h1 h2 =>
      refine .pt l b o (hb h1) fun hv ht => ?_
      rw [there_in hg _ hl] at ht
      rw [locA_in hg _ _ _ hl]
      obtain ⟨⟨r, h3⟩, h4⟩ := hv
      exact h2 ⟨⟨r, by rw [← rootAt_cut hl]; exact h3⟩, fun hs => by obtain ⟨c, h5, h6⟩ := h4 hs; exact ⟨c, by rw [← hcell]; exact h5, h6⟩⟩ ht
theorem inv_cut {ks : List Nat} {st : St L} {g : G} {w : World} (h : Inv P I φ β st g w) (hc : Closed ks st) : Inv P I φ (cutBase ks st g w) (cutSt ks st) g w := by
  have hg := get_injS_cut (I := I) (φ := φ) hc
  have hin : ∀ k r, Eng.get (injS I φ (cutSt ks st)) k = some r → k ∈ ks ∧ Eng.get (injS I φ st) k = some r := by
    intro k r hr
    rw [hg] at hr
    split at hr
    · exact ⟨‹_›, hr⟩
    · cases hr
  refine ⟨⟨fun k r hr => ?_, fun k k' r r' h1 h2 => h.s.apart k k' r r' (hin k r h1).2 (hin k' r' h2).2, fun k r hr => h.s.own k r (hin k r hr).2⟩, ⟨rfl, rfl, rfl, Nat.le_refl _, fun _ _ _ => rfl, fun _ hb => hb, fun b hb => .inl hb, fun k r hr b hb => ?_⟩, ?_, h.f, ⟨h.globW, fun p hp ⟨k, r, _, hr, hb⟩ => h.globB hr hp hb⟩⟩
  · obtain ⟨hk, hr⟩ := hin k r hr
    obtain ⟨h1, Bs, hsp, hcell⟩ := h.s.root k r hr
    refine ⟨h1, Bs, hsp, fun j e hj => ?_⟩
    obtain ⟨u, hu, he⟩ := hcell j e hj
    refine ⟨u, hu, ?_⟩
    cases e with
    | o d t => exact he
    | mv => trivial
    | rf l =>
      rw [get_injS, Option.map_eq_some_iff] at hr
      obtain ⟨r0, hr0, rfl⟩ := hr
      simp only [injR, List.getElem?_map, Option.map_eq_some_iff] at hj
      obtain ⟨c, hcj, hce⟩ := hj
      have hlk : l.root ∈ ks := by
        cases hcc : c.e with
        | o d v => rw [hcc] at hce; cases hce
        | mv => rw [hcc] at hce; cases hce
        | rf l0 =>
          rw [hcc] at hce
          simp only [injE] at hce
          split at hce
          · simp only [Eng.E.rf.injEq] at hce
            subst hce
            exact hc k r0 c l0 hk hr0 (List.mem_of_getElem? hcj) hcc
          · cases hce
      have hg2 : ∀ k, k ∈ ks → Eng.get (injS I φ (cutSt ks st)) k = Eng.get (injS I φ st) k := fun k hk => by rw [hg, if_pos hk]
      have he : VRep P g w (injS I φ st) (.pt l) u := he
      cases he with
      | pt _ _ h2 => exact VRep.pt l u fun ht => by rw [locA_in hg2 _ _ _ hlk]; exact h2 ((there_in hg2 l hlk).1 ht)
  · obtain ⟨hk, hr⟩ := hin k r hr
    rw [get_injS, Option.map_eq_some_iff] at hr
    obtain ⟨r0, hr0, rfl⟩ := hr
    exact .inl ⟨k, r0, hk, hr0, hb⟩
  · intro k r c l hr hcm he
    simp only [cutSt, get_keepSto] at hr
    split at hr
    · rename_i hk
      obtain ⟨⟨r1, h1, h2⟩, h3⟩ := h.c k r c l hr hcm he
      exact ⟨⟨r1, by simp only [cutSt, get_keepSto, if_pos (hc k r c l hk hr hcm he)]; exact h1, h2⟩, h3⟩
    · cases hr
theorem get_dropSto (ks : List Nat) (sto : List (Nat × Root L)) (k : Nat) : get (dropSto ks sto) k = if k ∈ ks then none else get sto k := by
  induction sto with
  | nil => simp [dropSto, get]
  | cons p r ih =>
    obtain ⟨j, x⟩ := p
    simp only [dropSto]
    cases hm : memN j ks with
    | true =>
      have hj := memN_iff.1 hm
      simp only [ih, get_cons]
      by_cases hk : j = k
      · subst hk; simp [hj]
      · simp [hk]
    | false =>
      have hj : j ∉ ks := fun h => by rw [memN_iff.2 h] at hm; cases hm
      simp only [get_cons, ih]
      by_cases hk : j = k
      · subst hk; simp [hj]
      · simp [hk]
theorem get_putAll (l s : List (Nat × Root L)) (k : Nat) : get (putAll l s) k = match get l k with | some r => some r | none => get s k := by
  induction l with
  | nil => rfl
  | cons p r ih =>
    obtain ⟨j, x⟩ := p
    simp only [putAll, get_put, get_cons, ih]
    by_cases hk : k = j
    · subst hk; simp
    · simp [hk, Ne.symm hk]
theorem stoIn_get {ks : List Nat} : ∀ {sto : List (Nat × Root L)}, stoIn ks sto = true → ∀ k r, get sto k = some r → k ∈ ks
  | [], _, k, r, h => by simp [get] at h
  | (j, x) :: s, h, k, r, hr => by
    simp only [stoIn, Bool.and_eq_true] at h
    rw [get_cons] at hr
    split at hr
    · rename_i hj; subst hj; exact memN_iff.1 h.1
    · exact stoIn_get h.2 k r hr
theorem rfIn_mem {ks : List Nat} : ∀ {cells : List (Cell L)}, rfIn ks cells = true → ∀ c ∈ cells, ∀ l, c.e = .rf l → l.root ∈ ks
  | [], _, c, hc => by simp at hc
  | ⟨s, .rf l0⟩ :: r, h, c, hc => by
    simp only [rfIn, Bool.and_eq_true] at h
    rcases List.mem_cons.1 hc with rfl | hc
    · intro l he
      simp only [E.rf.injEq] at he
      subst he
      exact memN_iff.1 h.1
    · exact rfIn_mem h.2 c hc
  | ⟨s, .o d v⟩ :: r, h, c, hc => by
    rcases List.mem_cons.1 hc with rfl | hc
    · intro l he; cases he
    · exact rfIn_mem (cells := r) h c hc
  | ⟨s, .mv⟩ :: r, h, c, hc => by
    rcases List.mem_cons.1 hc with rfl | hc
    · intro l he; cases he
    · exact rfIn_mem (cells := r) h c hc
theorem closed_iff {ks : List Nat} {st : St L} (h : closed ks st.sto = true) : Closed ks st := by
  have key : ∀ sto : List (Nat × Root L), closed ks sto = true → ∀ k r, k ∈ ks → get sto k = some r → rfIn ks r.cells = true := by
    intro sto
    induction sto with
    | nil => intro _ k r _ hr; simp [get] at hr
    | cons p s ih =>
      obtain ⟨j, x⟩ := p
      intro h k r hk hr
      simp only [closed, Bool.and_eq_true, Bool.or_eq_true, Bool.not_eq_true'] at h
      rw [get_cons] at hr
      split at hr
      · rename_i hj
        simp only [Option.some.injEq] at hr
        subst hj; subst hr
        rcases h.1 with h1 | h1
        · rw [memN_iff.2 hk] at h1; cases h1
        · exact h1
      · exact ih h.2 k r hk hr
  exact fun k r c l hk hr hc he => rfIn_mem (key _ h k r hk hr) c hc l he
def mergeSt (ks : List Nat) (st st' : St L) : St L := { st with sto := mergeSto ks st.sto st'.sto }
theorem get_merge {ks : List Nat} {st st' : St L} (hin : ∀ k r, get st'.sto k = some r → k ∈ ks) (k : Nat) : get (mergeSt ks st st').sto k = if k ∈ ks then get st'.sto k else get st.sto k := by
  simp only [mergeSt, mergeSto, get_putAll, get_dropSto]
  cases hr : get st'.sto k with
  | some r => simp [hin k r hr]
  | none => simp
theorem Pass.gens {st st' : St L} {g g' : G} {w w' : World} (h : Pass P I φ st g w st' g' w') {k : Nat} {r : Root L} (hr : get st.sto k = some r) : ∃ r', get st'.sto k = some r' ∧ r.gen ≤ r'.gen := by
  have h1 : ARep P I φ st g w (.ar ⟨k, r.gen, r.cells.length, 0, []⟩) undef := by
    refine .ar _ _ ⟨r, hr, Nat.le_refl _, fun _ c _ => Nat.zero_le _⟩ fun ⟨c, h2, _⟩ => ?_
    obtain ⟨r1, h3, _, h5⟩ := cellAt_iff.1 h2
    rw [hr, Option.some.injEq] at h3
    subst h3
    simp at h5
  have h2 := h.a _ _ h1
  cases h2 with
  | ar _ _ hb _ =>
    obtain ⟨r', h3, h4, _⟩ := hb
    exact ⟨r', h3, h4⟩
def mergeG (ks : List Nat) (g g' : G) : G := by
  classical exact ⟨g'.F, fun k b => if k ∈ ks then g'.B k b else g.B k b, fun k => if k ∈ ks then g'.ad k else g.ad k, fun k => if k ∈ ks then g'.vv k else g.vv k⟩
theorem rootAt_merge_in {ks : List Nat} {st st' : St L} (hin : ∀ k r, get st'.sto k = some r → k ∈ ks) {l : Loc L} (h : l.root ∈ ks) : rootAt (mergeSt ks st st') l = rootAt st' l := by
  unfold rootAt; rw [get_merge hin, if_pos h]
theorem rootAt_merge_out {ks : List Nat} {st st' : St L} (hin : ∀ k r, get st'.sto k = some r → k ∈ ks) {l : Loc L} (h : l.root ∉ ks) : rootAt (mergeSt ks st st') l = rootAt st l := by
  unfold rootAt; rw [get_merge hin, if_neg h]
def Like (a b : Option Eng.Root) : Prop := (a = none ∧ b = none) ∨ ∃ rA rB, a = some rA ∧ b = some rB ∧ rA.mem = rB.mem ∧ ∀ (j d : Nat) (t : T), rA.cells[j]? = some (Eng.E.o d t) ↔ rB.cells[j]? = some (Eng.E.o d t)
theorem like_cell {rA rB : Eng.Root} (hs : ∀ (j d : Nat) (t : T), rA.cells[j]? = some (Eng.E.o d t) ↔ rB.cells[j]? = some (Eng.E.o d t)) {ρ : Type} (f : Nat → T → ρ) (z : ρ) (j : Nat) :
    (match rA.cells[j]? with | some (.o d t) => f d t | _ => z) = (match rB.cells[j]? with | some (.o d t) => f d t | _ => z) := by
  cases hA : rA.cells[j]? with
  | some e => cases e with
    | o d t => rw [(hs j d t).1 hA]
    | rf l1 => cases hB : rB.cells[j]? with
      | some e2 => cases e2 with
        | o d t => have := (hs j d t).2 hB; rw [hA] at this; cases this
        | _ => rfl
      | none => rfl
    | mv => cases hB : rB.cells[j]? with
      | some e2 => cases e2 with
        | o d t => have := (hs j d t).2 hB; rw [hA] at this; cases this
        | _ => rfl
      | none => rfl
  | none => cases hB : rB.cells[j]? with
    | some e2 => cases e2 with
      | o d t => have := (hs j d t).2 hB; rw [hA] at this; cases this
      | _ => rfl
    | none => rfl
section like
variable {sa sb : List (Nat × Eng.Root)} {l : Eng.Loc} (h : Like (Eng.get sa l.root) (Eng.get sb l.root))
include h
theorem like_at : Eng.at_ sa l = Eng.at_ sb l := by
  unfold Eng.at_
  rcases h with ⟨h1, h2⟩ | ⟨rA, rB, h1, h2, _, hs⟩
  · rw [h1, h2]
  · rw [h1, h2]
    exact like_cell hs (fun d t => Eng.walkT d t l.steps) none l.off
theorem like_there : Eng.There sa l ↔ Eng.There sb l := by
  unfold Eng.There
  split
  · rcases h with ⟨h1, h2⟩ | ⟨rA, rB, h1, h2, hm, hs⟩
    · simp [h1, h2]
    · simp [h1, h2, hm]
  · rw [like_at h]
theorem like_locA {ga gb : G} (h1 : ga.ad l.root = gb.ad l.root) (h2 : ga.vv l.root = gb.vv l.root) (w : World) : Eng.locA P ga w sa l = Eng.locA P gb w sb l := by
  unfold Eng.locA
  rcases h with ⟨e1, e2⟩ | ⟨rA, rB, e1, e2, hm, hs⟩
  · rw [e1, e2]
  · rw [e1, e2]
    simp only
    cases l.steps with
    | nil => simp only [hm, h1]
    | cons q s =>
      simp only
      have hrv : ∀ j, Eng.rootV ga w l.root rA j = Eng.rootV gb w l.root rB j := by intro j; unfold Eng.rootV; rw [hm, h1, h2]
      rw [hrv]
      exact like_cell hs (fun _ t => (Eng.rootV gb w l.root rB l.off).bind fun u => Eng.walkA P w t u q s) none l.off
theorem like_locV {ga gb : G} (h1 : ga.ad l.root = gb.ad l.root) (h2 : ga.vv l.root = gb.vv l.root) (w : World) : Eng.locV P ga w sa l = Eng.locV P gb w sb l := by
  have hA := like_locA (P := P) h h1 h2 w
  unfold Eng.locV
  rw [hA]
  cases l.steps with
  | nil =>
    simp only
    rcases h with ⟨e1, e2⟩ | ⟨rA, rB, e1, e2, hm, hs⟩
    · rw [e1, e2]; rfl
    · rw [e1, e2]
      simp only [Option.bind_some]
      unfold Eng.rootV
      rw [hm, h1, h2]
  | cons q s => rfl
end like
def outE : Eng.E → Eng.E
  | .rf _ => .mv
  | e => e
def outS (I : Ids) (φ : FnP) (ks : List Nat) (st : St L) : List (Nat × Eng.Root) := (dropSto ks st.sto).map fun p => (p.1, ⟨p.2.mem, (injR I φ st p.2).cells.map outE⟩)
theorem get_outS (ks : List Nat) (st : St L) (k : Nat) : Eng.get (outS I φ ks st) k = if k ∈ ks then none else (get st.sto k).map fun r => ⟨r.mem, (injR I φ st r).cells.map outE⟩ := by
  unfold outS
  rw [eget_map (fun r : Root L => (⟨r.mem, (injR I φ st r).cells.map outE⟩ : Eng.Root)), get_dropSto]
  split <;> simp_all
theorem outE_o {e : Eng.E} {d : Nat} {t : T} : outE e = .o d t ↔ e = .o d t := by
  cases e <;> simp [outE]
section merge
variable {ks : List Nat} {st st' : St L} {g g' : G} {w w' : World}
theorem get_injS_in (hin : ∀ k r, get st'.sto k = some r → k ∈ ks) (hc' : CBnd st') {k : Nat} (hk : k ∈ ks) : Eng.get (injS I φ (mergeSt ks st st')) k = Eng.get (injS I φ st') k := by
  rw [get_injS, get_injS, get_merge hin, if_pos hk]
  cases hr : get st'.sto k with
  | none => rfl
  | some r =>
    simp only [Option.map_some, Option.some.injEq, injR, Eng.Root.mk.injEq, true_and]
    refine List.map_congr_left fun c hcm => ?_
    cases he : c.e with
    | o d v => rfl
    | mv => rfl
    | rf l =>
      obtain ⟨⟨r', h1, _⟩, _⟩ := hc' k r c l hr hcm he
      simp only [injE, rootAt_merge_in hin (hin _ _ h1)]
theorem arep_merge (hin : ∀ k r, get st'.sto k = some r → k ∈ ks) (hc' : CBnd st') {x : AV L} {u : Value} (h : ARep P I φ st' g' w' x u) : ARep P I φ (mergeSt ks st st') (mergeG ks g g') w' x u := by
  have hg : ∀ k, k ∈ ks → Eng.get (injS I φ (mergeSt ks st st')) k = Eng.get (injS I φ st') k := fun k hk => get_injS_in hin hc' hk
  have hb : ∀ l : Loc L, bnd st' l → l.root ∈ ks ∧ bnd (mergeSt ks st st') l := by
    rintro l ⟨r, h1, h2⟩
    have := hin _ _ h1
    exact ⟨this, r, by rw [get_merge hin, if_pos this]; exact h1, h2⟩
  have hcell : ∀ l : Loc L, l.root ∈ ks → cellAt (mergeSt ks st st') l = cellAt st' l := fun l hl => by unfold cellAt; rw [rootAt_merge_in hin hl]
  have hrv : ∀ (l : Eng.Loc) (r : Eng.Root) j, l.root ∈ ks → Eng.rootV (mergeG ks g g') w' l.root r j = Eng.rootV g' w' l.root r j := by
    intro l r j hl
    unfold Eng.rootV mergeG
    simp only [if_pos hl]
  have hA : ∀ (l : Eng.Loc), l.root ∈ ks → Eng.locA P (mergeG ks g g') w' (injS I φ (mergeSt ks st st')) l = Eng.locA P g' w' (injS I φ st') l := by
    intro l hl
    rw [locA_in hg _ _ l hl]
    unfold Eng.locA
    cases Eng.get (injS I φ st') l.root with
    | none => rfl
    | some r =>
      simp only
      cases l.steps with
      | nil => simp only [mergeG, if_pos hl]
      | cons q s => simp only [hrv l r _ hl]
  have hV : ∀ (l : Eng.Loc), l.root ∈ ks → Eng.locV P (mergeG ks g g') w' (injS I φ (mergeSt ks st st')) l = Eng.locV P g' w' (injS I φ st') l := by
    intro l hl
    unfold Eng.locV
    rw [hA l hl, hg _ hl]
    cases l.steps with
    | nil => simp only [hrv l _ _ hl]
    | cons q s => rfl
  induction h with
  | lf v u h => exact .lf v u h
  | zs e a u h => exact .zs e a u h
  | tl v b n h => exact .tl v b n h
  | ar l u hb1 h =>
    obtain ⟨hl, hb2⟩ := hb l hb1
    refine .ar l u hb2 fun hv hs0 d e nl xs hat => ?_
    rw [at_in hg _ hl] at hat
    rw [hV _ hl]
    exact h (by obtain ⟨c, h3, h4⟩ := hv; exact ⟨c, by rw [← hcell l hl]; exact h3, h4⟩) hs0 d e nl xs hat
  | pt l b o hb1 h =>
    obtain ⟨hl, hb2⟩ := hb l hb1
    refine .pt l b o hb2 fun hv ht => ?_
    rw [there_in hg _ hl] at ht
    rw [hA _ hl]
    obtain ⟨⟨r, h3⟩, h4⟩ := hv
    exact h ⟨⟨r, by rw [← rootAt_merge_in hin hl]; exact h3⟩, fun hs => by obtain ⟨c, h5, h6⟩ := h4 hs; exact ⟨c, by rw [← hcell l hl]; exact h5, h6⟩⟩ ht
  | fp v b o us hF hc hr => exact .fp v b o us hF hc hr
  | ag t cs vs us hl hv _ ih => exact .ag t cs vs us hl hv ih
  | tu cs vs us hl hv _ ih => exact .tu cs vs us hl hv ih
  | fn f cs vs us hl hv _ ih => exact .fn f cs vs us hl hv ih
  | u u => exact .u u
theorem merge_ok (h : Inv P I φ β st g w) (hc : Closed ks st) (hp : Pass P I φ (cutSt ks st) g w st' g' w') (h' : Inv P I φ (cutBase ks st g w) st' g' w') (hin : ∀ k r, get st'.sto k = some r → k ∈ ks) :
    Pass P I φ st g w (mergeSt ks st st') (mergeG ks g g') w' ∧ Inv P I φ β (mergeSt ks st st') (mergeG ks g g') w' := by
  have hgin : ∀ k, k ∈ ks → Eng.get (injS I φ (mergeSt ks st st')) k = Eng.get (injS I φ st') k := fun k hk => get_injS_in hin h'.c hk
  have hout : ∀ k r b, k ∉ ks → get st.sto k = some r → g.B k b → ¬ g.F b ∧ b < w.heap.size ∧ ¬ (cutBase ks st g w).B b := by
    intro k r b hk hr hb
    have hr' : Eng.get (injS I φ st) k = some (injR I φ st r) := by rw [get_injS, hr]; rfl
    obtain ⟨h1, h2⟩ := h.s.own k _ hr' b hb
    refine ⟨h1, h2, fun ⟨k2, r2, hk2, hr2, hb2⟩ => hk ?_⟩
    have := h.s.apart k k2 _ _ hr' (by rw [get_injS, hr2]; rfl) b hb hb2
    rw [this]; exact hk2
  have hsameB : SameOn (fun b => g.F b ∨ ∃ k r, k ∉ ks ∧ get st.sto k = some r ∧ g.B k b) w w' := by
    intro b hb hlt
    rcases hb with hb | ⟨k, r, hk, hr, hb⟩
    · exact hp.same b hb hlt
    · exact h'.k.block b hlt (hout k r b hk hr hb).2.2
  have hgen : ∀ l : Loc L, bnd st l → l.root ∈ ks → ∀ r', rootAt st' l = some r' → ∃ r, rootAt st l = some r := by
    rintro l ⟨r, h1, h2, _⟩ hl r' hr'
    obtain ⟨h3, h4⟩ := rootAt_iff.1 hr'
    obtain ⟨r2, h5, h6⟩ := hp.gens (k := l.root) (r := r) (by simp only [cutSt, get_keepSto, if_pos hl]; exact h1)
    rw [h3, Option.some.injEq] at h5
    subst h5
    exact ⟨r, rootAt_iff.2 ⟨h1, by omega⟩⟩
  have hlikeS : ∀ l : Eng.Loc, l.root ∉ ks → Like (Eng.get (outS I φ ks st) l.root) (Eng.get (injS I φ st) l.root) := by
    intro l hl
    rw [get_outS, if_neg hl, get_injS]
    cases hr : get st.sto l.root with
    | none => exact .inl ⟨rfl, rfl⟩
    | some r =>
      refine .inr ⟨_, _, rfl, rfl, rfl, fun j d t => ?_⟩
      rw [List.getElem?_map]
      cases (injR I φ st r).cells[j]? with
      | none => simp
      | some e => simp [outE_o]
  have hlikeM : ∀ l : Eng.Loc, l.root ∉ ks → Like (Eng.get (injS I φ (mergeSt ks st st')) l.root) (Eng.get (outS I φ ks st) l.root) := by
    intro l hl
    rw [get_outS, if_neg hl, get_injS, get_merge hin, if_neg hl]
    cases hr : get st.sto l.root with
    | none => exact .inl ⟨rfl, rfl⟩
    | some r =>
      refine .inr ⟨_, _, rfl, rfl, rfl, fun j d t => ?_⟩
      simp only [injR, List.getElem?_map, Option.map_map]
      cases r.cells[j]? with
      | none => simp
      | some c =>
        simp only [Option.map_some, Option.some.injEq, Function.comp, outE_o]
        cases c.e with
        | o d v => exact Iff.rfl
        | mv => exact Iff.rfl
        | rf l => simp only [injE]; constructor <;> (intro h; split at h <;> cases h)
  have hSout : SRep P g (outS I φ ks st) w := by
    have hget : ∀ k r, Eng.get (outS I φ ks st) k = some r → k ∉ ks ∧ ∃ r0, Eng.get (injS I φ st) k = some r0 ∧ r.mem = r0.mem ∧ r.cells = r0.cells.map outE := by
      intro k r hr
      rw [get_outS] at hr
      split at hr
      · cases hr
      · rename_i hk
        rw [Option.map_eq_some_iff] at hr
        obtain ⟨r0, h1, rfl⟩ := hr
        exact ⟨hk, injR I φ st r0, by rw [get_injS, h1]; rfl, rfl, rfl⟩
    refine ⟨fun k r hr => ?_, fun k k' r r' h1 h2 => ?_, fun k r hr => ?_⟩
    · obtain ⟨hk, r0, h1, h2, h3⟩ := hget k r hr
      obtain ⟨h4, Bs, hsp, hcell⟩ := h.s.root k r0 h1
      refine ⟨fun e he => ?_, Bs, by rw [h2]; exact hsp, fun j e hj => ?_⟩
      · obtain ⟨cs, h5, h6⟩ := h4 e (by rw [← h2]; exact he)
        exact ⟨cs, h5, by rw [h3]; simpa using h6⟩
      · rw [h3, List.getElem?_map, Option.map_eq_some_iff] at hj
        obtain ⟨e0, hj0, rfl⟩ := hj
        obtain ⟨u, hu, he⟩ := hcell j e0 hj0
        refine ⟨u, by unfold Eng.rootV at hu ⊢; rw [h2]; exact hu, ?_⟩
        cases e0 with
        | o d t => exact he
        | rf l => trivial
        | mv => trivial
    · obtain ⟨_, r0, h3, _⟩ := hget k r h1
      obtain ⟨_, r1, h4, _⟩ := hget k' r' h2
      exact h.s.apart k k' r0 r1 h3 h4
    · obtain ⟨_, r0, h3, _⟩ := hget k r hr
      exact h.s.own k r0 h3
  have hLout : SameOn (Live g (outS I φ ks st)) w w' := hsameB.mono fun b ⟨k, r, hr, hb⟩ => by
    rw [get_outS] at hr
    split at hr
    · cases hr
    · rename_i hk
      rw [Option.map_eq_some_iff] at hr
      obtain ⟨r0, h1, _⟩ := hr
      exact .inr ⟨k, r0, hk, h1, hb⟩
  have hgad : ∀ k, k ∉ ks → (mergeG ks g g').ad k = g.ad k ∧ (mergeG ks g g').vv k = g.vv k ∧ (mergeG ks g g').B k = g.B k := fun k hk => by simp only [mergeG, if_neg hk, and_self]
  have hAout : ∀ l : Eng.Loc, l.root ∉ ks → Eng.There (injS I φ st) l → Eng.locA P (mergeG ks g g') w' (injS I φ (mergeSt ks st st')) l = Eng.locA P g w (injS I φ st) l := by
    intro l hl ht
    rw [like_locA (P := P) (hlikeM l hl) (hgad _ hl).1 (hgad _ hl).2.1 w', Eng.locA_same hLout hSout l ((like_there (hlikeS l hl)).2 ht), like_locA (P := P) (hlikeS l hl) rfl rfl w]
  have hVout : ∀ (l : Eng.Loc) x, l.root ∉ ks → Eng.at_ (injS I φ st) l = some x → Eng.locV P (mergeG ks g g') w' (injS I φ (mergeSt ks st st')) l = Eng.locV P g w (injS I φ st) l := by
    intro l x hl hx
    rw [like_locV (P := P) (hlikeM l hl) (hgad _ hl).1 (hgad _ hl).2.1 w', Eng.locV_same hLout hSout l (x := x) (by rw [like_at (hlikeS l hl)]; exact hx), like_locV (P := P) (hlikeS l hl) rfl rfl w]
  have hatout : ∀ l : Eng.Loc, l.root ∉ ks → Eng.at_ (injS I φ (mergeSt ks st st')) l = Eng.at_ (injS I φ st) l := fun l hl => by rw [like_at (hlikeM l hl), like_at (hlikeS l hl)]
  have hthout : ∀ l : Eng.Loc, l.root ∉ ks → (Eng.There (injS I φ (mergeSt ks st st')) l ↔ Eng.There (injS I φ st) l) := fun l hl => by rw [like_there (hlikeM l hl), like_there (hlikeS l hl)]
  have hgetout' : ∀ {k}, k ∉ ks → get (mergeSt ks st st').sto k = get st.sto k := fun hk => by rw [get_merge hin, if_neg hk]
  have hbndout : ∀ l : Loc L, l.root ∉ ks → bnd st l → bnd (mergeSt ks st st') l := fun l hl ⟨r, h1, h2⟩ => ⟨r, by rw [get_merge hin, if_neg hl]; exact h1, h2⟩
  have hcellout : ∀ l : Loc L, l.root ∉ ks → cellAt (mergeSt ks st st') l = cellAt st l := fun l hl => by unfold cellAt; rw [rootAt_merge_out hin hl]
  have hname : ∀ x u, ARep P I φ st g w x u → ARep P I φ (mergeSt ks st st') (mergeG ks g g') w' x u := by
    intro x u hx
    induction hx with
    | lf v u h => exact .lf v u (h.mono hp.same hp.F)
    | zs e a u h => exact .zs e a u h
    | tl v b n h => exact .tl v b n (h.mono hp.same hp.F)
    | ar l u hb h1 =>
      by_cases hl : l.root ∈ ks
      · exact arep_merge hin h'.c (hp.a _ _ ((arep_cut hc hl).1 u (.ar l u hb h1)))
      · refine .ar l u (hbndout l hl hb) fun hv hs0 d e nl xs hat => ?_
        rw [hatout _ hl] at hat
        rw [hVout (injLoc l) _ hl hat]
        exact h1 (by obtain ⟨c, h3, h4⟩ := hv; exact ⟨c, by rw [← hcellout l hl]; exact h3, h4⟩) hs0 d e nl xs hat
    | pt l b o hb h1 =>
      by_cases hl : l.root ∈ ks
      · exact arep_merge hin h'.c (hp.a _ _ ((arep_cut hc hl).2 _ (.pt l b o hb h1)))
      · refine .pt l b o (hbndout l hl hb) fun hv ht => ?_
        rw [hthout _ hl] at ht
        rw [hAout (injLoc l) hl ht]
        obtain ⟨⟨r, h3⟩, h4⟩ := hv
        exact h1 ⟨⟨r, by rw [← rootAt_merge_out hin hl]; exact h3⟩, fun hs => by obtain ⟨c, h5, h6⟩ := h4 hs; exact ⟨c, by rw [← hcellout l hl]; exact h5, h6⟩⟩ ht
    | fp v b o us hF hcc hr => exact .fp v b o us (hp.F _ hF) (fun j t hj => hp.same.cell (a := ⟨b, o + j, none⟩) hF (hcc j t hj)) fun j t hj => (hr j t hj).mono hp.same hp.F
    | ag t cs vs us hl hv _ ih => exact .ag t cs vs us hl hv ih
    | tu cs vs us hl hv _ ih => exact .tu cs vs us hl hv ih
    | fn f cs vs us hl hv _ ih => exact .fn f cs vs us hl hv ih
    | u u => exact .u u
  refine ⟨⟨hname, fun b hb => hp.F b hb, hp.same, hp.size⟩, ⟨⟨fun k r hr => ?_, fun k k' r r' hr hr' b hb hb' => ?_, fun k r hr b hb => ?_⟩, ⟨?_, ?_, ?_, ?_, ?_, ?_, ?_, ?_⟩, ?_, ?_, (by first | assumption | exact Inv.gl (by assumption))⟩⟩
  ·
    by_cases hk : k ∈ ks
    · have hr2 := hr
      rw [hgin k hk] at hr2
      obtain ⟨h1, Bs, hsp, hcell⟩ := h'.s.root k r hr2
      have hm : (mergeG ks g g').ad k = g'.ad k ∧ (mergeG ks g g').vv k = g'.vv k ∧ (mergeG ks g g').B k = g'.B k := by simp only [mergeG, if_pos hk, and_self]
      refine ⟨fun e he => by rw [hm.1]; exact h1 e he, Bs, by rw [hm.1, hm.2.2]; exact hsp, fun j e hj => ?_⟩
      obtain ⟨u, hu, he⟩ := hcell j e hj
      refine ⟨u, by unfold Eng.rootV at hu ⊢; rw [hm.1, hm.2.1]; exact hu, ?_⟩
      cases e with
      | o d t => exact he
      | mv => trivial
      | rf l =>
        rw [get_injS, Option.map_eq_some_iff] at hr2
        obtain ⟨r0, hr0, rfl⟩ := hr2
        simp only [injR, List.getElem?_map, Option.map_eq_some_iff] at hj
        obtain ⟨c, hcj, hce⟩ := hj
        have hlk : l.root ∈ ks := by
          cases hcc : c.e with
          | o d v => rw [hcc] at hce; cases hce
          | mv => rw [hcc] at hce; cases hce
          | rf l0 =>
            rw [hcc] at hce
            simp only [injE] at hce
            split at hce
            · simp only [Eng.E.rf.injEq] at hce
              subst hce
              obtain ⟨⟨r1, h5, _⟩, _⟩ := h'.c k r0 c l0 hr0 (List.mem_of_getElem? hcj) hcc
              exact hin _ _ h5
            · cases hce
        have he : VRep P g' w' (injS I φ st') (.pt l) u := he
        cases he with
        | pt _ _ h2 =>
          refine VRep.pt l u fun ht => ?_
          have hgi : ∀ k, k ∈ ks → Eng.get (injS I φ (mergeSt ks st st')) k = Eng.get (injS I φ st') k := hgin
          obtain ⟨a, ha, hua⟩ := h2 ((there_in hgi l hlk).1 ht)
          refine ⟨a, ?_, hua⟩
          rw [locA_in hgi _ _ l hlk]
          unfold Eng.locA at ha ⊢
          cases hg : Eng.get (injS I φ st') l.root with
          | none => rw [hg] at ha; exact ha
          | some r2 =>
            rw [hg] at ha
            simp only at ha ⊢
            have hm2 : (mergeG ks g g').ad l.root = g'.ad l.root ∧ (mergeG ks g g').vv l.root = g'.vv l.root := by simp only [mergeG, if_pos hlk, and_self]
            have hrv : ∀ j, Eng.rootV (mergeG ks g g') w' l.root r2 j = Eng.rootV g' w' l.root r2 j := by intro j; unfold Eng.rootV; rw [hm2.1, hm2.2]
            cases hs : l.steps with
            | nil => simp only [hs, hm2.1] at ha ⊢; exact ha
            | cons q s => simp only [hs, hrv] at ha ⊢; exact ha
    · have hr2 := hr
      rw [get_injS, hgetout' hk, Option.map_eq_some_iff] at hr2
      obtain ⟨r0, hr0, rfl⟩ := hr2
      obtain ⟨h1, Bs, hsp, hcell⟩ := h.s.root k (injR I φ st r0) (by rw [get_injS, hr0]; rfl)
      have hm := hgad k hk
      have hBk : SameOn (fun b => g.F b ∨ g.B k b) w w' := hsameB.mono fun b hb => hb.imp id fun hb => ⟨k, r0, hk, hr0, hb⟩
      refine ⟨fun e he => ?_, Bs, by rw [hm.1, hm.2.2]; exact hsp, fun j e hj => ?_⟩
      · obtain ⟨cs0, h2, h3⟩ := h1 e he
        refine ⟨cs0, ?_, by rw [h3]; simp [injR]⟩
        rw [hm.1, hBk (g.ad k) (.inr (hsp.1 _ (by simp only [injR] at he ⊢; rw [he]; rfl))) (Array.getElem?_eq_some_iff.1 h2).1]
        exact h2
      · simp only [injR, List.getElem?_map, Option.map_eq_some_iff] at hj
        obtain ⟨c, hcj, rfl⟩ := hj
        obtain ⟨u, hu, he⟩ := hcell j (injE I φ st c.e) (by simp [injR, List.getElem?_map, hcj])
        have hu' : Eng.rootV (mergeG ks g g') w' k (injR I φ (mergeSt ks st st') r0) j = some u := by
          have h2 := Eng.rootV_same (g := g) (k := k) (r := injR I φ st r0) (j := j) (S := g.B k) (hBk.mono fun b hb => .inr hb) (fun e he => hsp.1 _ (by simp only [injR] at he ⊢; rw [he]; rfl)) hu
          unfold Eng.rootV at h2 ⊢
          rw [hm.1, hm.2.1]
          exact h2
        refine ⟨u, hu', ?_⟩
        cases hce : c.e with
        | o d v =>
          rw [hce] at he
          exact RepM.mono d (hBk.mono fun b hb => hb.imp id fun hb => (hsp.2.1 j b hb).1) (fun b hb => hp.F b hb) (fun _ hb => hb) he
        | mv => trivial
        | rf l =>
          rw [hce] at he
          simp only [injE] at he ⊢
          obtain ⟨hbl, hls⟩ := h.c k r0 c l hr0 (List.mem_of_getElem? hcj) hce
          by_cases hl : l.root ∈ ks
          · rw [rootAt_merge_in hin hl]
            cases hr' : rootAt st' l with
            | none => trivial
            | some r' =>
              obtain ⟨r1, hr1⟩ := hgen l hbl hl r' hr'
              rw [hr1] at he
              simp only at he ⊢
              have he : VRep P g w (injS I φ st) (.pt (injLoc l)) u := he
              cases he with
              | pt _ _ h2 =>
                refine VRep.pt _ u fun ht => ?_
                by_cases hts : Eng.There (injS I φ st) (injLoc l)
                · obtain ⟨a, ha, rfl⟩ := h2 hts
                  obtain ⟨ab, ao, asp⟩ := a
                  have hsp0 : asp = none := Eng.locA_spot ha
                  subst hsp0
                  have hx := hname (.pt l) (.pointer (some ⟨ab, ao, none⟩)) (.pt l ab ao hbl fun _ _ => ha)
                  cases hx with
                  | pt _ _ _ _ h3 => exact ⟨_, h3 ⟨⟨r', by rw [rootAt_merge_in hin hl]; exact hr'⟩, fun hs => absurd hls hs⟩ ht, rfl⟩
                ·
                  have any : ∀ b o, ARep P I φ st g w (.pt l) (.pointer (some ⟨b, o, none⟩)) := fun b o => .pt l b o hbl fun _ h => absurd h hts
                  have h3 := hname _ _ (any 0 0)
                  have h4 := hname _ _ (any 1 0)
                  cases h3 with
                  | pt _ _ _ _ h3 =>
                    cases h4 with
                    | pt _ _ _ _ h4 =>
                      have hv : validP (mergeSt ks st st') l := ⟨⟨r', by rw [rootAt_merge_in hin hl]; exact hr'⟩, fun hs => absurd hls hs⟩
                      have := (h3 hv ht).symm.trans (h4 hv ht)
                      simp at this
          · rw [rootAt_merge_out hin hl]
            cases hr' : rootAt st l with
            | none => trivial
            | some r1 =>
              rw [hr'] at he
              simp only at he ⊢
              have he : VRep P g w (injS I φ st) (.pt (injLoc l)) u := he
              cases he with
              | pt _ _ h2 =>
                refine VRep.pt _ u fun ht => ?_
                have hts := (hthout (injLoc l) hl).1 ht
                obtain ⟨a, ha, hua⟩ := h2 hts
                exact ⟨a, by rw [hAout (injLoc l) hl hts]; exact ha, hua⟩
  ·
    by_cases hk : k ∈ ks
    · by_cases hk' : k' ∈ ks
      · rw [hgin k hk] at hr
        rw [hgin k' hk'] at hr'
        simp only [mergeG, if_pos hk, if_pos hk'] at hb hb'
        exact h'.s.apart k k' r r' hr hr' b hb hb'
      · exfalso
        rw [hgin k hk] at hr
        rw [get_injS, hgetout' hk', Option.map_eq_some_iff] at hr'
        obtain ⟨r0, hr0, rfl⟩ := hr'
        simp only [mergeG, if_pos hk, if_neg hk'] at hb hb'
        obtain ⟨_, h2, h3⟩ := hout k' r0 b hk' hr0 hb'
        rcases h'.k.B k r hr b hb with h4 | h4
        · exact h3 h4
        · exact absurd h2 (Nat.not_lt.2 h4)
    · by_cases hk' : k' ∈ ks
      · exfalso
        rw [hgin k' hk'] at hr'
        rw [get_injS, hgetout' hk, Option.map_eq_some_iff] at hr
        obtain ⟨r0, hr0, rfl⟩ := hr
        simp only [mergeG, if_neg hk, if_pos hk'] at hb hb'
        obtain ⟨_, h2, h3⟩ := hout k r0 b hk hr0 hb
        rcases h'.k.B k' r' hr' b hb' with h4 | h4
        · exact h3 h4
        · exact absurd h2 (Nat.not_lt.2 h4)
      · rw [get_injS, hgetout' hk, Option.map_eq_some_iff] at hr
        rw [get_injS, hgetout' hk', Option.map_eq_some_iff] at hr'
        obtain ⟨r0, hr0, rfl⟩ := hr
        obtain ⟨r1, hr1, rfl⟩ := hr'
        simp only [mergeG, if_neg hk, if_neg hk'] at hb hb'
        exact h.s.apart k k' _ _ (by rw [get_injS, hr0]; rfl) (by rw [get_injS, hr1]; rfl) b hb hb'
  ·
    by_cases hk : k ∈ ks
    · rw [hgin k hk] at hr
      simp only [mergeG, if_pos hk] at hb
      exact h'.s.own k r hr b hb
    · rw [get_injS, hgetout' hk, Option.map_eq_some_iff] at hr
      obtain ⟨r0, hr0, rfl⟩ := hr
      simp only [mergeG, if_neg hk] at hb
      obtain ⟨h1, h2, h3⟩ := hout k r0 b hk hr0 hb
      refine ⟨fun hf => ?_, Nat.lt_of_lt_of_le h2 hp.size⟩
      rcases h'.k.F' b hf with h4 | h4 | h4
      · exact h1 h4
      · exact h3 h4
      · exact absurd h2 (Nat.not_lt.2 h4)
  · exact h'.k.os.trans h.k.os
  · exact h'.k.tape.trans h.k.tape
  · exact h'.k.output.trans h.k.output
  · exact Nat.le_trans h.k.size h'.k.size
  · intro b hb hB
    rw [h'.k.block b (Nat.lt_of_lt_of_le hb h.k.size) fun ⟨k, r, hk, hr, hb2⟩ => ?_]
    · exact h.k.block b hb hB
    · rcases h.k.B k _ (by rw [get_injS, hr]; rfl) b hb2 with h1 | h1
      · exact hB h1
      · exact absurd hb (Nat.not_lt.2 h1)
  · exact fun b hb => hp.F b (h.k.F b hb)
  · intro b hb
    rcases h'.k.F' b hb with h4 | ⟨k, r, hk, hr, hb2⟩ | h4
    · exact h.k.F' b h4
    · exact .inr (h.k.B k _ (by rw [get_injS, hr]; rfl) b hb2)
    · exact .inr (.inr (Nat.le_trans h.k.size h4))
  · intro k r hr b hb
    by_cases hk : k ∈ ks
    · rw [hgin k hk] at hr
      simp only [mergeG, if_pos hk] at hb
      rcases h'.k.B k r hr b hb with ⟨k2, r2, hk2, hr2, hb2⟩ | h4
      · exact h.k.B k2 _ (by rw [get_injS, hr2]; rfl) b hb2
      · exact .inr (Nat.le_trans h.k.size h4)
    · rw [get_injS, hgetout' hk, Option.map_eq_some_iff] at hr
      obtain ⟨r0, hr0, rfl⟩ := hr
      simp only [mergeG, if_neg hk] at hb
      exact h.k.B k _ (by rw [get_injS, hr0]; rfl) b hb
  · intro k r c l hr hcm he
    rw [get_merge hin] at hr
    split at hr
    · obtain ⟨⟨r1, h1, h2⟩, h3⟩ := h'.c k r c l hr hcm he
      have := hin _ _ h1
      exact ⟨⟨r1, by rw [get_merge hin, if_pos this]; exact h1, h2⟩, h3⟩
    · obtain ⟨hb, h3⟩ := h.c k r c l hr hcm he
      refine ⟨?_, h3⟩
      by_cases hl : l.root ∈ ks
      · obtain ⟨b0, o0, hx0⟩ : ∃ b0 o0, ARep P I φ st g w (.pt l) (.pointer (some ⟨b0, o0, none⟩)) := by
          by_cases hts : Eng.There (injS I φ st) (injLoc l)
          · have hst : (injLoc l).steps = [] := by simp [injLoc, h3]
            unfold Eng.There at hts
            rw [hst] at hts
            obtain ⟨r1, e1, h5, h6⟩ := hts
            exact ⟨g.ad l.root, l.off, .pt l _ _ hb fun _ _ => by unfold Eng.locA; rw [h5, hst]; simp [h6, injLoc]⟩
          · exact ⟨0, 0, .pt l _ _ hb fun _ h => absurd h hts⟩
        have hx := hp.a _ _ ((arep_cut hc hl).2 _ hx0)
        cases hx with
        | pt _ _ _ hb' _ =>
          obtain ⟨r1, h1, h2⟩ := hb'
          exact ⟨r1, by rw [get_merge hin, if_pos hl]; exact h1, h2⟩
      · exact hbndout l hl hb
  · exact h'.f
end merge
end Go.Y
namespace Go.Y
open Go.Eng (T RepT RepM SRep Kept Base G SameOn VRep Split Live Free kn Owns ownB RootOk ERep)
variable {P : Program} {I : Ids} {φ : FnP} {β : Base} {nt : Nat} {cs : List (Nat × Con)}
def SubR (sto' sto : List (Nat × Eng.Root)) : Prop := ∀ k r', Eng.get sto' k = some r' → ∃ r, Eng.get sto k = some r ∧ r'.mem = r.mem ∧ r'.cells.length = r.cells.length ∧ ∀ (j : Nat) e', r'.cells[j]? = some e' → e' = .mv ∨ r.cells[j]? = some e'
section sub
variable {sto sto' : List (Nat × Eng.Root)} (h : SubR sto' sto)
include h
theorem sub_at {l : Eng.Loc} {x : Nat × T} (ha : Eng.at_ sto' l = some x) : Eng.at_ sto l = some x := by
  obtain ⟨r', d, t, h1, h2, h3⟩ := Eng.at_root ha
  obtain ⟨r, h4, _, _, h5⟩ := h _ _ h1
  rcases h5 _ _ h2 with h6 | h6
  · cases h6
  · unfold Eng.at_
    rw [h4]
    simp only [h6]
    exact h3
theorem sub_there {l : Eng.Loc} (ht : Eng.There sto' l) : Eng.There sto l := by
  unfold Eng.There at ht ⊢
  cases hs : l.steps with
  | nil =>
    simp only [hs] at ht ⊢
    obtain ⟨r', e, h1, h2⟩ := ht
    obtain ⟨r, h4, h5, _⟩ := h _ _ h1
    exact ⟨r, e, h4, by rw [← h5]; exact h2⟩
  | cons q s =>
    simp only [hs] at ht ⊢
    obtain ⟨x, hx⟩ := ht
    exact ⟨x, sub_at h hx⟩
theorem sub_locA {l : Eng.Loc} (ht : Eng.There sto' l) (g : G) (w : World) : Eng.locA P g w sto' l = Eng.locA P g w sto l := by
  unfold Eng.There at ht
  unfold Eng.locA
  cases hs : l.steps with
  | nil =>
    rw [hs] at ht
    obtain ⟨r', e, h1, h2⟩ := ht
    obtain ⟨r, h4, h5, _⟩ := h _ _ h1
    rw [h1, h4]
    simp only [h5]
  | cons q s =>
    rw [hs] at ht
    obtain ⟨x, hx⟩ := ht
    obtain ⟨r', d, t, h1, h2, h3⟩ := Eng.at_root hx
    obtain ⟨r, h4, h5, _, h6⟩ := h _ _ h1
    rcases h6 _ _ h2 with h7 | h7
    · cases h7
    · rw [h1, h4]
      simp only [h2, h7]
      unfold Eng.rootV
      rw [h5]
theorem sub_locV {l : Eng.Loc} {x : Nat × T} (ha : Eng.at_ sto' l = some x) (g : G) (w : World) : Eng.locV P g w sto' l = Eng.locV P g w sto l := by
  obtain ⟨r', d, t, h1, h2, h3⟩ := Eng.at_root ha
  obtain ⟨r, h4, h5, _, h6⟩ := h _ _ h1
  unfold Eng.locV
  cases hs : l.steps with
  | nil =>
    simp only [h1, h4, Option.bind_some]
    unfold Eng.rootV
    rw [h5]
  | cons q s =>
    simp only
    rw [sub_locA h (by unfold Eng.There; rw [hs]; exact ⟨x, ha⟩)]
theorem sub_srep {g : G} {w : World} (hs : SRep P g sto w) : SRep P g sto' w := by
  refine ⟨fun k r' hr' => ?_, fun k k' r r' hr hr' => ?_, fun k r hr => ?_⟩
  · obtain ⟨r, h1, h2, h3, h4⟩ := h _ _ hr'
    obtain ⟨h5, Bs, hsp, hcell⟩ := hs.root k r h1
    refine ⟨fun e he => ?_, Bs, by rw [h2]; exact hsp, fun j e hj => ?_⟩
    · obtain ⟨cs, h6, h7⟩ := h5 e (by rw [← h2]; exact he)
      exact ⟨cs, h6, by rw [h3]; exact h7⟩
    · have hlt := Eng.get_lt hj
      obtain ⟨u, hu, he⟩ := hcell j (r.cells[j]'(by omega)) (List.getElem?_eq_getElem _)
      refine ⟨u, by unfold Eng.rootV at hu ⊢; rw [h2]; exact hu, ?_⟩
      rcases h4 j e hj with h6 | h6
      · subst h6; trivial
      · rw [List.getElem?_eq_getElem (by omega), Option.some.injEq] at h6
        rw [h6] at he
        cases e with
        | o d t => exact he
        | mv => trivial
        | rf l =>
          have he : VRep P g w sto (.pt l) u := he
          cases he with
          | pt _ _ h7 => exact VRep.pt l u fun ht => by rw [sub_locA h ht]; exact h7 (sub_there h ht)
  · obtain ⟨r0, h1, _⟩ := h _ _ hr
    obtain ⟨r1, h2, _⟩ := h _ _ hr'
    exact hs.apart k k' r0 r1 h1 h2
  · obtain ⟨r0, h1, _⟩ := h _ _ hr
    exact hs.own k r0 h1
theorem sub_kept {g : G} {w : World} (hk : Kept β g sto w) : Kept β g sto' w :=
  ⟨hk.os, hk.tape, hk.output, hk.size, hk.block, hk.F, hk.F', fun k r hr => by obtain ⟨r0, h1, _⟩ := h _ _ hr; exact hk.B k r0 h1⟩
end sub
theorem get_keepEnv (live : List Nat) (env : List (Nat × AV L)) (k : Nat) : get (keepEnv live env) k = if k ∈ live then get env k else none := by
  induction env with
  | nil => simp [keepEnv, get]
  | cons p r ih =>
    obtain ⟨j, x⟩ := p
    simp only [keepEnv]
    cases hm : memN j live with
    | true =>
      have hj := memN_iff.1 hm
      simp only [get_cons, ih]
      by_cases hk : j = k
      · subst hk; simp [hj]
      · simp [hk]
    | false =>
      have hj : j ∉ live := fun h => by rw [memN_iff.2 h] at hm; cases hm
      simp only [ih, get_cons]
      by_cases hk : j = k
      · subst hk; simp [hj]
      · simp [hk]
structure Part (sc st : St L) : Prop where
  sto : ∀ k r, get sc.sto k = some r → get st.sto k = some r
  env : ∀ k x, get sc.env k = some x → get st.env k = some x
theorem clean_part (live : List Nat) (st : St L) : Part (clean live st) st := by
  refine ⟨fun k r h => ?_, fun k x h => ?_⟩
  · simp only [clean, get_keepSto] at h
    split at h
    · exact h
    · cases h
  · simp only [clean, get_keepEnv] at h
    split at h
    · exact h
    · cases h
theorem normLoc_some {sc : St L} {deep : Bool} {l l' : Loc L} (h : normLoc sc deep l = some l') : l' = { l with gen := 0, stamp := 0 } ∧ ∃ r, get sc.sto l.root = some r ∧ r.gen = l.gen ∧ ((deep = true ∨ l.steps ≠ []) → ∃ c, r.cells[l.off]? = some c ∧ c.stamp = l.stamp) := by
  unfold normLoc at h
  split at h
  · rename_i r hr
    split at h
    · rename_i hg
      have hg := (beq_iff _ _).1 hg
      split at h
      · rename_i hd
        simp only [Option.some.injEq] at h
        refine ⟨h.symm, r, hr, hg, fun hh => ?_⟩
        simp only [Bool.or_eq_false_iff, Bool.not_eq_false', List.isEmpty_iff] at hd
        rcases hh with hh | hh
        · rw [hd.1] at hh; cases hh
        · exact absurd hd.2 hh
      · split at h
        · rename_i c hc
          split at h
          · rename_i hs
            simp only [Option.some.injEq] at h
            exact ⟨h.symm, r, hr, hg, fun _ => ⟨c, by rw [getL_eq] at hc; exact hc, (beq_iff _ _).1 hs⟩⟩
          · cases h
        · cases h
    · cases h
  · cases h
theorem get_norm (sc : St L) (k : Nat) : get (normalize sc).sto k = (get sc.sto k).map (normR sc) := get_map _ _ _
theorem get_normE (sc : St L) (k : Nat) : get (normalize sc).env k = (get sc.env k).map (normA sc) := get_map _ _ _
theorem norm_sub {sc st : St L} (hp : Part sc st) (hc : CBnd st) : SubR (injS I φ (normalize sc)) (injS I φ st) := by
  intro k r' hr'
  rw [get_injS, get_norm, Option.map_map, Option.map_eq_some_iff] at hr'
  obtain ⟨r, hr, rfl⟩ := hr'
  have hr0 := hp.sto k r hr
  refine ⟨injR I φ st r, by rw [get_injS, hr0]; rfl, rfl, by simp [injR, normR], fun j e' hj => ?_⟩
  simp only [Function.comp, injR, normR, List.map_map, List.getElem?_map, Option.map_eq_some_iff] at hj ⊢
  obtain ⟨c, hcj, rfl⟩ := hj
  cases he : c.e with
  | o d v =>
    refine .inr ⟨c, hcj, ?_⟩
    simp only [Function.comp, he]
    rfl
  | mv => exact .inl (by simp only [Function.comp, he, normE, injE])
  | rf l =>
    cases hn : normLoc sc false l with
    | none => exact .inl (by simp only [Function.comp, he, normE, hn, injE])
    | some l' =>
      obtain ⟨rfl, r1, h1, h2, _⟩ := normLoc_some hn
      have h3 : rootAt st l = some r1 := rootAt_iff.2 ⟨hp.sto _ _ h1, h2⟩
      have h4 : rootAt (normalize sc) { l with gen := 0, stamp := 0 } = some (normR sc r1) := rootAt_iff.2 ⟨by rw [get_norm]; simp [h1], rfl⟩
      refine .inr ⟨c, hcj, ?_⟩
      simp only [Function.comp, he, normE, hn, injE, h3, h4]
      rfl
theorem norm_bnd {sc : St L} {deep : Bool} {l l' : Loc L} (h : normLoc sc deep l = some l') : bnd (normalize sc) l' := by
  obtain ⟨rfl, r, h1, _, _⟩ := normLoc_some h
  exact ⟨normR sc r, by rw [get_norm]; simp [h1], Nat.le_refl _, fun _ c _ => Nat.zero_le _⟩
theorem norm_cbnd {sc st : St L} (hp : Part sc st) (hc : CBnd st) : CBnd (normalize sc) := by
  intro k r' c l hr hcm he
  rw [get_norm, Option.map_eq_some_iff] at hr
  obtain ⟨r, hr, rfl⟩ := hr
  simp only [normR, List.mem_map] at hcm
  obtain ⟨c0, hc0, rfl⟩ := hcm
  simp only at he
  cases he0 : c0.e with
  | o d v => rw [he0] at he; cases he
  | mv => rw [he0] at he; cases he
  | rf l0 =>
    rw [he0] at he
    simp only [normE] at he
    split at he
    · rename_i l' hl'
      simp only [E.rf.injEq] at he
      subst he
      have h1 := (hc k r c0 l0 (hp.sto k r hr) hc0 he0).2
      refine ⟨norm_bnd hl', ?_⟩
      obtain ⟨rfl, _⟩ := normLoc_some hl'
      exact h1
    · cases he
theorem norm1_ok {sc st : St L} (hp : Part sc st) (hc : CBnd st) {g : G} {w : World} {x : AV L} {u : Value} (h : ARep P I φ st g w x u) : ARep P I φ (normalize sc) g w (norm1 sc x) u := by
  have hs := norm_sub (I := I) (φ := φ) hp hc
  cases h with
  | lf v u h => exact .lf v u h
  | zs e a u h => exact .zs e a u h
  | tl v b n h => exact .tl v b n h
  | fp v b o us hF hcc hr => exact .fp v b o us hF hcc hr
  | ag t cs vs us hl hv hr => exact .u _
  | tu cs vs us hl hv hr => exact .u _
  | fn f cs vs us hl hv hr => exact .u _
  | u u => exact .u u
  | ar l u hb h =>
    simp only [norm1]
    cases hn : normLoc sc true l with
    | none => exact .u _
    | some l' =>
      have hbn := norm_bnd hn
      obtain ⟨rfl, r, h1, h2, h3⟩ := normLoc_some hn
      obtain ⟨c, h4, h5⟩ := h3 (.inl rfl)
      refine .ar _ u hbn fun _ hs0 d e nl xs hat => ?_
      have hinj : injLoc ({ l with gen := 0, stamp := 0 } : Loc L) = injLoc l := rfl
      rw [hinj] at hat ⊢
      rw [sub_locV hs hat]
      exact h ⟨c, cellAt_iff.2 ⟨r, hp.sto _ _ h1, h2, h4⟩, h5⟩ hs0 d e nl xs (sub_at hs hat)
  | pt l b o hb h =>
    simp only [norm1]
    cases hn : normLoc sc false l with
    | none => exact .u _
    | some l' =>
      have hbn := norm_bnd hn
      obtain ⟨rfl, r, h1, h2, h3⟩ := normLoc_some hn
      refine .pt _ b o hbn fun _ ht => ?_
      have hinj : injLoc ({ l with gen := 0, stamp := 0 } : Loc L) = injLoc l := rfl
      rw [hinj] at ht ⊢
      rw [sub_locA hs ht]
      refine h ⟨⟨r, rootAt_iff.2 ⟨hp.sto _ _ h1, h2⟩⟩, fun hne => ?_⟩ (sub_there hs ht)
      obtain ⟨c, h4, h5⟩ := h3 (.inr hne)
      exact ⟨c, cellAt_iff.2 ⟨r, hp.sto _ _ h1, h2, h4⟩, h5⟩
theorem normA_ok {sc st : St L} (hp : Part sc st) (hc : CBnd st) {g : G} {w : World} {x : AV L} {u : Value} (h : ARep P I φ st g w x u) : ARep P I φ (normalize sc) g w (normA sc x) u := by
  have parts : ∀ (qs : List (AV L)) (us : Nat → Value), (∀ (j : Nat) c, qs[j]? = some c → ARep P I φ st g w c (us j)) → ∀ (j : Nat) c, (qs.map (norm1 sc))[j]? = some c → ARep P I φ (normalize sc) g w c (us j) := by
    intro qs us h j c hj
    rw [List.getElem?_map, Option.map_eq_some_iff] at hj
    obtain ⟨c0, h0, rfl⟩ := hj
    exact norm1_ok hp hc (h j c0 h0)
  have vals : ∀ (qs : List (AV L)) (vs : Array Value) (us : Nat → Value), (∀ (j : Nat) c, qs[j]? = some c → vs[j]? = some (us j)) → ∀ (j : Nat) c, (qs.map (norm1 sc))[j]? = some c → vs[j]? = some (us j) := by
    intro qs vs us h j c hj
    rw [List.getElem?_map, Option.map_eq_some_iff] at hj
    obtain ⟨c0, h0, _⟩ := hj
    exact h j c0 h0
  cases h with
  | ag t qs vs us hl hv hr => exact .ag t _ vs us (by simpa using hl) (vals qs vs us hv) (parts qs us hr)
  | tu qs vs us hl hv hr => exact .tu _ vs us (by simpa using hl) (vals qs vs us hv) (parts qs us hr)
  | fn f qs vs us hl hv hr => exact .fn f _ vs us (by simpa using hl) (vals qs vs us hv) (parts qs us hr)
  | lf v u h => exact .lf v u h
  | zs e a u h => exact .zs e a u h
  | tl v b n h => exact .tl v b n h
  | fp v b o us hF hcc hr => exact .fp v b o us hF hcc hr
  | u u => exact .u u
  | ar l u hb h => exact norm1_ok hp hc (.ar l u hb h)
  | pt l b o hb h => exact norm1_ok hp hc (.pt l b o hb h)
theorem norm_ok {sc st : St L} (hp : Part sc st) {g : G} {a : Act} {w : World} (h : RelG P I φ β nt st g a w) : RelG P I φ β nt (normalize sc) g a w := by
  have hs := norm_sub (I := I) (φ := φ) hp h.i.c
  refine ⟨h.defers, h.size, ⟨sub_srep hs h.i.s, sub_kept hs h.i.k, norm_cbnd hp h.i.c, h.i.f, h.i.gl⟩, fun s x hx => ?_, fun s k b x hx => by simp [normalize] at hx⟩
  rw [get_normE, Option.map_eq_some_iff] at hx
  obtain ⟨x0, h0, rfl⟩ := hx
  obtain ⟨u, hu, hr⟩ := h.e s x0 (hp.env s x0 h0)
  exact ⟨u, hu, normA_ok hp h.i.c hr⟩
end Go.Y
namespace Go.Y
open Go.Eng (T RepT RepM SRep Kept Base G SameOn VRep Split Live Free kn Owns ownB RootOk ERep)
variable {P : Program} {I : Ids} {φ : FnP} {β : Base} {nt : Nat} {cs : List (Nat × Con)}
def mvL (f : Nat → Nat) (l : Eng.Loc) : Eng.Loc := { l with root := f l.root }
def mvE (f : Nat → Nat) : Eng.E → Eng.E
  | .rf l => .rf (mvL f l)
  | e => e
structure RenS (f : Nat → Nat) (sto sto' : List (Nat × Eng.Root)) (g g' : G) : Prop where
  fwd : ∀ k r, Eng.get sto k = some r → Eng.get sto' (f k) = some ⟨r.mem, r.cells.map (mvE f)⟩
  bwd : ∀ k' r', Eng.get sto' k' = some r' → ∃ k r, Eng.get sto k = some r ∧ k' = f k
  inj : ∀ k j r r', Eng.get sto k = some r → Eng.get sto j = some r' → f k = f j → k = j
  rf : ∀ k r l, Eng.get sto k = some r → Eng.E.rf l ∈ r.cells → ∃ r2, Eng.get sto l.root = some r2
  F : g'.F = g.F
  B : ∀ k r, Eng.get sto k = some r → g'.B (f k) = g.B k
  ad : ∀ k r, Eng.get sto k = some r → g'.ad (f k) = g.ad k
  vv : ∀ k r, Eng.get sto k = some r → g'.vv (f k) = g.vv k
theorem ren_cell {f : Nat → Nat} {r : Eng.Root} (j d : Nat) (t : T) : (r.cells.map (mvE f))[j]? = some (.o d t) ↔ r.cells[j]? = some (.o d t) := by
  rw [List.getElem?_map]
  cases r.cells[j]? with
  | none => simp
  | some e => cases e <;> simp [mvE]
section ren
variable {f : Nat → Nat} {sto sto' : List (Nat × Eng.Root)} {g g' : G} (h : RenS f sto sto' g g')
include h
theorem ren_at {l : Eng.Loc} {r : Eng.Root} (hr : Eng.get sto l.root = some r) : Eng.at_ sto' (mvL f l) = Eng.at_ sto l := by
  unfold Eng.at_
  rw [show (mvL f l).root = f l.root from rfl, h.fwd _ _ hr, hr]
  exact like_cell (rA := ⟨r.mem, r.cells.map (mvE f)⟩) (rB := r) (fun j d t => ren_cell j d t) (fun d t => Eng.walkT d t l.steps) none l.off
theorem ren_there {l : Eng.Loc} {r : Eng.Root} (hr : Eng.get sto l.root = some r) : Eng.There sto' (mvL f l) ↔ Eng.There sto l := by
  unfold Eng.There
  rw [show (mvL f l).steps = l.steps from rfl, show (mvL f l).root = f l.root from rfl]
  cases hs : l.steps with
  | nil =>
    simp only [h.fwd _ _ hr, hr, Option.some.injEq]
    constructor
    · rintro ⟨_, e, rfl, h2⟩; exact ⟨r, e, rfl, h2⟩
    · rintro ⟨_, e, rfl, h2⟩; exact ⟨_, e, rfl, h2⟩
  | cons q s => simp only [ren_at h hr]
theorem ren_locA {l : Eng.Loc} {r : Eng.Root} (hr : Eng.get sto l.root = some r) (w : World) : Eng.locA P g' w sto' (mvL f l) = Eng.locA P g w sto l := by
  unfold Eng.locA
  rw [show (mvL f l).root = f l.root from rfl, h.fwd _ _ hr, hr]
  simp only [show (mvL f l).steps = l.steps from rfl, show (mvL f l).off = l.off from rfl]
  cases l.steps with
  | nil => simp only [h.ad _ _ hr]
  | cons q s =>
    simp only
    have hrv : ∀ j, Eng.rootV g' w (f l.root) ⟨r.mem, r.cells.map (mvE f)⟩ j = Eng.rootV g w l.root r j := by intro j; unfold Eng.rootV; rw [h.ad _ _ hr, h.vv _ _ hr]
    rw [hrv]
    exact like_cell (rA := ⟨r.mem, r.cells.map (mvE f)⟩) (rB := r) (fun j d t => ren_cell j d t) (fun _ t => (Eng.rootV g w l.root r l.off).bind fun u => Eng.walkA P w t u q s) none l.off
theorem ren_locV {l : Eng.Loc} {r : Eng.Root} (hr : Eng.get sto l.root = some r) (w : World) : Eng.locV P g' w sto' (mvL f l) = Eng.locV P g w sto l := by
  have hA := ren_locA (P := P) h hr w
  unfold Eng.locV
  rw [hA, show (mvL f l).root = f l.root from rfl, h.fwd _ _ hr, hr]
  simp only [show (mvL f l).steps = l.steps from rfl, show (mvL f l).off = l.off from rfl]
  cases l.steps with
  | nil =>
    simp only [Option.bind_some]
    unfold Eng.rootV
    rw [h.ad _ _ hr, h.vv _ _ hr]
  | cons q s => rfl
theorem ren_srep {w : World} (hs : SRep P g sto w) : SRep P g' sto' w := by
  refine ⟨fun k' r' hr' => ?_, fun k k' r r' hr hr' b hb hb' => ?_, fun k r hr b hb => ?_⟩
  · obtain ⟨k, r, hr, rfl⟩ := h.bwd _ _ hr'
    rw [h.fwd _ _ hr, Option.some.injEq] at hr'
    subst hr'
    obtain ⟨h1, Bs, hsp, hcell⟩ := hs.root k r hr
    refine ⟨fun e he => ?_, Bs, by rw [h.B _ _ hr, h.ad _ _ hr]; exact hsp, fun j e hj => ?_⟩
    · obtain ⟨cs, h2, h3⟩ := h1 e he
      exact ⟨cs, by rw [h.ad _ _ hr]; exact h2, by simpa using h3⟩
    · simp only [List.getElem?_map, Option.map_eq_some_iff] at hj
      obtain ⟨e0, hj0, rfl⟩ := hj
      obtain ⟨u, hu, he⟩ := hcell j e0 hj0
      refine ⟨u, by unfold Eng.rootV at hu ⊢; rw [h.ad _ _ hr, h.vv _ _ hr]; exact hu, ?_⟩
      cases e0 with
      | o d t => show RepM P w g'.F d t u (Bs j); rw [h.F]; exact he
      | mv => trivial
      | rf l =>
        obtain ⟨r2, hr2⟩ := h.rf k r l hr (List.mem_of_getElem? hj0)
        have he : VRep P g w sto (.pt l) u := he
        cases he with
        | pt _ _ h7 => exact VRep.pt _ u fun ht => by rw [ren_locA h hr2]; exact h7 ((ren_there h hr2).1 ht)
  · obtain ⟨k1, r1, h1, rfl⟩ := h.bwd _ _ hr
    obtain ⟨k2, r2, h2, rfl⟩ := h.bwd _ _ hr'
    rw [h.B _ _ h1] at hb
    rw [h.B _ _ h2] at hb'
    rw [hs.apart k1 k2 r1 r2 h1 h2 b hb hb']
  · obtain ⟨k1, r1, h1, rfl⟩ := h.bwd _ _ hr
    rw [h.B _ _ h1] at hb
    rw [h.F]
    exact hs.own k1 r1 h1 b hb
theorem ren_kept {w : World} (hk : Kept β g sto w) : Kept β g' sto' w :=
  ⟨hk.os, hk.tape, hk.output, hk.size, hk.block, fun b hb => by rw [h.F]; exact hk.F b hb, fun b hb => hk.F' b (by rw [h.F] at hb; exact hb), fun k r hr b hb => by
    obtain ⟨k1, r1, h1, rfl⟩ := h.bwd _ _ hr
    rw [h.B _ _ h1] at hb
    exact hk.B k1 r1 h1 b hb⟩
end ren
def invN (f : Nat → Nat) : List (Nat × Root L) → Nat → Nat
  | [], _ => 0
  | (k, _) :: s, k' => if f k = k' then k else invN f s k'
def renG (f : Nat → Nat) (sto : List (Nat × Root L)) (g : G) : G := ⟨g.F, fun k => g.B (invN f sto k), fun k => g.ad (invN f sto k), fun k => g.vv (invN f sto k)⟩
theorem nodupN_iff : ∀ {l : List Nat}, nodupN l = true ↔ l.Nodup
  | [] => by simp [nodupN]
  | k :: r => by
    simp only [nodupN, Bool.and_eq_true, Bool.not_eq_true', List.nodup_cons, nodupN_iff (l := r)]
    have : memN k r = false ↔ k ∉ r := by
      constructor
      · intro h hm; rw [memN_iff.2 hm] at h; cases h
      · intro h
        cases hm : memN k r with
        | false => rfl
        | true => exact absurd (memN_iff.1 hm) h
    rw [this]
theorem ren_facts {m : List (Nat × Nat)} : ∀ {sto : List (Nat × Root L)}, (sto.map fun p => ren m p.1).Nodup →
    (∀ k r, get sto k = some r → invN (ren m) sto (ren m k) = k ∧ get (renSto m sto) (ren m k) = some (renR m r)) ∧
    ∀ k' r', get (renSto m sto) k' = some r' → ∃ k r, get sto k = some r ∧ k' = ren m k
  | [], _ => ⟨fun k r h => by simp [get] at h, fun k' r' h => by simp [renSto, get] at h⟩
  | (j, x) :: s, hnd => by
    simp only [List.map_cons, List.nodup_cons] at hnd
    obtain ⟨h1, h2⟩ := ren_facts hnd.2
    have hne : ∀ k r, get s k = some r → ren m k ≠ ren m j := fun k r hr he => hnd.1 (by rw [← he]; exact List.mem_map.2 ⟨(k, r), mem_of_get hr, rfl⟩)
    refine ⟨fun k r hr => ?_, fun k' r' hr => ?_⟩
    · rw [get_cons] at hr
      split at hr
      · rename_i hj
        simp only [Option.some.injEq] at hr
        subst hj; subst hr
        exact ⟨by simp [invN], by simp [renSto, get_put]⟩
      · have := hne k r hr
        simp only [invN, renSto, get_put]
        rw [if_neg (Ne.symm this), if_neg this]
        exact h1 k r hr
    · simp only [renSto, get_put] at hr
      split at hr
      · rename_i hk
        exact ⟨j, x, by simp [get_cons], hk⟩
      · obtain ⟨k, r, h3, h4⟩ := h2 k' r' hr
        have : j ≠ k := fun e => hne k r h3 (by rw [e])
        exact ⟨k, r, by rw [get_cons, if_neg this]; exact h3, h4⟩
theorem ren_s {m : List (Nat × Nat)} {st : St L} (hnd : (st.sto.map fun p => ren m p.1).Nodup) (hc : CBnd st) (g : G) : RenS (ren m) (injS I φ st) (injS I φ (renSt m st)) g (renG (ren m) st.sto g) := by
  obtain ⟨h1, h2⟩ := ren_facts hnd
  have hget : ∀ k r, Eng.get (injS I φ st) k = some r → ∃ r0, get st.sto k = some r0 ∧ r = injR I φ st r0 := by
    intro k r hr
    rw [get_injS, Option.map_eq_some_iff] at hr
    obtain ⟨r0, h3, rfl⟩ := hr
    exact ⟨r0, h3, rfl⟩
  have hrf : ∀ k r0 c l, get st.sto k = some r0 → c ∈ r0.cells → c.e = .rf l → rootAt (renSt m st) (renLoc m l) = (rootAt st l).map (renR m) := by
    intro k r0 c l h3 h4 h5
    obtain ⟨⟨r2, h6, _⟩, _⟩ := hc k r0 c l h3 h4 h5
    unfold rootAt
    rw [show (renLoc m l).root = ren m l.root from rfl, show (renSt m st).sto = renSto m st.sto from rfl, (h1 _ _ h6).2, h6]
    simp only [renR, renLoc]
    cases Nat.beq r2.gen l.gen <;> rfl
  refine ⟨fun k r hr => ?_, fun k' r' hr' => ?_, fun k j r r' hr hr' he => ?_, fun k r l hr hl => ?_, rfl, fun k r hr => ?_, fun k r hr => ?_, fun k r hr => ?_⟩
  · obtain ⟨r0, h3, rfl⟩ := hget k r hr
    rw [get_injS, show (renSt m st).sto = renSto m st.sto from rfl, (h1 _ _ h3).2]
    simp only [Option.map_some, Option.some.injEq, injR, renR, List.map_map, Eng.Root.mk.injEq, true_and]
    refine List.map_congr_left fun c hcm => ?_
    simp only [Function.comp]
    cases he : c.e with
    | o d v => rfl
    | mv => rfl
    | rf l =>
      simp only [renE, injE, hrf k r0 c l h3 hcm he]
      cases rootAt st l with
      | none => rfl
      | some _ => rfl
  · rw [get_injS, Option.map_eq_some_iff] at hr'
    obtain ⟨r0, h3, _⟩ := hr'
    obtain ⟨k, r, h4, h5⟩ := h2 k' r0 h3
    exact ⟨k, _, by rw [get_injS, h4]; rfl, h5⟩
  · obtain ⟨r0, h3, _⟩ := hget k r hr
    obtain ⟨r1, h4, _⟩ := hget j r' hr'
    rw [← (h1 _ _ h3).1, ← (h1 _ _ h4).1, he]
  · obtain ⟨r0, h3, rfl⟩ := hget k r hr
    simp only [injR, List.mem_map] at hl
    obtain ⟨c, hc1, hc2⟩ := hl
    cases he : c.e with
    | o d v => rw [he] at hc2; cases hc2
    | mv => rw [he] at hc2; cases hc2
    | rf l0 =>
      rw [he] at hc2
      simp only [injE] at hc2
      split at hc2
      · simp only [Eng.E.rf.injEq] at hc2
        subst hc2
        obtain ⟨⟨r2, h6, _⟩, _⟩ := hc k r0 c l0 h3 hc1 he
        exact ⟨_, by rw [get_injS]; simp only [injLoc, h6]; rfl⟩
      · cases hc2
  · obtain ⟨r0, h3, _⟩ := hget k r hr
    simp only [renG, (h1 _ _ h3).1]
  · obtain ⟨r0, h3, _⟩ := hget k r hr
    simp only [renG, (h1 _ _ h3).1]
  · obtain ⟨r0, h3, _⟩ := hget k r hr
    simp only [renG, (h1 _ _ h3).1]
theorem ren_bnd {m : List (Nat × Nat)} {st : St L} (hnd : (st.sto.map fun p => ren m p.1).Nodup) {l : Loc L} (h : bnd st l) : bnd (renSt m st) (renLoc m l) := by
  obtain ⟨r, h1, h2, h3⟩ := h
  refine ⟨renR m r, ((ren_facts hnd).1 _ _ h1).2, h2, fun hg c hc => ?_⟩
  simp only [renR, List.getElem?_map, Option.map_eq_some_iff] at hc
  obtain ⟨c0, h4, rfl⟩ := hc
  exact h3 hg c0 h4
theorem ren_cbnd {m : List (Nat × Nat)} {st : St L} (hnd : (st.sto.map fun p => ren m p.1).Nodup) (hc : CBnd st) : CBnd (renSt m st) := by
  intro k' r' c l hr hcm he
  obtain ⟨k, r, h1, rfl⟩ := (ren_facts hnd).2 k' r' hr
  have h2 := ((ren_facts hnd).1 k r h1).2
  have hr : get (renSto m st.sto) (ren m k) = some r' := hr
  rw [h2, Option.some.injEq] at hr
  subst hr
  simp only [renR, List.mem_map] at hcm
  obtain ⟨c0, hc0, rfl⟩ := hcm
  simp only at he
  cases he0 : c0.e with
  | o d v => rw [he0] at he; cases he
  | mv => rw [he0] at he; cases he
  | rf l0 =>
    rw [he0] at he
    simp only [renE, E.rf.injEq] at he
    subst he
    obtain ⟨h3, h4⟩ := hc k r c0 l0 h1 hc0 he0
    exact ⟨ren_bnd hnd h3, h4⟩
theorem injLoc_ren (m : List (Nat × Nat)) (l : Loc L) : injLoc (renLoc m l) = mvL (ren m) (injLoc l) := rfl
theorem ren_root {m : List (Nat × Nat)} {st : St L} (hnd : (st.sto.map fun p => ren m p.1).Nodup) {l : Loc L} (hb : bnd st l) {r' : Root L} (h : rootAt (renSt m st) (renLoc m l) = some r') : ∃ r, rootAt st l = some r ∧ r' = renR m r := by
  obtain ⟨r, h1, _⟩ := hb
  obtain ⟨h2, h3⟩ := rootAt_iff.1 h
  have h2 : get (renSto m st.sto) (ren m l.root) = some r' := h2
  rw [((ren_facts hnd).1 _ _ h1).2, Option.some.injEq] at h2
  subst h2
  exact ⟨r, rootAt_iff.2 ⟨h1, h3⟩, rfl⟩
theorem ren_validA {m : List (Nat × Nat)} {st : St L} (hnd : (st.sto.map fun p => ren m p.1).Nodup) {l : Loc L} (hb : bnd st l) (h : validA (renSt m st) (renLoc m l)) : validA st l := by
  obtain ⟨c, h1, h2⟩ := h
  obtain ⟨r', h3, h4, h5⟩ := cellAt_iff.1 h1
  obtain ⟨r, h6, rfl⟩ := ren_root hnd hb (rootAt_iff.2 ⟨h3, h4⟩)
  simp only [renR, List.getElem?_map, Option.map_eq_some_iff] at h5
  obtain ⟨c0, h7, rfl⟩ := h5
  obtain ⟨h8, h9⟩ := rootAt_iff.1 h6
  exact ⟨c0, cellAt_iff.2 ⟨r, h8, h9, h7⟩, h2⟩
theorem renA1_ok {m : List (Nat × Nat)} {st : St L} (hnd : (st.sto.map fun p => ren m p.1).Nodup) (hc : CBnd st) {g : G} {w : World} {x : AV L} {u : Value} (h : ARep P I φ st g w x u) : ARep P I φ (renSt m st) (renG (ren m) st.sto g) w (renA1 m x) u := by
  have hs := ren_s (I := I) (φ := φ) hnd hc g
  cases h with
  | lf v u h => exact .lf v u h
  | zs e a u h => exact .zs e a u h
  | tl v b n h => exact .tl v b n h
  | fp v b o us hF hcc hr => exact .fp v b o us hF hcc hr
  | ag t cs vs us hl hv hr => exact .u _
  | tu cs vs us hl hv hr => exact .u _
  | fn f cs vs us hl hv hr => exact .u _
  | u u => exact .u u
  | ar l u hb h =>
    have hr : ∃ r, Eng.get (injS I φ st) (injLoc l).root = some r := by obtain ⟨r, h1, _⟩ := hb; exact ⟨_, by rw [get_injS]; simp only [injLoc, h1]; rfl⟩
    obtain ⟨r, hr⟩ := hr
    refine .ar _ u (ren_bnd hnd hb) fun hv hs0 d e nl xs hat => ?_
    rw [injLoc_ren] at hat ⊢
    rw [ren_at hs hr] at hat
    rw [ren_locV hs hr]
    exact h (ren_validA hnd hb hv) hs0 d e nl xs hat
  | pt l b o hb h =>
    have hr : ∃ r, Eng.get (injS I φ st) (injLoc l).root = some r := by obtain ⟨r, h1, _⟩ := hb; exact ⟨_, by rw [get_injS]; simp only [injLoc, h1]; rfl⟩
    obtain ⟨r, hr⟩ := hr
    refine .pt _ b o (ren_bnd hnd hb) fun hv ht => ?_
    rw [injLoc_ren] at ht ⊢
    rw [ren_there hs hr] at ht
    rw [ren_locA hs hr]
    obtain ⟨⟨r', h3⟩, h4⟩ := hv
    obtain ⟨r0, h5, _⟩ := ren_root hnd hb h3
    exact h ⟨⟨r0, h5⟩, fun hne => ren_validA hnd hb (h4 hne)⟩ ht
theorem renA_ok {m : List (Nat × Nat)} {st : St L} (hnd : (st.sto.map fun p => ren m p.1).Nodup) (hc : CBnd st) {g : G} {w : World} {x : AV L} {u : Value} (h : ARep P I φ st g w x u) : ARep P I φ (renSt m st) (renG (ren m) st.sto g) w (renA m x) u := by
  have parts : ∀ (qs : List (AV L)) (us : Nat → Value), (∀ (j : Nat) c, qs[j]? = some c → ARep P I φ st g w c (us j)) → ∀ (j : Nat) c, (qs.map (renA1 m))[j]? = some c → ARep P I φ (renSt m st) (renG (ren m) st.sto g) w c (us j) := by
    intro qs us h j c hj
    rw [List.getElem?_map, Option.map_eq_some_iff] at hj
    obtain ⟨c0, h0, rfl⟩ := hj
    exact renA1_ok hnd hc (h j c0 h0)
  have vals : ∀ (qs : List (AV L)) (vs : Array Value) (us : Nat → Value), (∀ (j : Nat) c, qs[j]? = some c → vs[j]? = some (us j)) → ∀ (j : Nat) c, (qs.map (renA1 m))[j]? = some c → vs[j]? = some (us j) := by
    intro qs vs us h j c hj
    rw [List.getElem?_map, Option.map_eq_some_iff] at hj
    obtain ⟨c0, h0, _⟩ := hj
    exact h j c0 h0
  cases h with
  | ag t qs vs us hl hv hr => exact .ag t _ vs us (by simpa using hl) (vals qs vs us hv) (parts qs us hr)
  | tu qs vs us hl hv hr => exact .tu _ vs us (by simpa using hl) (vals qs vs us hv) (parts qs us hr)
  | fn f qs vs us hl hv hr => exact .fn f _ vs us (by simpa using hl) (vals qs vs us hv) (parts qs us hr)
  | lf v u h => exact .lf v u h
  | zs e a u h => exact .zs e a u h
  | tl v b n h => exact .tl v b n h
  | fp v b o us hF hcc hr => exact .fp v b o us hF hcc hr
  | u u => exact .u u
  | ar l u hb h => exact renA1_ok hnd hc (.ar l u hb h)
  | pt l b o hb h => exact renA1_ok hnd hc (.pt l b o hb h)
theorem renSt_ok {m : List (Nat × Nat)} {st : St L} (hnd : (st.sto.map fun p => ren m p.1).Nodup) {g : G} {a : Act} {w : World} (h : RelG P I φ β nt st g a w) : RelG P I φ β nt (renSt m st) (renG (ren m) st.sto g) a w := by
  have hs := ren_s (I := I) (φ := φ) hnd h.i.c g
  refine ⟨h.defers, h.size, ⟨ren_srep hs h.i.s, ren_kept hs h.i.k, ren_cbnd hnd h.i.c, h.i.f, (by first | assumption | exact Inv.gl (by assumption) | exact (RelG.i (by assumption)).gl)⟩, fun s x hx => ?_, fun s k b x hx => by simp [renSt] at hx⟩
  have hx : get (st.env.map fun p => (p.1, renA m p.2)) s = some x := hx
  rw [get_map, Option.map_eq_some_iff] at hx
  obtain ⟨x0, h0, rfl⟩ := hx
  obtain ⟨u, hu, hr⟩ := h.e s x0 h0
  exact ⟨u, hu, renA_ok hnd h.i.c hr⟩
theorem rename_ok {st : St L} {g : G} {a : Act} {w : World} (h : RelG P I φ β nt st g a w) : ∃ g', RelG P I φ β nt (rename st) g' a w := by
  unfold rename
  simp only
  split
  · exact ⟨g, h⟩
  · rename_i hnd
    exact ⟨_, renSt_ok (nodupN_iff.1 hnd) h⟩
end Go.Y
namespace Go.Y
open Go.Eng (T RepT RepM SRep Kept Base G SameOn VRep Split Live Free kn Owns ownB RootOk ERep)
variable {P : Program} {I : Ids} {φ : FnP} {β : Base} {nt : Nat} {cs : List (Nat × Con)}
theorem RelG.pass {st st' : St L} {g g' : G} {a : Act} {w : World} (h : RelG P I φ β nt st g a w) (hp : Pass P I φ st g w st' g' w) (hi : Inv P I φ β st' g' w) (he : st'.env = st.env) (hn : st'.gnv = st.gnv) : RelG P I φ β nt st' g' a w :=
  ⟨h.defers, h.size, hi, by rw [he]; exact h.e.pass hp, by rw [hn]; exact h.n.pass hp⟩
theorem inv_lower {st : St L} {g : G} {w : World} (h : Inv P I φ β st g w) {k j s d n : Nat} {r : Root L} {v : L} (hr : get st.sto k = some r) (hc : r.cells[j]? = some ⟨s, .o (d + n) v⟩) :
    ∃ g', Pass P I φ st g w (setCell st k j ⟨s, .o d v⟩) g' w ∧ Inv P I φ β (setCell st k j ⟨s, .o d v⟩) g' w := by
  have hr' : Eng.get (injS I φ st) k = some (injR I φ st r) := by rw [get_injS, hr]; rfl
  have hc' := injR_cell (I := I) (φ := φ) (st := st) hc
  simp only [injE] at hc'
  obtain ⟨g', hM, hF⟩ := Eng.move_lower h.s h.k hr' hc'
  have hT : Turn st k j ⟨s, .o (d + n) v⟩ ⟨s, .o d v⟩ r := ⟨hr, hc, Nat.le_refl _, fun l hl => by cases hl⟩
  have hVA : ∀ l, validA (setCell st k j ⟨s, .o d v⟩) l → validA st l := by
    intro l hv
    rcases hT.validA l hv with hv | ⟨e1, e2, e3, e4⟩
    · exact hv.2
    · exact ⟨⟨s, .o (d + n) v⟩, cellAt_iff.2 ⟨r, by rw [e1]; exact hr, e3.symm, by rw [e2]; exact hc⟩, e4.symm⟩
  obtain ⟨h2, h3⟩ := pass_of_move (st' := setCell st k j ⟨s, .o d v⟩) hM (fun i => hT.get (fun _ => false) (fun _ _ => rfl) h.c i) (Nat.le_refl _) hT.bnd
    (fun l _ hv => ⟨hVA l hv, rfl⟩) (fun l _ hv => ⟨⟨hT.rootAt l hv.1, fun hs => hVA l (hv.2 hs)⟩, rfl⟩) (hT.cbnd h.c) (fun b hb => (hF b hb).elim (h.f b) fun hb => (h.s.own k _ hr' b hb).2)
  exact ⟨g', h2, h3⟩
theorem lower_ok {a : Act} {w : World} : ∀ (l : List (Nat × Nat × Nat)) {st : St L} {g : G}, RelG P I φ β nt st g a w → ∃ g', RelG P I φ β nt (lower st l) g' a w
  | [], st, g, h => ⟨g, h⟩
  | (k, j, d) :: r, st, g, h => by
    simp only [lower]
    split
    · rename_i rt hr
      split
      · rename_i s d' v hc
        rw [getL_eq] at hc
        have : ∃ g1, RelG P I φ β nt (setCell st k j ⟨s, .o (match Nat.ble d d' with | true => d | false => d') v⟩) g1 a w := by
          cases hb : Nat.ble d d' with
          | false =>
            obtain ⟨g1, h1, h2⟩ := inv_lower (n := 0) h.i hr hc
            exact ⟨g1, h.pass h1 h2 (setCell_env _ _ _ _).1 (setCell_env _ _ _ _).2⟩
          | true =>
            have hle := Nat.le_of_ble_eq_true hb
            obtain ⟨g1, h1, h2⟩ := inv_lower (d := d) (n := d' - d) h.i hr (by rw [show d + (d' - d) = d' by omega]; exact hc)
            exact ⟨g1, h.pass h1 h2 (setCell_env _ _ _ _).1 (setCell_env _ _ _ _).2⟩
        obtain ⟨g1, h1⟩ := this
        exact lower_ok r h1
      · exact lower_ok r h
    · obtain ⟨h1, h2⟩ := inv_new h.i k none [] 0 (fun _ => undef) (fun _ => False) (fun _ _ => False) (fun b hb => hb.elim) ⟨fun b hb => by simp at hb, fun j b hb => hb.elim, fun j k b hb => hb.elim⟩ (fun e he => by cases he) (fun j dd v hj => by simp at hj)
      exact lower_ok r (h.pass h1 h2 (by rw [newRoot_eq]; rfl) (by rw [newRoot_eq]; rfl))
theorem maskL_get : ∀ {cs0 : List (AV L)} {j : Nat} {c : AV L}, (maskL cs0)[j]? = some c → ∃ c0, cs0[j]? = some c0 ∧ (c = .u ∨ c = c0)
  | [], j, c, h => by simp [maskL] at h
  | x :: r, j, c, h => by
    cases j with
    | zero =>
      refine ⟨x, rfl, ?_⟩
      cases x <;> (simp only [maskL, List.getElem?_cons_zero, Option.some.injEq] at h; subst h; first | exact .inl rfl | exact .inr rfl)
    | succ j =>
      have h : (maskL r)[j]? = some c := by cases x <;> exact h
      obtain ⟨c0, h1, h2⟩ := maskL_get (cs0 := r) h
      exact ⟨c0, h1, h2⟩
theorem nameL_len (k g : Nat) : ∀ (j : Nat) (cs0 : List (AV L)), (nameL k g j cs0).length = cs0.length
  | _, [] => rfl
  | j, x :: r => by cases x <;> simp [nameL, nameL_len k g (j + 1) r]
theorem nameL_get {k g : Nat} : ∀ {cs0 : List (AV L)} {i j : Nat} {c : AV L}, (nameL k g i cs0)[j]? = some c → ∃ c0, cs0[j]? = some c0 ∧ ((∃ v, c0 = .lf v ∧ c = .lf v) ∨ c = .ar ⟨k, g, i + j, 0, []⟩)
  | [], i, j, c, h => by simp [nameL] at h
  | x :: r, i, j, c, h => by
    cases j with
    | zero =>
      refine ⟨x, rfl, ?_⟩
      cases x <;> (simp only [nameL, List.getElem?_cons_zero, Option.some.injEq] at h; subst h; first | exact .inl ⟨_, rfl, rfl⟩ | exact .inr rfl)
    | succ j =>
      have h : (nameL k g (i + 1) r)[j]? = some c := by cases x <;> exact h
      obtain ⟨c0, h1, h2⟩ := nameL_get h
      refine ⟨c0, h1, h2.imp id fun h => ?_⟩
      rw [h]; congr 2; omega
theorem noRf_mem : ∀ {es : List (E L)}, noRf es = true → ∀ l, E.rf l ∉ es
  | [], _, l => by simp
  | .rf _ :: _, h, l => by cases h
  | .o d v :: es, h, l => by
    intro hm
    rcases List.mem_cons.1 hm with e | hm
    · cases e
    · exact noRf_mem (es := es) h l hm
  | .mv :: es, h, l => by
    intro hm
    rcases List.mem_cons.1 hm with e | hm
    · cases e
    · exact noRf_mem (es := es) h l hm
theorem arep_newarj {st : St L} {g : G} {w : World} {d : Nat} {es : List (E L)} {j : Nat} :
    ARep P I φ (newRoot st d none es).1 g w (.ar ⟨d, (newRoot st d none es).2, j, 0, []⟩) (g.vv d j) := by
  rw [newRoot_eq]
  refine .ar _ _ ⟨⟨nextGen st d, none, es.map fun e => ⟨0, e⟩⟩, by simp [get_newSt], Nat.le_refl _, fun _ c _ => Nat.zero_le _⟩ fun hv _ dd e nl xs ht => ?_
  unfold Eng.locV
  rw [get_injS]
  simp [injLoc, get_newSt, injR, Eng.rootV]
theorem coerce_ok {a : Act} {w : World} : ∀ (l : List Nat) {st : St L} {g : G}, RelG P I φ β nt st g a w → ∃ g', RelG P I φ β nt (@coerce1 L (semL cs) st l) g' a w
  | [], st, g, h => ⟨g, h⟩
  | s :: r, st, g, h => by
    simp only [coerce1]
    split
    · rename_i e t hs
      obtain ⟨u, hu, hr⟩ := h.e s _ hs
      have hz : u = .slice none 0 0 ∨ ∃ b, u = .slice (some b) 0 0 := by cases hr; assumption
      obtain ⟨h1, h2⟩ := inv_newE h.i (2000 + s) none [.o 1 (⟨.sl e t, ([] : List t.den)⟩ : L)] 0 (fun _ => u) (fun _ => False) (fun _ _ => False) (fun b hb => hb.elim)
        ⟨fun b hb => by simp at hb, fun j b hb => hb.elim, fun j k b hb => hb.elim⟩ (fun e' he' => by cases he')
        (fun j e0 hj => by
          cases j with
          | succ j => simp at hj
          | zero =>
            simp only [List.getElem?_cons_zero, Option.some.injEq] at hj
            subst hj
            exact ⟨u, rfl, rep_zs_any (a := t) hz 1 _⟩)
      have hnm := arep_newar' (P := P) (I := I) (φ := φ) (st := st) (g := g) (w := w) (d := 2000 + s) (es := [.o 1 (⟨.sl e t, ([] : List t.den)⟩ : L)]) (u := u) (N := fun _ => False) (ad := 0)
      refine coerce_ok r (g := _) ⟨h.defers, h.size, h2.env _ _, ?_, ?_⟩
      · intro s' x hx
        rw [get_put] at hx
        split at hx
        · rename_i hss
          simp only [Option.some.injEq] at hx
          subst hx; subst hss
          exact ⟨u, hu, hnm.env _ _⟩
        · rw [newRoot_eq] at hx
          obtain ⟨u', hu', hr'⟩ := h.e s' x hx
          exact ⟨u', hu', (h1.a _ _ hr').env _ _⟩
      · intro s' k b x hx
        rw [newRoot_eq] at hx
        obtain ⟨u', hu', hr', hn'⟩ := h.n s' k b x hx
        exact ⟨u', hu', fun hk => (h1.a _ _ (hr' hk)).env _ _, hn'⟩
    · rename_i t cs0 hs
      split
      · rename_i es st1 hab
        split
        · rename_i hrf
          obtain ⟨u, hu, hr⟩ := h.e s _ hs
          cases hr with
          | ag _ _ vs us hl hv hr =>
            obtain ⟨hlen, g1, Ns, ht, hdis, hheld⟩ := absorbL_ok (maskL cs0) h.i us (fun j c hj => by
              obtain ⟨c0, h0, hc⟩ := maskL_get hj
              rcases hc with rfl | rfl
              · exact .u _
              · exact hr j _ h0) hab
            have henv : st1.env = st.env ∧ st1.gnv = st.gnv := absorbL_env hab
            obtain ⟨h1, h2⟩ := inv_newE ht.inv (2000 + s) none es 0 us (fun b => ∃ j, Ns j b) Ns ht.free
              ⟨fun b hb => by simp at hb, fun j b hb => ⟨⟨j, hb⟩, by simp⟩, hdis⟩ (fun e' he' => by cases he')
              (fun j e0 hj => by
                refine ⟨us j, rfl, ?_⟩
                have := hheld j e0 hj
                cases e0 with
                | o dd v => exact this
                | rf l => exact absurd (List.mem_of_getElem? hj) (noRf_mem hrf l)
                | mv => trivial)
            have hp := ht.pass.trans h1
            refine coerce_ok r (g := _) ⟨h.defers, h.size, h2.env _ _, ?_, ?_⟩
            · intro s' x hx
              rw [get_put] at hx
              split at hx
              · rename_i hss
                simp only [Option.some.injEq] at hx
                subst hx; subst hss
                refine ⟨_, hu, .ag _ _ vs us (by rw [nameL_len]; exact hl) (fun j c hj => ?_) fun j c hj => ?_⟩
                · obtain ⟨c0, h0, _⟩ := nameL_get hj
                  exact hv j c0 h0
                · obtain ⟨c0, h0, hc⟩ := nameL_get hj
                  rcases hc with ⟨v, rfl, rfl⟩ | rfl
                  · exact (hp.a _ _ (hr j _ h0)).env _ _
                  · have := arep_newarj (P := P) (I := I) (φ := φ) (st := st1) (g := g1.set g1.F (2000 + s') (fun b => ∃ j, Ns j b) 0 us) (w := w) (d := 2000 + s') (es := es) (j := 0 + j)
                    simp only [Eng.G.set, if_true, Nat.zero_add] at this
                    rw [Nat.zero_add]
                    exact this.env _ _
              · rw [newRoot_eq] at hx
                have hx : get st1.env s' = some x := hx
                rw [henv.1] at hx
                obtain ⟨u', hu', hr'⟩ := h.e s' x hx
                exact ⟨u', hu', (hp.a _ _ hr').env _ _⟩
            · intro s' k b x hx
              rw [newRoot_eq] at hx
              have hx : (s', (k, b), x) ∈ st1.gnv := hx
              rw [henv.2] at hx
              obtain ⟨u', hu', hr', hn'⟩ := h.n s' k b x hx
              exact ⟨u', hu', fun hk => (hp.a _ _ (hr' hk)).env _ _, hn'⟩
        · exact coerce_ok r h
      · exact coerce_ok r h
    · exact coerce_ok r h
theorem prep_ok {st : St L} {g : G} {a : Act} {w : World} (hh : JH) (h : RelG P I φ β nt st g a w) : ∃ g', RelG P I φ β nt (@prep L (semL cs) hh st) g' a w := by
  obtain ⟨g1, h1⟩ := coerce_ok (cs := cs) hh.co (norm_ok (clean_part hh.live st) h)
  have h2 := norm_ok (clean_part hh.live (@coerce1 L (semL cs) (normalize (clean hh.live st)) hh.co)) h1
  obtain ⟨g3, h3⟩ := rename_ok h2
  exact lower_ok hh.low h3
theorem sameSteps_fill : ∀ {a : List (L × Nat)} {b : List (Ty × Nat)} (r : List L), @sameSteps L (semL cs) a b = true → fillS b (stepsL a ++ r) = (a, r)
  | [], [], r, _ => rfl
  | (v, o) :: a, (v', o') :: b, r, h => by
    simp only [sameSteps, Bool.and_eq_true] at h
    have h1 := (beq_iff _ _).1 h.2.1
    subst h1
    simp only [stepsL, List.cons_append, fillS, sameSteps_fill r h.2.2]
  | [], _ :: _, r, h => by simp [sameSteps] at h
  | _ :: _, [], r, h => by simp [sameSteps] at h
theorem sameLoc_fill {a : Loc L} {b : Loc Ty} (r : List L) (h : @sameLoc L (semL cs) a b = true) : fillLoc b (stepsL a.steps ++ r) = (a, r) := by
  simp only [sameLoc, Bool.and_eq_true] at h
  obtain ⟨h1, h2, h3, h4, h5⟩ := h
  have h1 := (beq_iff _ _).1 h1
  have h2 := (beq_iff _ _).1 h2
  have h3 := (beq_iff _ _).1 h3
  have h4 := (beq_iff _ _).1 h4
  unfold fillLoc
  rw [sameSteps_fill r h5]
  simp only [← h1, ← h2, ← h3, ← h4]
def leafs1 : AV L → List L
  | .lf v => [v]
  | .tl v => [v]
  | .fp v => [v]
  | .ar l => stepsL l.steps
  | .pt l => stepsL l.steps
  | _ => []
theorem sameA1_fill {x : AV L} {y : AV Ty} (r : List L) (h : @sameA1 L (semL cs) x y = true) : fillA1 y (leafs1 x ++ r) = (x, r) := by
  cases x <;> cases y <;> simp only [sameA1, Bool.false_eq_true] at h
  case lf.lf => rfl
  case tl.tl => rfl
  case fp.fp => rfl
  case zs.zs =>
    simp only [Bool.and_eq_true, decide_eq_true_eq] at h
    have h1 := (beq_iff _ _).1 h.1
    obtain ⟨_, rfl⟩ := h
    subst h1
    rfl
  case ar.ar => simp only [leafs1, fillA1, sameLoc_fill r h]
  case pt.pt => simp only [leafs1, fillA1, sameLoc_fill r h]
  case u.u => rfl
theorem leafs_go (x : AV L) (r : List (AV L)) : leafsA.go (x :: r) = leafs1 x ++ leafsA.go r := by
  cases x <;> rfl
theorem sameAL_fill : ∀ {x : List (AV L)} {y : List (AV Ty)} (r : List L), @sameAL L (semL cs) x y = true → fillAL y (leafsA.go x ++ r) = (x, r)
  | [], [], r, _ => rfl
  | x :: xs, y :: ys, r, h => by
    simp only [sameAL, Bool.and_eq_true] at h
    rw [leafs_go, List.append_assoc]
    simp only [fillAL, sameA1_fill _ h.1, sameAL_fill r h.2]
  | [], _ :: _, r, h => by simp [sameAL] at h
  | _ :: _, [], r, h => by simp [sameAL] at h
theorem sameA_fill {x : AV L} {y : AV Ty} (r : List L) (h : @sameA L (semL cs) x y = true) : fillA y (leafsA x ++ r) = (x, r) := by
  have one : ∀ {x : AV L} {y : AV Ty}, @sameA1 L (semL cs) x y = true → leafsA x = leafs1 x → fillA y (leafsA x ++ r) = (x, r) := by
    intro x y h hl
    rw [hl]
    have := sameA1_fill r h
    cases y <;> first | exact this | (cases x <;> simp [sameA1] at h)
  cases x with
  | ag t cs0 =>
    cases y with
    | ag t' cs' =>
      simp only [sameA, Bool.and_eq_true, decide_eq_true_eq] at h
      obtain ⟨rfl, h⟩ := h
      simp only [leafsA, fillA, sameAL_fill r h]
    | _ => simp [sameA, sameA1] at h
  | tu cs0 =>
    cases y with
    | tu cs' =>
      simp only [sameA] at h
      simp only [leafsA, fillA, sameAL_fill r h]
    | _ => simp [sameA, sameA1] at h
  | fn f cs0 =>
    cases y with
    | fn f' cs' =>
      simp only [sameA, Bool.and_eq_true] at h
      have h1 := (beq_iff _ _).1 h.1
      subst h1
      simp only [leafsA, fillA, sameAL_fill r h.2]
    | _ => simp [sameA, sameA1] at h
  | lf v => cases y <;> first | exact one h rfl | simp [sameA, sameA1] at h
  | zs e a => cases y <;> first | exact one h rfl | simp [sameA, sameA1] at h
  | tl v => cases y <;> first | exact one h rfl | simp [sameA, sameA1] at h
  | fp v => cases y <;> first | exact one h rfl | simp [sameA, sameA1] at h
  | ar v => cases y <;> first | exact one h rfl | simp [sameA, sameA1] at h
  | pt v => cases y <;> first | exact one h rfl | simp [sameA, sameA1] at h
  | u => cases y <;> first | exact one h rfl | simp [sameA, sameA1] at h
theorem sameC_fill : ∀ {x : List (Cell L)} {y : List (Cell Ty)} (r : List L), @sameC L (semL cs) x y = true → fillC y (leafsC x ++ r) = (x, r)
  | [], [], r, _ => rfl
  | ⟨s, .o d v⟩ :: xs, ⟨s', .o d' t⟩ :: ys, r, h => by
    simp only [sameC, Bool.and_eq_true] at h
    obtain ⟨h1, h2, _, h3⟩ := h
    have h1 := (beq_iff _ _).1 h1
    have h2 := (beq_iff _ _).1 h2
    subst h1; subst h2
    simp only [leafsC, List.cons_append, fillC, sameC_fill r h3]
  | ⟨s, .rf l⟩ :: xs, ⟨s', .rf m⟩ :: ys, r, h => by
    simp only [sameC, Bool.and_eq_true] at h
    obtain ⟨h1, h2, h3⟩ := h
    have h1 := (beq_iff _ _).1 h1
    subst h1
    simp only [leafsC, List.append_assoc, fillC, sameLoc_fill _ h2, sameC_fill r h3]
  | ⟨s, .mv⟩ :: xs, ⟨s', .mv⟩ :: ys, r, h => by
    simp only [sameC, Bool.and_eq_true] at h
    have h1 := (beq_iff _ _).1 h.1
    subst h1
    simp only [leafsC, fillC, sameC_fill r h.2]
  | [], _ :: _, r, h => by simp [sameC] at h
  | ⟨s, .o d v⟩ :: xs, [], r, h => by simp [sameC] at h
  | ⟨s, .rf l⟩ :: xs, [], r, h => by simp [sameC] at h
  | ⟨s, .mv⟩ :: xs, [], r, h => by simp [sameC] at h
  | ⟨s, .o d v⟩ :: xs, ⟨s', .rf m⟩ :: ys, r, h => by simp [sameC] at h
  | ⟨s, .o d v⟩ :: xs, ⟨s', .mv⟩ :: ys, r, h => by simp [sameC] at h
  | ⟨s, .rf l⟩ :: xs, ⟨s', .o d t⟩ :: ys, r, h => by simp [sameC] at h
  | ⟨s, .rf l⟩ :: xs, ⟨s', .mv⟩ :: ys, r, h => by simp [sameC] at h
  | ⟨s, .mv⟩ :: xs, ⟨s', .o d t⟩ :: ys, r, h => by simp [sameC] at h
  | ⟨s, .mv⟩ :: xs, ⟨s', .rf m⟩ :: ys, r, h => by simp [sameC] at h
theorem sameE_fill : ∀ {x : List (Nat × AV L)} {y : List (Nat × AV Ty)} (r : List L), @sameE L (semL cs) x y = true → fillE y (leafs.go1 x ++ r) = (x, r)
  | [], [], r, _ => rfl
  | (k, x) :: xs, (k', y) :: ys, r, h => by
    simp only [sameE, Bool.and_eq_true] at h
    have h1 := (beq_iff _ _).1 h.1
    subst h1
    simp only [leafs.go1, List.append_assoc, fillE, sameA_fill _ h.2.1, sameE_fill r h.2.2]
  | [], _ :: _, r, h => by simp [sameE] at h
  | _ :: _, [], r, h => by simp [sameE] at h
theorem sameR_fill : ∀ {x : List (Nat × Root L)} {y : List (Nat × Root Ty)} (r : List L), @sameR L (semL cs) x y = true → fillR y (leafs.go2 x ++ r) = (x, r)
  | [], [], r, _ => rfl
  | (k, x) :: xs, (k', y) :: ys, r, h => by
    simp only [sameR, Bool.and_eq_true, decide_eq_true_eq] at h
    obtain ⟨h1, h2, h3, h4, h5⟩ := h
    have h1 := (beq_iff _ _).1 h1
    have h2 := (beq_iff _ _).1 h2
    subst h1
    simp only [leafs.go2, List.append_assoc, fillR, sameC_fill _ h4, sameR_fill r h5, ← h2, ← h3]
  | [], _ :: _, r, h => by simp [sameR] at h
  | _ :: _, [], r, h => by simp [sameR] at h
theorem fill_same {a : St L} {b : St Ty} (h : @sameSt L (semL cs) a b = true) (hg : a.gnv = []) : fill b (leafs a) = a := by
  simp only [sameSt, Bool.and_eq_true] at h
  obtain ⟨env, gnv, sto⟩ := a
  simp only at hg
  subst hg
  have h1 := sameE_fill (leafs.go2 sto) h.1
  have h2 := sameR_fill [] h.2
  rw [List.append_nil] at h2
  unfold fill leafs
  simp only [h1, h2]
theorem untup_tup : ∀ (vs : List L), @untup L (semL cs) vs.length (@tup L (semL cs) vs) = some vs
  | [] => rfl
  | [v] => rfl
  | v :: w :: r => by
    have h := untup_tup (w :: r)
    simp only [List.length_cons] at h ⊢
    simp only [tup]
    unfold untup
    have h1 : @LAlg.fst L (semL cs) (@LAlg.mkpair L (semL cs) v (@tup L (semL cs) (w :: r))) = some v := rfl
    have h2 : @LAlg.snd L (semL cs) (@LAlg.mkpair L (semL cs) v (@tup L (semL cs) (w :: r))) = some (@tup L (semL cs) (w :: r)) := rfl
    simp only [h1, h2, h]
theorem setCell_gnv' (st : St L) (k j : Nat) (c : Cell L) : (setCell st k j c).gnv = st.gnv := (setCell_env st k j c).2
theorem lower_gnv : ∀ (l : List (Nat × Nat × Nat)) (st : St L), (lower st l).gnv = st.gnv
  | [], st => rfl
  | (k, j, d) :: r, st => by
    simp only [lower]
    split
    · split
      · rw [lower_gnv, setCell_gnv']
      · exact lower_gnv r st
    · rw [lower_gnv, newRoot_eq]; rfl
theorem prep_gnv (hh : JH) (st : St L) : (@prep L (semL cs) hh st).gnv = [] := by
  unfold prep
  rw [lower_gnv]
  unfold rename
  simp only
  split <;> rfl
theorem sameSteps_ty : ∀ {a : List (L × Nat)} {b : List (Ty × Nat)}, @sameSteps L (semL cs) a b = true → (stepsL a).map (·.ty) = stepsL b
  | [], [], _ => rfl
  | (v, o) :: a, (t, o') :: b, h => by
    simp only [sameSteps, Bool.and_eq_true, decide_eq_true_eq] at h
    have h1 : v.ty = t := h.1
    simp only [stepsL, List.map_cons, h1, sameSteps_ty h.2.2]
  | [], _ :: _, h => by simp [sameSteps] at h
  | _ :: _, [], h => by simp [sameSteps] at h
theorem sameLoc_ty {a : Loc L} {b : Loc Ty} (h : @sameLoc L (semL cs) a b = true) : (stepsL a.steps).map (·.ty) = stepsL b.steps := by
  simp only [sameLoc, Bool.and_eq_true] at h
  exact sameSteps_ty h.2.2.2.2
def leafs1T : AV Ty → List Ty
  | .lf v => [v]
  | .tl v => [v]
  | .fp v => [v]
  | .ar l => stepsL l.steps
  | .pt l => stepsL l.steps
  | _ => []
theorem leafs_goT (x : AV Ty) (r : List (AV Ty)) : leafsA.go (x :: r) = leafs1T x ++ leafsA.go r := by
  cases x <;> rfl
theorem sameA1_ty {x : AV L} {y : AV Ty} (h : @sameA1 L (semL cs) x y = true) : (leafs1 x).map (·.ty) = leafs1T y := by
  cases x <;> cases y <;> simp only [sameA1, Bool.false_eq_true] at h
  case lf.lf v t => have h1 : v.ty = t := of_decide_eq_true h; simp [leafs1, leafs1T, h1]
  case tl.tl v t => have h1 : v.ty = t := of_decide_eq_true h; simp [leafs1, leafs1T, h1]
  case fp.fp v t => have h1 : v.ty = t := of_decide_eq_true h; simp [leafs1, leafs1T, h1]
  case zs.zs => rfl
  case ar.ar => exact sameLoc_ty h
  case pt.pt => exact sameLoc_ty h
  case u.u => rfl
theorem sameAL_ty : ∀ {x : List (AV L)} {y : List (AV Ty)}, @sameAL L (semL cs) x y = true → (leafsA.go x).map (·.ty) = leafsA.go y
  | [], [], _ => rfl
  | x :: xs, y :: ys, h => by
    simp only [sameAL, Bool.and_eq_true] at h
    rw [leafs_go, leafs_goT, List.map_append, sameA1_ty h.1, sameAL_ty h.2]
  | [], _ :: _, h => by simp [sameAL] at h
  | _ :: _, [], h => by simp [sameAL] at h
theorem sameA_ty {x : AV L} {y : AV Ty} (h : @sameA L (semL cs) x y = true) : (leafsA x).map (·.ty) = leafsA y := by
  have one : ∀ {x : AV L}, @sameA1 L (semL cs) x y = true → leafs1 x = leafsA x → (leafsA x).map (·.ty) = leafsA y := by
    intro x h2 hl
    rw [← hl, sameA1_ty h2]
    cases y <;> first | rfl | (cases x <;> simp [sameA1] at h2)
  cases x with
  | ag t cs0 =>
    cases y with
    | ag t' cs' => simp only [sameA, Bool.and_eq_true] at h; exact sameAL_ty h.2
    | _ => simp [sameA, sameA1] at h
  | tu cs0 =>
    cases y with
    | tu cs' => simp only [sameA] at h; exact sameAL_ty h
    | _ => simp [sameA, sameA1] at h
  | fn f cs0 =>
    cases y with
    | fn f' cs' => simp only [sameA, Bool.and_eq_true] at h; exact sameAL_ty h.2
    | _ => simp [sameA, sameA1] at h
  | lf v => exact one h rfl
  | zs e a => exact one h rfl
  | tl v => exact one h rfl
  | fp v => exact one h rfl
  | ar v => exact one h rfl
  | pt v => exact one h rfl
  | u => exact one h rfl
theorem sameC_ty : ∀ {x : List (Cell L)} {y : List (Cell Ty)}, @sameC L (semL cs) x y = true → (leafsC x).map (·.ty) = leafsC y
  | [], [], _ => rfl
  | ⟨s, .o d v⟩ :: xs, ⟨s', .o d' t⟩ :: ys, h => by
    simp only [sameC, Bool.and_eq_true, decide_eq_true_eq] at h
    have h1 : v.ty = t := h.2.2.1
    simp only [leafsC, List.map_cons, h1, sameC_ty h.2.2.2]
  | ⟨s, .rf l⟩ :: xs, ⟨s', .rf m⟩ :: ys, h => by
    simp only [sameC, Bool.and_eq_true] at h
    simp only [leafsC, List.map_append, sameLoc_ty h.2.1, sameC_ty h.2.2]
  | ⟨s, .mv⟩ :: xs, ⟨s', .mv⟩ :: ys, h => by
    simp only [sameC, Bool.and_eq_true] at h
    simp only [leafsC, sameC_ty h.2]
  | [], _ :: _, h => by simp [sameC] at h
  | ⟨s, .o d v⟩ :: xs, [], h => by simp [sameC] at h
  | ⟨s, .rf l⟩ :: xs, [], h => by simp [sameC] at h
  | ⟨s, .mv⟩ :: xs, [], h => by simp [sameC] at h
  | ⟨s, .o d v⟩ :: xs, ⟨s', .rf m⟩ :: ys, h => by simp [sameC] at h
  | ⟨s, .o d v⟩ :: xs, ⟨s', .mv⟩ :: ys, h => by simp [sameC] at h
  | ⟨s, .rf l⟩ :: xs, ⟨s', .o d t⟩ :: ys, h => by simp [sameC] at h
  | ⟨s, .rf l⟩ :: xs, ⟨s', .mv⟩ :: ys, h => by simp [sameC] at h
  | ⟨s, .mv⟩ :: xs, ⟨s', .o d t⟩ :: ys, h => by simp [sameC] at h
  | ⟨s, .mv⟩ :: xs, ⟨s', .rf m⟩ :: ys, h => by simp [sameC] at h
theorem sameE_ty : ∀ {x : List (Nat × AV L)} {y : List (Nat × AV Ty)}, @sameE L (semL cs) x y = true → (leafs.go1 x).map (·.ty) = leafs.go1 y
  | [], [], _ => rfl
  | (k, x) :: xs, (k', y) :: ys, h => by
    simp only [sameE, Bool.and_eq_true] at h
    simp only [leafs.go1, List.map_append, sameA_ty h.2.1, sameE_ty h.2.2]
  | [], _ :: _, h => by simp [sameE] at h
  | _ :: _, [], h => by simp [sameE] at h
theorem sameR_ty : ∀ {x : List (Nat × Root L)} {y : List (Nat × Root Ty)}, @sameR L (semL cs) x y = true → (leafs.go2 x).map (·.ty) = leafs.go2 y
  | [], [], _ => rfl
  | (k, x) :: xs, (k', y) :: ys, h => by
    simp only [sameR, Bool.and_eq_true] at h
    simp only [leafs.go2, List.map_append, sameC_ty h.2.2.2.1, sameR_ty h.2.2.2.2]
  | [], _ :: _, h => by simp [sameR] at h
  | _ :: _, [], h => by simp [sameR] at h
theorem leafs_ty {a : St L} {b : St Ty} (h : @sameSt L (semL cs) a b = true) : (leafs a).map (·.ty) = leafs b := by
  simp only [sameSt, Bool.and_eq_true] at h
  unfold leafs
  rw [List.map_append, sameE_ty h.1, sameR_ty h.2]
theorem leafs_len {a : St L} {b : St Ty} (h : @sameSt L (semL cs) a b = true) : (leafs b).length = (leafs a).length := by
  rw [← leafs_ty h, List.length_map]
theorem tup_ty : ∀ (vs : List L), (@tup L (semL cs) vs).ty = tupTy (vs.map (·.ty))
  | [] => rfl
  | [v] => rfl
  | v :: w :: r => by
    have h := tup_ty (w :: r)
    show Ty.pair v.ty (@tup L (semL cs) (w :: r)).ty = Ty.pair v.ty (tupTy ((w :: r).map (·.ty)))
    rw [h]
theorem toSh_some {ρ : Type} {s : SH} {w : String} {f : List L → Option ρ} {st : St L} {r : ρ} (h : @toSh L (Option ρ) (semL cs) (semF ρ) s w f st = some r) :
    f (leafs (@prep L (semL cs) s.h st)) = some r ∧ @sameSt L (semL cs) (@prep L (semL cs) s.h st) s.sh = true ∧ fill s.sh (leafs (@prep L (semL cs) s.h st)) = @prep L (semL cs) s.h st := by
  unfold toSh at h
  simp only at h
  split at h
  · rename_i hs
    exact ⟨h, hs, fill_same hs (prep_gnv _ _)⟩
  · cases h
theorem atSh_tup {ρ : Type} {sh : St Ty} {w : String} {n : St L → Option ρ} {a : St L} (h : @sameSt L (semL cs) a sh = true) (hg : a.gnv = []) : @atSh L (Option ρ) (semL cs) (semF ρ) sh w n (@tup L (semL cs) (leafs a)) = n a := by
  unfold atSh
  rw [leafs_len h, untup_tup]
  simp only [oCase]
  rw [fill_same h hg]
end Go.Y
namespace Go.Y
open Go.Eng (T RepT RepM SRep Kept Base G SameOn VRep Split Live Free kn Owns ownB RootOk ERep)
variable {P : Program} {I : Ids} {φ : FnP} {β : Base} {nt : Nat} {cs : List (Nat × Con)}
variable {ρ : Type} {ls : List (Nat × LoopC ρ)} {r : ρ} {tb : Tabs} {st : St L}
def Pin (pins : List (Nat × Value)) (a : Act) : Prop := ∀ p ∈ pins, a.tmps[p.1]? = some p.2
def OpOk (P : Program) (I : Ids) (φ : FnP) (β : Base) (nt : Nat) (cs : List (Nat × Con)) {ρ : Type} (ls : List (Nat × LoopC ρ)) (tb : Tabs) : Prop :=
  ∀ (o : Oper) (st : St L) (gd : Option (Gd L)) (k : St L → Option ρ) (r : ρ), (∀ d, o.dst = some d → d < nt) → selfOk gd o.dst = true →
    @opK L (Option ρ) (semL cs) (semF ρ) (semR ρ cs ls) tb st gd o.dst o.type o.op k = some r → ∃ st', k st' = some r ∧ Does P I φ β nt o st gd st'
def Cont (P : Program) (I : Ids) (φ : FnP) (β : Base) (nt : Nat) (pins : List (Nat × Value)) {ρ : Type} (n : St L → Option ρ) (r : ρ) (K : Act → World → Prop) : Prop :=
  ∀ st g a w, n st = some r → RelG P I φ β nt st g a w → Pin pins a → K a w
def dstOk (nt : Nat) (pins : List Nat) (o : Oper) : Bool := match o.dst with
  | some d => Nat.blt d nt && !memN d pins
  | none => true
theorem dstOk_lt {pins : List Nat} {o : Oper} (h : dstOk nt pins o = true) : ∀ d, o.dst = some d → d < nt := by
  intro d hd
  unfold dstOk at h
  rw [hd] at h
  simp only [Bool.and_eq_true] at h
  exact Nat.le_of_ble_eq_true h.1
theorem dstOk_pin {pins : List (Nat × Value)} {o : Oper} (h : dstOk nt (pins.map (·.1)) o = true) {a a' : Act} (ha : ∀ s, o.dst ≠ some s → a'.tmps[s]? = a.tmps[s]?) (hp : Pin pins a) : Pin pins a' := by
  intro p hm
  rw [ha p.1 fun hd => ?_]
  · exact hp p hm
  · unfold dstOk at h
    rw [hd] at h
    simp only [Bool.and_eq_true, Bool.not_eq_true'] at h
    rw [memN_iff.2 (List.mem_map.2 ⟨p, hm, rfl⟩)] at h
    cases h.2
theorem wanted_ok {ops : Array Oper} {o : Oper} {g : G} {a : Act} {w : World} {gd : Option (Gd L)} (hR : RelG P I φ β nt st g a w) (h : @guardV L (semL cs) ops.toList st o.guard = some gd) :
    GdOk a.tmps gd ∧ (Region.wanted o (yielded ops a.tmps) = true → On gd) ∧ (Region.wanted o (yielded ops a.tmps) = false → ∃ gd', gd = some gd' ∧ gd'.c.bool = some false) := by
  unfold guardV at h
  unfold Region.wanted
  cases hg : o.guard with
  | none =>
    rw [hg] at h
    simp only [Option.some.injEq] at h
    subst h
    exact ⟨trivial, fun _ c hc => (by cases hc), fun h => (by cases h)⟩
  | some p =>
    obtain ⟨j, want⟩ := p
    rw [hg] at h
    simp only at h ⊢
    split at h
    · rename_i o1 ho1
      rw [getL_eq] at ho1
      split at h
      · rename_i d hd
        split at h
        · rename_i gd1 hgd
          simp only [Option.some.injEq] at h
          subst h
          obtain ⟨h1, rr, hk⟩ := guardG_ok hR.e hR.n 8 d want gd1 hgd
          refine ⟨h1, ?_⟩
          obtain ⟨k, r0, hkk, b, hb, hiff, _⟩ := h1
          rw [hk, List.cons.injEq] at hkk
          obtain ⟨rfl, rfl⟩ := hkk
          have hy : yielded ops a.tmps j = some want ↔ b = true := by
            rw [hiff]
            unfold yielded
            have : ops[j]? = some o1 := by rw [← Array.getElem?_toList]; exact ho1
            rw [this]
            simp only [Option.bind_some, hd]
            cases ht : a.tmps[d]? with
            | none => simp
            | some v => cases v <;> simp
          refine ⟨fun hw => ?_, fun hw => ?_⟩
          · intro c hc
            have hc : gd1.c = c := by simpa [leafOf] using hc
            rw [← hc, hb, hy.1 (by simpa using hw)]
          · refine ⟨gd1, rfl, ?_⟩
            have : b ≠ true := fun e => by
              have := hy.2 e
              rw [this] at hw
              simp at hw
            rw [hb]
            cases b
            · rfl
            · exact absurd rfl this
        · cases h
      · cases h
    · cases h
theorem opsK_app (hop : OpOk P I φ β nt cs ls tb) {ops : Array Oper} {pins : List (Nat × Value)} {Q : Exit → Act → World → Prop} {n : St L → Option ρ} {rest : List Oper} (hn : Cont P I φ β nt pins n r (wpList P ops Q rest)) :
    ∀ (l : List Oper) (st : St L), (∀ o ∈ l, dstOk nt (pins.map (·.1)) o = true) → @opsK L (Option ρ) (semL cs) (semF ρ) (semR ρ cs ls) tb ops.toList l st n = some r →
    ∀ g a w, RelG P I φ β nt st g a w → Pin pins a → wpList P ops Q (l ++ rest) a w
  | [], st, _, h, g, a, w, hR, hp => hn st g a w h hR hp
  | o :: l, st, hd, h, g, a, w, hR, hp => by
    simp only [opsK] at h
    obtain ⟨gd, hg, h1⟩ := oCase_some h
    clear h
    split at h1
    · rename_i hself
      obtain ⟨h2, h3, h4⟩ := wanted_ok hR hg
      have hdo := hd o (by simp)
      obtain ⟨st', h5, hdoes⟩ := hop o st gd _ r (dstOk_lt hdo) hself h1
      rw [List.cons_append]
      unfold wpList
      split
      · rename_i hw
        refine .inl (hdoes.run a w g hR h2 (h3 hw) _ _ fun a' w' g' hpass hR' ht => ?_)
        exact opsK_app hop hn l st' (fun o ho => hd o (by simp [ho])) h5 g' a' w' hR' (dstOk_pin hdo ht hp)
      · rename_i hw
        obtain ⟨gd', hgd, hoff⟩ := h4 (by simpa using hw)
        obtain ⟨g', hpass, hR'⟩ := hdoes.skip a w g gd' hgd hR h2 hoff
        exact opsK_app hop hn l st' (fun o ho => hd o (by simp [ho])) h5 g' _ w hR' (dstOk_pin hdo (fun s hs => put_ne a undef hs) hp)
    · cases h1
theorem opsK_ok (hop : OpOk P I φ β nt cs ls tb) {ops : Array Oper} {pins : List (Nat × Value)} {Q : Exit → Act → World → Prop} {n : St L → Option ρ} (hn : Cont P I φ β nt pins n r (Q .normal)) (l : List Oper) (st : St L)
    (hd : ∀ o ∈ l, dstOk nt (pins.map (·.1)) o = true) (h : @opsK L (Option ρ) (semL cs) (semF ρ) (semR ρ cs ls) tb ops.toList l st n = some r) (g : G) (a : Act) (w : World) (hR : RelG P I φ β nt st g a w) (hp : Pin pins a) : wpList P ops Q l a w := by
  have := opsK_app (rest := []) hop (fun st g a w h hR hp => hn st g a w h hR hp) l st hd h g a w hR hp
  rwa [List.append_nil] at this
theorem RelG.gnv {g : G} {a : Act} {w : World} (h : RelG P I φ β nt st g a w) : RelG P I φ β nt { st with gnv := [] } g a w :=
  ⟨h.defers, h.size, h.i.env _ _, fun s x hx => by obtain ⟨u, hu, hr⟩ := h.e s x hx; exact ⟨u, hu, hr.env _ _⟩, fun s k b x hx => by simp at hx⟩
end Go.Y
namespace Go.Y
open Go.Eng (T RepT RepM SRep Kept Base G SameOn VRep Split Live Free kn Owns ownB RootOk ERep)
variable {P : Program} {I : Ids} {φ : FnP} {β : Base} {nt : Nat} {cs : List (Nat × Con)}
variable {ρ : Type} {ls : List (Nat × LoopC ρ)} {r : ρ} {tb : Tabs} {st : St L}
theorem both_some {a b : Option ρ} (h : pBoth a b = some r) : a = some r ∧ b = some r := by
  unfold pBoth at h
  split at h
  · rename_i e; exact ⟨h, e ▸ h⟩
  · cases h
theorem nilCmp_some {o : Oper} {t : TypeId} {s d : Nat} (h : nilCmp o = some (t, s, d)) : ∃ u, o.op = .binOp .eql t (.tmp s) (.const (.slice none 0 0)) u ∧ o.guard = none ∧ o.dst = some d := by
  unfold nilCmp at h
  split at h
  · rename_i t' s' u ho
    split at h
    · rename_i d' hg hd
      simp only [Option.some.injEq, Prod.mk.injEq] at h
      obtain ⟨rfl, rfl, rfl⟩ := h
      exact ⟨u, ho, hg, hd⟩
    · cases h
  · cases h
theorem lastNil_some : ∀ {l pre : List Oper} {t : TypeId} {s d : Nat}, lastNil l = some (pre, t, s, d) → ∃ o, l = pre ++ [o] ∧ nilCmp o = some (t, s, d)
  | [], _, _, _, _, h => by cases h
  | [o], pre, t, s, d, h => by
    simp only [lastNil] at h
    split at h
    · rename_i x hx
      simp only [Option.some.injEq, Prod.mk.injEq] at h
      obtain ⟨rfl, rfl⟩ := h
      exact ⟨o, rfl, hx⟩
    · cases h
  | o :: o2 :: r, pre, t, s, d, h => by
    simp only [lastNil] at h
    split at h
    · rename_i pre' x hx
      simp only [Option.some.injEq, Prod.mk.injEq] at h
      obtain ⟨rfl, rfl⟩ := h
      obtain ⟨o', h1, h2⟩ := lastNil_some (l := o2 :: r) (pre := pre') hx
      exact ⟨o', by rw [h1]; rfl, h2⟩
    · cases h
theorem nilK_ok (hT : TabOk P I tb) {o : Oper} {t : TypeId} {s d : Nat} (ho : nilCmp o = some (t, s, d)) {ops : Array Oper} {pins : List (Nat × Value)} {Q : Exit → Act → World → Prop} {n : St L → Option ρ}
    (hn : Cont P I φ β nt pins n r (Q .normal)) (hdo : dstOk nt (pins.map (·.1)) o = true) :
    Cont P I φ β nt pins (@nilK L (Option ρ) (semL cs) (semF ρ) (semR ρ cs ls) tb t s d n) r (wpList P ops Q [o]) := by
  intro st g a w h hR hp
  obtain ⟨u, hop, hgd, hdst⟩ := nilCmp_some ho
  unfold nilK at h
  obtain ⟨i, hi, h⟩ := oCase_some h
  split at h
  · rename_i e A hity
    split at h
    · rename_i v hv
      split at h
      · rename_i e' A' hvty
        obtain ⟨ty, xs⟩ := v
        have hvty : ty = .sl e' A' := hvty
        subst hvty
        obtain ⟨u0, hu0, hrep⟩ := hR.e s _ hv
        have hrep := arep_lf hrep
        obtain ⟨hund, _, _⟩ := form_sl (ti_facts (hT t i hi)).form hity
        obtain ⟨q, n0, c, rfl, hq⟩ : ∃ q n0 c, u0 = .slice q n0 c ∧ ((xs : List A'.den) ≠ [] → q.isNone = false) := by
          have hrep : RepT P w g.F (.sl e' false ((xs : List A'.den).map fun x => one A' (trc I φ A' x))) u0 := hrep
          generalize hys : ((xs : List A'.den).map fun x => one A' (trc I φ A' x)) = ys at hrep
          have hne : ys = [] → (xs : List A'.den) = [] := fun e => by rw [e] at hys; exact List.map_eq_nil_iff.1 hys
          cases hrep with
          | nsl => exact ⟨_, _, _, rfl, fun h => absurd (hne rfl) h⟩
          | esl => exact ⟨_, _, _, rfl, fun _ => rfl⟩
          | sl => exact ⟨_, _, _, rfl, fun _ => rfl⟩
        have hev : a.eval (.tmp s) = .slice q n0 c := by
          show a.tmps.getD s undef = _
          rw [Array.getD_eq_getD_getElem?, hu0]; rfl
        have hrun : (execOp a.eval o).run P w = .ok (.value (.bool q.isNone)) w :=
          exec_bin hop (by rw [hev]; exact run_guard_nil (by intro c h; cases h)) (by rw [hev]; exact Lib.run_eql_slice_nil w _ _ q n0 c 0 0 hund)
        have hres : n (putE st none d (.lf (mkB q.isNone))) = some r := by
          have h : pNil (xs : List A'.den) (n (putE st none d (.lf (mkB true)))) (n (putE st none d (.lf (mkB false)))) = some r := h
          unfold pNil at h
          split at h
          · obtain ⟨h1, h2⟩ := both_some h
            cases q.isNone
            · exact h2
            · exact h1
          · rw [hq (by simp)]
            exact h
        have hd := dstOk_lt hdo d hdst
        unfold wpList
        rw [if_pos (by unfold Region.wanted; rw [hgd])]
        refine .inl ?_
        unfold Oper.wp
        rw [hrun, Oper.upon_value]
        refine hn _ g _ w hres ?_ (dstOk_pin hdo (fun s hs => put_ne a _ hs) hp)
        rw [hdst]
        exact rel_put (gd := none) hd hR.defers hR.size trivial (fun c hc => by cases hc) (fun k hk => by simp [gdKeys] at hk) rfl rfl hR.e hR.n (Pass.refl _ _ _) hR.i (.lf _ _ (repB' _))
      · cases h
    · cases h
  · cases h
end Go.Y
namespace Go.Y
open Go.Eng (T RepT RepM SRep Kept Base G SameOn VRep Split Live Free kn Owns ownB RootOk ERep)
variable {P : Program} {I : Ids} {φ : FnP} {β : Base} {nt : Nat} {cs : List (Nat × Con)}
variable {ρ : Type} {ls : List (Nat × LoopC ρ)} {r : ρ} {tb : Tabs} {st : St L} {pins : List (Nat × Value)}
theorem as_self (v : L) : v.as v.ty = some v.val := by
  unfold L.as
  have : decEq v.ty v.ty = .isTrue rfl := by
    cases h : decEq v.ty v.ty with
    | isTrue h1 => rfl
    | isFalse h1 => exact absurd rfl h1
  rw [this]
def arrive (s : SH) (w : String) (k : L → Option ρ) : St L → Option ρ := @toSh L (Option ρ) (semL cs) (semF ρ) s w fun vs => match (@tup L (semL cs) vs).as (tupTy (leafs s.sh)) with
  | some x => k ⟨tupTy (leafs s.sh), x⟩
  | none => none
theorem joinK_eq (s : SH) (n : St L → Option ρ) (b : (St L → Option ρ) → Option ρ) :
    @joinK L (Option ρ) (semL cs) (semF ρ) (semR ρ cs ls) s n b = b (arrive (cs := cs) s "join: shapes" (@atSh L (Option ρ) (semL cs) (semF ρ) s.sh "join" n)) := by
  unfold joinK arrive
  simp only [RAlg.join, pJoin]
  congr 2
  funext vs
  cases (@tup L (semL cs) vs).as (tupTy (leafs s.sh)) <;> rfl
theorem tup_as {a : St L} {sh : St Ty} (h : @sameSt L (semL cs) a sh = true) : ∃ x, (@tup L (semL cs) (leafs a)).as (tupTy (leafs sh)) = some x ∧ (⟨tupTy (leafs sh), x⟩ : L) = @tup L (semL cs) (leafs a) := by
  have ht : (@tup L (semL cs) (leafs a)).ty = tupTy (leafs sh) := by rw [tup_ty, leafs_ty h]
  rw [← ht]
  exact ⟨_, as_self _, rfl⟩
theorem toSh_cont {s : SH} {w : String} {f : List L → Option ρ} {K : Act → World → Prop}
    (h : ∀ st1 g a w', @sameSt L (semL cs) st1 s.sh = true → fill s.sh (leafs st1) = st1 → f (leafs st1) = some r → RelG P I φ β nt st1 g a w' → Pin pins a → K a w') :
    Cont P I φ β nt pins (@toSh L (Option ρ) (semL cs) (semF ρ) s w f) r K := by
  intro st g a w' h1 hR hp
  obtain ⟨h2, h3, h4⟩ := toSh_some h1
  obtain ⟨g', hR'⟩ := prep_ok (cs := cs) s.h hR
  exact h _ g' a w' h3 h4 h2 hR' hp
theorem arrive_cont {s : SH} {w w2 : String} {n : St L → Option ρ} {K : Act → World → Prop} (hn : Cont P I φ β nt pins n r K) :
    Cont P I φ β nt pins (arrive (cs := cs) s w (@atSh L (Option ρ) (semL cs) (semF ρ) s.sh w2 n)) r K := by
  refine toSh_cont fun st1 g a w' hs hf h hR hp => ?_
  obtain ⟨x, h1, h2⟩ := tup_as (cs := cs) hs
  rw [h1] at h
  simp only [h2] at h
  have hg : st1.gnv = [] := by rw [← hf]; rfl
  rw [atSh_tup hs hg] at h
  exact hn st1 g a w' h hR hp
structure LoopOk (cs : List (Nat × Con)) {ρ : Type} (ls : List (Nat × LoopC ρ)) (tb : Tabs) (H : Hints) (fin : St L → (L → Option ρ) → Option ρ) (rt : Ty) (lc : LoopC ρ) (lh : LH) (body : Code) (Fn : Nat → List L → List (L → Option ρ) → Option ρ) : Prop where
  run : ∀ vs x ks r, vs.map (·.ty) = leafs lh.sh → (tupL vs).as lc.X = some x → lc.run x ks = some r → ∃ n, Fn n vs ks = some r
  zero : ∀ vs ks, Fn 0 vs ks = none
  step : ∀ n vs ks r, vs.map (·.ty) = leafs lh.sh → Fn (n + 1) vs ks = some r → ∃ ks', ks'.length = ks.length ∧ (∀ (j : Nat) k', ks'[j]? = some k' → ∃ k, ks[j]? = some k ∧ ∀ v r, k' v = some r → k v = some r) ∧
    @yround L (Option ρ) (semL cs) (semF ρ) (semR ρ cs ls) tb H fin rt lh body vs (fun vs' => Fn n vs' ks) ks' = some r
def codeOk (nt : Nat) (pins : List Nat) (loopOk : Nat → Bool) : Code → Bool
  | .region _ ops _ => ops.toList.all (dstOk nt pins)
  | .seq a b => codeOk nt pins loopOk a && codeOk nt pins loopOk b
  | .cond _ a b => codeOk nt pins loopOk a && codeOk nt pins loopOk b
  | .block _ c => codeOk nt pins loopOk c
  | .loop c => codeOk nt pins loopOk c
  | .scope c => codeOk nt pins loopOk c
  | _ => true
def subLoops : Code → List Code
  | .seq a b => subLoops a ++ subLoops b
  | .cond _ a b => subLoops a ++ subLoops b
  | .block _ c => subLoops c
  | .loop c => c :: subLoops c
  | .scope c => subLoops c
  | _ => []
theorem contsOf_get {outs : List (Nat × SH)} {es : List (Nat × (St L → Option ρ))} : ∀ (ids : List Nat) {ks : List (Ty × (L → Option ρ))}, @contsOf L (Option ρ) (semL cs) (semF ρ) outs es ids = some ks →
    ks.length = ids.length ∧ ∀ (j id : Nat), ids[j]? = some id → ∃ k s, get es id = some k ∧ get outs id = some s ∧ ks[j]? = some (tupTy (leafs s.sh), @atSh L (Option ρ) (semL cs) (semF ρ) s.sh "exit" k)
  | [], ks, h => by
    simp only [contsOf, Option.some.injEq] at h
    subst h
    exact ⟨rfl, fun j id hj => by simp at hj⟩
  | id :: ids, ks, h => by
    simp only [contsOf] at h
    split at h
    · rename_i k s r0 hk hs hr
      simp only [Option.some.injEq] at h
      subst h
      obtain ⟨h1, h2⟩ := contsOf_get ids hr
      refine ⟨by simp [h1], fun j id' hj => ?_⟩
      cases j with
      | zero =>
        simp only [List.getElem?_cons_zero, Option.some.injEq] at hj
        subst hj
        exact ⟨k, s, hk, hs, rfl⟩
      | succ j => exact h2 j id' (by simpa using hj)
    · cases h
theorem exitKs_get {outs : List (Nat × SH)} : ∀ (ids : List Nat) (ks : List (L → Option ρ)) (id : Nat) (e : St L → Option ρ), get (@exitKs L (Option ρ) (semL cs) (semF ρ) outs ids ks) id = some e →
    ∃ (j : Nat) (k : L → Option ρ) (s : SH), ids[j]? = some id ∧ ks[j]? = some k ∧ get outs id = some s ∧ e = @toSh L (Option ρ) (semL cs) (semF ρ) s "exit: shapes" fun vs => k (@tup L (semL cs) vs)
  | [], ks, id, e, h => by simp [exitKs, get] at h
  | i :: ids, [], id, e, h => by simp [exitKs, get] at h
  | i :: ids, k :: ks, id, e, h => by
    simp only [exitKs] at h
    split at h
    · rename_i s hs
      rw [get_cons] at h
      split at h
      · rename_i hi
        simp only [Option.some.injEq] at h
        subst hi
        exact ⟨0, k, s, rfl, rfl, hs, h.symm⟩
      · obtain ⟨j, k', s', h1, h2, h3, h4⟩ := exitKs_get ids ks id e h
        exact ⟨j + 1, k', s', by simpa using h1, by simpa using h2, h3, h4⟩
    · simp [get] at h
variable {H : Hints} {fin : St L → (L → Option ρ) → Option ρ} {rt : Ty}
def DrawOk (P : Program) (I : Ids) (φ : FnP) (β : Base) (nt : Nat) (cs : List (Nat × Con)) {ρ : Type} (ls : List (Nat × LoopC ρ)) (tb : Tabs) (pins : List (Nat × Value)) : Prop :=
  ∀ (id : Nat) (ops : Array Oper) (st : St L) (n : St L → Option ρ) (r : ρ) (Q : Exit → Act → World → Prop), (∀ o ∈ ops.toList, dstOk nt (pins.map (·.1)) o = true) → Cont P I φ β nt pins n r (Q .normal) →
    @drawK L (Option ρ) (semL cs) (semF ρ) (semR ρ cs ls) tb ops.toList st n = some r → ∀ g a w, RelG P I φ β nt st g a w → Pin pins a → (Code.region id ops true).wp P Q a w
theorem least (p : Nat → Prop) (h : ∃ n, p n) : ∃ n, p n ∧ ∀ m, p m → n ≤ m := by
  obtain ⟨n, hn⟩ := h
  induction n using Nat.strongRecOn with
  | _ n ih =>
    by_cases hm : ∃ m, m < n ∧ p m
    · obtain ⟨m, h1, h2⟩ := hm
      exact ih m h1 h2
    · exact ⟨n, hn, fun m hpm => Nat.le_of_not_lt fun hlt => hm ⟨m, hlt, hpm⟩⟩
theorem yrun_ok (hT : TabOk P I tb) (hop : OpOk P I φ β nt cs ls tb) (hdr : DrawOk P I φ β nt cs ls tb pins) (c0 : Code) (hlo : ∀ body ∈ subLoops c0, ∀ lh lc, get H.loops (codeKey body) = some lh → get ls (codeKey body) = some lc → ∃ Fn, LoopOk cs ls tb H fin rt lc lh body Fn) :
    ∀ (c : Code) (ρ0 : L → Option ρ) (st : St L) (n : St L → Option ρ) (es : List (Nat × (St L → Option ρ))) (Q : Exit → Act → World → Prop),
    (∀ body ∈ subLoops c, body ∈ subLoops c0) → codeOk nt (pins.map (·.1)) (fun _ => true) c = true →
    @yrun L (Option ρ) (semL cs) (semF ρ) (semR ρ cs ls) tb H fin rt ρ0 c st n es = some r →
    Cont P I φ β nt pins n r (Q .normal) → (∀ id k, get es id = some k → Cont P I φ β nt pins k r (Q (.exit id))) →
    (hasRet c = true → ∀ ρ1 : L → Option ρ, (∀ v r, ρ1 v = some r → ρ0 v = some r) → Cont P I φ β nt pins (fun st => fin st ρ1) r (Q .ret)) →
    ∀ g a w, RelG P I φ β nt st g a w → Pin pins a → c.wp P Q a w := by
  intro c
  induction c with
  | skip => intro ρ0 st n es Q _ _ h hn _ _ g a w hR hp; exact wp_skip (hn st g a w h hR hp)
  | region id ops d =>
    intro ρ0 st n es Q _ hco h hn _ _ g a w hR hp
    have hd : ∀ o ∈ ops.toList, dstOk nt (pins.map (·.1)) o = true := by
      simp only [codeOk, List.all_eq_true] at hco; exact hco
    cases d with
    | false =>
      have h : (match panics ops.toList with
        | true => none
        | false => match lastNil ops.toList with
          | some (pre, t, s, d) => @opsK L (Option ρ) (semL cs) (semF ρ) (semR ρ cs ls) tb ops.toList pre { st with gnv := [] } (@nilK L (Option ρ) (semL cs) (semF ρ) (semR ρ cs ls) tb t s d n)
          | none => @opsK L (Option ρ) (semL cs) (semF ρ) (semR ρ cs ls) tb ops.toList ops.toList { st with gnv := [] } n) = some r := h
      split at h
      · cases h
      split at h
      · rename_i pre t s d hl
        obtain ⟨o, h1, h2⟩ := lastNil_some hl
        have := opsK_app (rest := [o]) hop (nilK_ok hT h2 hn (hd o (by rw [h1]; simp))) pre _ (fun o' ho => hd o' (by rw [h1]; simp [ho])) h g a w hR.gnv hp
        exact wp_region_list (by rw [h1]; exact this)
      · exact wp_region_list (opsK_ok hop hn ops.toList _ hd h g a w hR.gnv hp)
    | true => exact hdr id ops _ n r Q hd hn h g a w hR.gnv hp
  | seq x y ihx ihy =>
    intro ρ0 st n es Q hs hco h hn hes hret g a w hR hp
    simp only [codeOk, Bool.and_eq_true] at hco
    refine wp_seq (ihx ρ0 st _ es (Exit.then (y.wp P Q) Q) (fun b hb => hs b (by simp [subLoops, hb])) hco.1 h ?_ hes (fun hr => hret (by simp [hasRet, hr])) g a w hR hp)
    intro st1 g1 a1 w1 h1 hR1 hp1
    exact ihy ρ0 st1 n es Q (fun b hb => hs b (by simp [subLoops, hb])) hco.2 h1 hn hes (fun hr => hret (by simp [hasRet, hr])) g1 a1 w1 hR1 hp1
  | cond c x y ihx ihy =>
    intro ρ0 st n es Q hs hco h hn hes hret g a w hR hp
    simp only [codeOk, Bool.and_eq_true] at hco
    simp only [yrun] at h
    split at h
    · rename_i v hv
      have hrep := arep_lf (evalO_ok (P := P) (I := I) (φ := φ) (g := g) (w := w) hR.e hR.n (by intro kk hk; simp at hk) hv)
      have both : ∀ n', Cont P I φ β nt pins n' r (Q .normal) → @RAlg.ite L (Option ρ) (semR ρ cs ls) v (@yrun L (Option ρ) (semL cs) (semF ρ) (semR ρ cs ls) tb H fin rt ρ0 x st n' es) (@yrun L (Option ρ) (semL cs) (semF ρ) (semR ρ cs ls) tb H fin rt ρ0 y st n' es) = some r → (Code.cond c x y).wp P Q a w := by
        intro n' hn' h1
        cases hb : v.bool with
        | none => simp only [RAlg.ite, hb] at h1; cases h1
        | some b =>
          simp only [RAlg.ite, hb] at h1
          have hvb := bool_some hb
          subst hvb
          have hc : a.eval c = .bool b := by
            generalize a.eval c = u at hrep
            cases hrep; rfl
          cases b with
          | true => exact wp_cond hc (ihx ρ0 st n' es Q (fun b hb => hs b (by simp [subLoops, hb])) hco.1 h1 hn' hes (fun hr => hret (by simp [hasRet, hr])) g a w hR hp)
          | false => exact wp_cond hc (ihy ρ0 st n' es Q (fun b hb => hs b (by simp [subLoops, hb])) hco.2 h1 hn' hes (fun hr => hret (by simp [hasRet, hr])) g a w hR hp)
      split at h
      · exact both n hn h
      · rw [joinK_eq] at h
        exact both _ (arrive_cont hn) h
    · cases h
  | block id body ih =>
    intro ρ0 st n es Q hs hco h hn hes hret g a w hR hp
    simp only [codeOk] at hco
    have key : ∀ n', Cont P I φ β nt pins n' r (Q .normal) → @yrun L (Option ρ) (semL cs) (semF ρ) (semR ρ cs ls) tb H fin rt ρ0 body st n' ((id, n') :: es) = some r → (Code.block id body).wp P Q a w := by
      intro n' hn' h1
      refine wp_block (ih ρ0 st n' _ (Exit.inBlock id Q) (fun b hb => hs b (by simp [subLoops, hb])) hco h1 hn' (fun id' k hk => ?_) (fun hr => hret (by simp [hasRet, hr])) g a w hR hp)
      rw [get_cons] at hk
      intro st1 g1 a1 w1 h2 hR1 hp1
      simp only [Exit.inBlock]
      split at hk
      · rename_i hi
        simp only [Option.some.injEq] at hk
        subst hk; subst hi
        rw [if_pos rfl]
        exact hn' st1 g1 a1 w1 h2 hR1 hp1
      · rename_i hi
        rw [if_neg (Ne.symm hi)]
        exact hes id' k hk st1 g1 a1 w1 h2 hR1 hp1
    simp only [yrun] at h
    split at h
    · exact key n hn h
    · rw [joinK_eq] at h
      exact key _ (arrive_cont hn) h
  | loop body ih =>
    intro ρ0 st n es Q hs hco h hn hes hret g a w hR hp
    simp only [codeOk] at hco
    simp only [yrun] at h
    split at h
    · rename_i lh hlh
      obtain ⟨ks, hks, h1⟩ := oCase_some h
      clear h
      obtain ⟨hlen, hkg⟩ := contsOf_get _ hks
      obtain ⟨h2, h3, h4⟩ := toSh_some h1
      obtain ⟨g1, hR1⟩ := prep_ok (cs := cs) lh.h hR
      clear h1
      generalize hst1 : @prep L (semL cs) lh.h st = st1 at h2 h3 h4 hR1
      simp only [RAlg.loop] at h2
      split at h2
      · rename_i lc hlc
        split at h2
        · rename_i x hx
          obtain ⟨Fn, hF⟩ := hlo body (hs body (by simp [subLoops])) lh lc hlh hlc
          obtain ⟨m, hm⟩ := hF.run _ _ _ _ (leafs_ty h3) hx h2
          generalize hKs : ((match hasRet body with | true => ks ++ [(rt, ρ0)] | false => ks : List (Ty × (L → Option ρ))).map (fun x => x.2)) = K at hm
          have hKlen : K.length = (match hasRet body with | true => ks.length + 1 | false => ks.length) := by
            rw [← hKs]
            cases hasRet body <;> simp
          classical
          let Inv' : Nat → Act → World → Prop := fun m a w => ∃ vs g, vs.map (·.ty) = leafs lh.sh ∧ Fn m vs K = some r ∧ RelG P I φ β nt (fill lh.sh vs) g a w ∧ Pin pins a
          refine wp_loop (fun a w => ∃ m, Inv' m a w) (fun a w => if h : ∃ m, Inv' m a w then (least _ h).choose else 0) ⟨m, leafs st1, g1, leafs_ty h3, hm, by rw [h4]; exact hR1, hp⟩ fun a w hI => ?_
          have hfind := (least _ hI).choose_spec.1
          rw [dif_pos hI]
          generalize (least _ hI).choose = m0 at hfind
          obtain ⟨vs, g2, hty0, hm0, hR2, hp2⟩ := hfind
          cases m0 with
          | zero => rw [hF.zero] at hm0; cases hm0
          | succ m0 =>
            obtain ⟨ks', hl', hle, hround⟩ := hF.step _ _ _ _ hty0 hm0
            unfold yround at hround
            refine ih _ (fill lh.sh vs) _ _ (Exit.then (fun a' w' => (∃ m, Inv' m a' w') ∧ (if h : ∃ m, Inv' m a' w' then (least _ h).choose else 0) < m0 + 1) Q) (fun b hb => hs b (by simp [subLoops, hb])) hco hround ?_ ?_ ?_ g2 a w hR2 hp2
            · refine toSh_cont fun st3 g3 a3 w3 hs3 hf3 h5 hR3 hp3 => ?_
              have hI3 : Inv' m0 a3 w3 := ⟨_, g3, leafs_ty hs3, h5, by rw [hf3]; exact hR3, hp3⟩
              refine ⟨⟨m0, hI3⟩, ?_⟩
              rw [dif_pos ⟨m0, hI3⟩]
              exact Nat.lt_succ_of_le ((least _ ⟨m0, hI3⟩).choose_spec.2 _ hI3)
            · intro id e he
              obtain ⟨j, k', s, h5, h6, h7, rfl⟩ := exitKs_get _ _ _ _ he
              obtain ⟨k2, s2, h8, h9, h10⟩ := hkg j id h5
              rw [h7, Option.some.injEq] at h9
              subst h9
              obtain ⟨kk, h11, h12⟩ := hle j k' h6
              have hjl := lt_of_get h10
              have hkk : kk = @atSh L (Option ρ) (semL cs) (semF ρ) s.sh "exit" k2 := by
                rw [← hKs, List.getElem?_map] at h11
                have : (match hasRet body with | true => ks ++ [(rt, ρ0)] | false => ks)[j]? = some (tupTy (leafs s.sh), @atSh L (Option ρ) (semL cs) (semF ρ) s.sh "exit" k2) := by
                  cases hasRet body with
                  | true => rw [List.getElem?_append_left hjl]; exact h10
                  | false => exact h10
                rw [this] at h11
                simpa using h11.symm
              refine toSh_cont fun st3 g3 a3 w3 hs3 hf3 h13 hR3 hp3 => ?_
              have h14 := h12 _ _ h13
              rw [hkk, atSh_tup hs3 (by rw [← hf3]; rfl)] at h14
              exact hes id k2 h8 st3 g3 a3 w3 h14 hR3 hp3
            · intro hr
              have hKr : K = ks.map (·.2) ++ [ρ0] := by rw [← hKs, hr]; simp
              intro ρ1 hρ1 st3 g3 a3 w3 h13 hR3 hp3
              have hlast : ∃ k', ks'.getLast? = some k' ∧ ∀ v r, k' v = some r → ρ0 v = some r := by
                have hne : 0 < ks'.length := by rw [hl', hKr]; simp
                have hg : ks'.getLast? = ks'[ks'.length - 1]? := List.getLast?_eq_getElem?
                obtain ⟨k', hk'⟩ : ∃ k', ks'[ks'.length - 1]? = some k' := ⟨ks'[ks'.length - 1]'(by omega), List.getElem?_eq_getElem _⟩
                refine ⟨k', by rw [hg]; exact hk', ?_⟩
                obtain ⟨kk, h11, h12⟩ := hle _ k' hk'
                have : K[ks'.length - 1]? = some ρ0 := by
                  rw [hl', hKr]; simp
                rw [this, Option.some.injEq] at h11
                subst h11
                exact h12
              obtain ⟨k', hk', hle'⟩ := hlast
              simp only [hk'] at hρ1
              exact hret (by simpa [hasRet] using hr) ρ1 (fun v r h => hle' v r (hρ1 v r h)) st3 g3 a3 w3 h13 hR3 hp3
        · cases h2
      · cases h2
    · cases h
  | exit id =>
    intro ρ0 st n es Q _ _ h _ hes _ g a w hR hp
    simp only [yrun] at h
    obtain ⟨k, hk, h1⟩ := oCase_some h
    exact wp_exit (hes id k hk st g a w h1 hR hp)
  | ret =>
    intro ρ0 st n es Q _ _ h _ _ hret g a w hR hp
    exact wp_ret (hret rfl ρ0 (fun _ _ h => h) st g a w h hR hp)
  | scope c ih => intro ρ0 st n es Q _ _ h; cases h
  | label l => intro ρ0 st n es Q _ _ h hn _ _ g a w hR hp; exact wp_label (hn st g a w h hR hp)
  | rangeFunc f ps x y ihx ihy => intro ρ0 st n es Q _ _ h; cases h
  | goto l => intro ρ0 st n es Q _ _ h; cases h
  | refuse why => intro ρ0 st n es Q _ _ h; cases h
end Go.Y
namespace Go.Y
open Go.Eng (T RepT RepM SRep Kept Base G SameOn VRep Split Live Free kn Owns ownB RootOk ERep)
variable {P : Program} {I : Ids} {φ : FnP} {β : Base} {nt : Nat} {cs : List (Nat × Con)}
variable {ρ : Type} {ls : List (Nat × LoopC ρ)} {r : ρ} {tb : Tabs} {st : St L} {gd : Option (Gd L)} {k : St L → Option ρ} {o : Oper}
def ResRep (P : Program) (I : Ids) (φ : FnP) (many : Bool) (keep : List Nat) (so : St L) (g : G) (w : World) (u : Value) : Prop := ∀ x, resA many (resV keep so.env) = some x → ARep P I φ so g w x u
def KeepRep (P : Program) (I : Ids) (φ : FnP) (keep : List Nat) (so : St L) (g : G) (w : World) (us : Array Value) : Prop :=
  ∀ (i p : Nat) z u, keep[i]? = some p → (vals so.env)[so.env.length - keep.length + i]? = some z → us[p]? = some u → ARep P I φ so g w z u
def callBase (w : World) (F : Nat → Prop) : Base := ⟨w, F, fun _ => False⟩
def outs (c : List (Nat × Con)) (sg : Sig) (v : L) : Option (St Ty × List L) := match sg.alt with
  | none => match @untup L (semL c) (leafs sg.out).length v with
    | some rs => some (sg.out, rs)
    | none => none
  | some a => match fstL v, sndL v with
    | some t, some q => match fstL q, sndL q, t.bool with
      | some x, some _, some true => match @untup L (semL c) (leafs sg.out).length x with
        | some rs => some (sg.out, rs)
        | none => none
      | some _, some y, some false => match @untup L (semL c) (leafs a).length y with
        | some rs => some (a, rs)
        | none => none
      | _, _, _ => none
    | _, _ => none
def Post (P : Program) (I : Ids) (φ : FnP) (β : Base) (sg : Sig) (v : L) (us : Array Value) (u : Value) (w' : World) : Prop :=
  ∃ g' o rs, (∀ c : List (Nat × Con), outs c sg v = some (o, rs)) ∧ Inv P I φ β (fill o rs) g' w' ∧ ResRep P I φ sg.many sg.keep (fill o rs) g' w' u ∧ KeepRep P I φ sg.keep (fill o rs) g' w' us
theorem Post.of0 {sg : Sig} (h0 : sg.alt = none) {v : L} {us : Array Value} {u : Value} {w' : World}
    (h : ∃ g' rs, (∀ c : List (Nat × Con), @untup L (semL c) (leafs sg.out).length v = some rs) ∧ Inv P I φ β (fill sg.out rs) g' w' ∧ ResRep P I φ sg.many sg.keep (fill sg.out rs) g' w' u ∧ KeepRep P I φ sg.keep (fill sg.out rs) g' w' us) : Post P I φ β sg v us u w' := by
  obtain ⟨g', rs, h1, h2⟩ := h
  exact ⟨g', sg.out, rs, fun c => by unfold outs; rw [h0]; simp only [h1], h2⟩
theorem Post.to0 {sg : Sig} (h0 : sg.alt = none) {v : L} {us : Array Value} {u : Value} {w' : World} (h : Post P I φ β sg v us u w') :
    ∃ g' rs, (∀ c : List (Nat × Con), @untup L (semL c) (leafs sg.out).length v = some rs) ∧ Inv P I φ β (fill sg.out rs) g' w' ∧ ResRep P I φ sg.many sg.keep (fill sg.out rs) g' w' u ∧ KeepRep P I φ sg.keep (fill sg.out rs) g' w' us := by
  obtain ⟨g', o, rs, h1, h2⟩ := h
  have key : ∀ c, @untup L (semL c) (leafs sg.out).length v = some rs ∧ o = sg.out := fun c => by
    have := h1 c
    unfold outs at this
    rw [h0] at this
    simp only at this
    split at this
    · rename_i rs' hrs
      simp only [Option.some.injEq, Prod.mk.injEq] at this
      obtain ⟨rfl, rfl⟩ := this
      exact ⟨hrs, rfl⟩
    · cases this
  obtain ⟨_, rfl⟩ := key []
  exact ⟨g', rs, fun c => (key c).1, h2⟩
structure FnOk (P : Program) (I : Ids) (φ : FnP) (f : FuncId) (sg : Sig) (con : Con) : Prop where
  fn : ∃ fn, P.funcs[f]? = some fn ∧ (fn.name == "runtime.NumGoroutine") = false ∧ fn.body.isNone = false
  B : con.B = resTy sg
  run : ∀ x r, con.F x = some r → ∀ vs, (tupL vs).as con.A = some x → vs.map (·.ty) = leafs sg.ins → ∀ (β : Base) (w : World) (g : G) (us : Array Value), Inv P I φ β (fill sg.ins vs) g w → us.size = sg.ins.env.length →
    (∀ (j : Nat) x, get (fill sg.ins vs).env j = some x → ∃ u, us[j]? = some u ∧ ARep P I φ (fill sg.ins vs) g w x u) →
    Calls P f us w fun e w' => ∃ u, e = .returned u ∧ Post P I φ β sg ⟨con.B, r⟩ us u w'
theorem resTy0 {sg : Sig} (h : sg.alt = none) : resTy sg = tupTy (leafs sg.out) := by unfold resTy altTy; rw [h]
theorem FnOk.mk0 {f : FuncId} {sg : Sig} {con : Con} (h0 : sg.alt = none) (fn : ∃ fn, P.funcs[f]? = some fn ∧ (fn.name == "runtime.NumGoroutine") = false ∧ fn.body.isNone = false) (B : con.B = tupTy (leafs sg.out))
    (run : ∀ x r, con.F x = some r → ∀ vs, (tupL vs).as con.A = some x → vs.map (·.ty) = leafs sg.ins → ∀ (β : Base) (w : World) (g : G) (us : Array Value), Inv P I φ β (fill sg.ins vs) g w → us.size = sg.ins.env.length →
    (∀ (j : Nat) x, get (fill sg.ins vs).env j = some x → ∃ u, us[j]? = some u ∧ ARep P I φ (fill sg.ins vs) g w x u) →
    Calls P f us w fun e w' => ∃ u, e = .returned u ∧ ∃ g' rs, (∀ c : List (Nat × Con), @untup L (semL c) (leafs sg.out).length ⟨con.B, r⟩ = some rs) ∧ Inv P I φ β (fill sg.out rs) g' w' ∧ ResRep P I φ sg.many sg.keep (fill sg.out rs) g' w' u ∧ KeepRep P I φ sg.keep (fill sg.out rs) g' w' us) : FnOk P I φ f sg con :=
  ⟨fn, B.trans (resTy0 h0).symm, fun x r h1 vs h2 h3 β w g us h4 h5 h6 => (run x r h1 vs h2 h3 β w g us h4 h5 h6).mono fun _ _ ⟨u, he, h⟩ => ⟨u, he, Post.of0 h0 h⟩⟩
theorem altK_some {sg : Sig} {v : L} {K : St Ty → L → Option ρ} (h : @altK L (Option ρ) (semL cs) (semF ρ) (semR ρ cs ls) sg v K = some r) :
    ∃ o x, K o x = some r ∧ ∀ c rs, @untup L (semL c) (leafs o).length x = some rs → outs c sg v = some (o, rs) := by
  unfold altK at h
  cases ha : sg.alt with
  | none =>
    rw [ha] at h
    exact ⟨sg.out, v, h, fun c rs hrs => by unfold outs; rw [ha]; simp only [hrs]⟩
  | some a =>
    rw [ha] at h
    simp only at h
    obtain ⟨t, ht, h1⟩ := oCase_some h
    obtain ⟨q, hq, h2⟩ := oCase_some h1
    obtain ⟨x, hx, h3⟩ := oCase_some h2
    obtain ⟨y, hy, h4⟩ := oCase_some h3
    clear h h1 h2 h3
    have ht : fstL v = some t := ht
    have hq : sndL v = some q := hq
    have hx : fstL q = some x := hx
    have hy : sndL q = some y := hy
    have h4 : (match t.bool with | some c => pIf c (K sg.out x) (K a y) | none => none) = some r := h4
    cases hb : t.bool with
    | none => rw [hb] at h4; cases h4
    | some b =>
      rw [hb] at h4
      cases b with
      | true => exact ⟨sg.out, x, h4, fun c rs hrs => by unfold outs; simp only [ha, ht, hq, hx, hy, hb, hrs]⟩
      | false => exact ⟨a, y, h4, fun c rs hrs => by unfold outs; simp only [ha, ht, hq, hx, hy, hb, hrs]⟩
theorem pickSig_some {g : Bool} {sigs : List (Nat × Sig)} {args : List (AV L)} : ∀ {n key : Nat} {p : Nat × Sig}, pickSig g sigs args n key = some p → get sigs p.1 = some p.2 ∧ fnOf p.1 = fnOf key
  | 0, key, p, h => by cases h
  | n + 1, key, p, h => by
    have step : pickSig g sigs args n (key + 100000) = some p → get sigs p.1 = some p.2 ∧ fnOf p.1 = fnOf key := fun h => by
      obtain ⟨h1, h2⟩ := pickSig_some h
      refine ⟨h1, h2.trans ?_⟩
      show (key + 100000) % 100000 = key % 100000
      omega
    simp only [pickSig] at h
    split at h
    · rename_i sg hsg
      split at h
      · simp only [Option.some.injEq] at h
        subst h
        exact ⟨hsg, rfl⟩
      · exact step h
    · exact step h
theorem fnOf_lt {f : Nat} (h : Nat.blt f 100000 = true) : fnOf f = f := by
  rw [Nat.blt_eq] at h
  exact Nat.mod_eq_of_lt h
def CallsOk (P : Program) (I : Ids) (φ : FnP) (cs : List (Nat × Con)) (tb : Tabs) : Prop := ∀ f sg con, get tb.sigs f = some sg → get cs f = some con → FnOk P I φ (fnOf f) sg con
theorem tup_sem (c c' : List (Nat × Con)) (vs : List L) : @tup L (semL c) vs = @tup L (semL c') vs := by
  induction vs with
  | nil => rfl
  | cons v r ih =>
    cases r with
    | nil => rfl
    | cons w r =>
      show (⟨.pair v.ty (@tup L (semL c) (w :: r)).ty, (v.val, (@tup L (semL c) (w :: r)).val)⟩ : L) = ⟨.pair v.ty (@tup L (semL c') (w :: r)).ty, (v.val, (@tup L (semL c') (w :: r)).val)⟩
      rw [ih]
theorem arep_noroots {st0 : St L} {g0 : G} {w : World} (h0 : ∀ k, get st0.sto k = none) {x : AV L} {u : Value} (h : ARep P I φ st0 g0 w x u) {w' : World} {g : G} (hs : SameOn g0.F w w') (hF : ∀ b, g0.F b → g.F b) (st : St L) : ARep P I φ st g w' x u := by
  induction h with
  | lf v u h => exact .lf v u (h.mono hs hF)
  | zs e a u h => exact .zs e a u h
  | tl v b n h => exact .tl v b n (h.mono hs hF)
  | ar l u hb h => obtain ⟨r, h1, _⟩ := hb; rw [h0] at h1; cases h1
  | pt l b o hb h => obtain ⟨r, h1, _⟩ := hb; rw [h0] at h1; cases h1
  | fp v b o us h1 hc hr => exact .fp v b o us (hF _ h1) (fun j t hj => hs.cell (a := ⟨b, o + j, none⟩) h1 (hc j t hj)) fun j t hj => (hr j t hj).mono hs hF
  | ag t cs vs us hl hv _ ih => exact .ag t cs vs us hl hv ih
  | tu cs vs us hl hv _ ih => exact .tu cs vs us hl hv ih
  | fn f cs vs us hl hv _ ih => exact .fn f cs vs us hl hv ih
  | u u => exact .u u
theorem inv_ren {m : List (Nat × Nat)} {st : St L} (hnd : (st.sto.map fun p => ren m p.1).Nodup) {g : G} {w : World} (h : Inv P I φ β st g w) : Inv P I φ β (renSt m st) (renG (ren m) st.sto g) w := by
  have hs := ren_s (I := I) (φ := φ) hnd h.c g
  exact ⟨ren_srep hs h.s, ren_kept hs h.k, ren_cbnd hnd h.c, h.f, (by first | assumption | exact Inv.gl (by assumption) | exact (RelG.i (by assumption)).gl)⟩
theorem keysFree_get {sto : List (Nat × Root L)} : ∀ {l : List (Nat × Root L)}, keysFree sto l = true → ∀ k r, get l k = some r → get sto k = none
  | [], _, k, r, h => by simp [get] at h
  | (j, x) :: l, h, k, r, hk => by
    simp only [keysFree, Bool.and_eq_true] at h
    rw [get_cons] at hk
    split at hk
    · rename_i hj
      subst hj
      cases hg : get sto j with
      | none => rfl
      | some r' => rw [hg] at h; cases h.1
    · exact keysFree_get h.2 k r hk
theorem keysFree_mem {sto : List (Nat × Root L)} : ∀ {l : List (Nat × Root L)}, keysFree sto l = true → ∀ k ∈ l.map (·.1), get sto k = none
  | [], _, k, h => by simp at h
  | (j, x) :: l, h, k, hk => by
    simp only [keysFree, Bool.and_eq_true] at h
    simp only [List.map_cons, List.mem_cons] at hk
    rcases hk with rfl | hk
    · cases hg : get sto k with
      | none => rfl
      | some r' => rw [hg] at h; cases h.1
    · exact keysFree_mem h.2 k hk
theorem dropSto_free {ks : List Nat} : ∀ {sto : List (Nat × Root L)}, (∀ k ∈ ks, get sto k = none) → dropSto ks sto = sto
  | [], _ => rfl
  | (j, x) :: s, h => by
    have hj : j ∉ ks := fun hm => by have := h j hm; simp [get_cons] at this
    have hm : memN j ks = false := by
      cases hm : memN j ks with
      | false => rfl
      | true => exact absurd (memN_iff.1 hm) hj
    simp only [dropSto, hm]
    rw [dropSto_free]
    intro k hk
    have := h k hk
    rw [get_cons] at this
    split at this
    · cases this
    · exact this
theorem call_merge {st : St L} {g : G} {w : World} (hi : Inv P I φ β st g w) {so : St L} {g' : G} {w' : World} (h' : Inv P I φ (callBase w g.F) so g' w') (hfree : ∀ k ∈ so.sto.map (·.1), get st.sto k = none) :
    Pass P I φ st g w { st with sto := putAll so.sto st.sto } (mergeG (so.sto.map (·.1)) g g') w' ∧ Inv P I φ β { st with sto := putAll so.sto st.sto } (mergeG (so.sto.map (·.1)) g g') w' ∧
      ∀ x u, ARep P I φ so g' w' x u → ARep P I φ { st with sto := putAll so.sto st.sto } (mergeG (so.sto.map (·.1)) g g') w' x u := by
  have hm : ({ st with sto := putAll so.sto st.sto } : St L) = mergeSt (so.sto.map (·.1)) st so := by
    unfold mergeSt mergeSto
    rw [dropSto_free hfree]
  rw [hm]
  have hin : ∀ k r, get so.sto k = some r → k ∈ so.sto.map (·.1) := fun k r hr => List.mem_map.2 ⟨(k, r), mem_of_get hr, rfl⟩
  have hcl : Closed (so.sto.map (·.1)) st := fun k r c l hk hr => by rw [hfree k hk] at hr; cases hr
  have hno : ∀ k, get (cutSt (so.sto.map (·.1)) st).sto k = none := by
    intro k
    simp only [cutSt, get_keepSto]
    split
    · exact hfree k ‹_›
    · rfl
  have hF : ∀ b, g.F b → g'.F b := h'.k.F
  have hsame : ∀ b, b < w.heap.size → w'.heap[b]? = w.heap[b]? := fun b hb => h'.k.block b hb (fun h => h)
  obtain ⟨h1, h2⟩ := merge_ok hi hcl (st' := so) (g' := g') (w' := w') ⟨fun x u hx => arep_noroots hno hx (fun b _ hb => hsame b hb) hF so, hF, fun b _ hb => hsame b hb, h'.k.size⟩
    ⟨h'.s, ⟨h'.k.os, h'.k.tape, h'.k.output, h'.k.size, fun b hb _ => hsame b hb, hF, fun b hb => by
      rcases h'.k.F' b hb with h | h | h
      · exact .inl h
      · exact h.elim
      · exact .inr (.inr h), fun k r hr b hb => by
      rcases h'.k.B k r hr b hb with h | h
      · exact h.elim
      · exact .inr h⟩, h'.c, h'.f, ⟨hi.globW, fun p hp ⟨k, r, _, hr, hb⟩ => hi.globB hr hp hb⟩⟩ hin
  exact ⟨h1, h2, fun x u hx => arep_merge hin h'.c hx⟩
theorem scalar_rep {w w' : World} {F F' : Nat → Prop} : ∀ (A : Ty), A.scalar = true → ∀ (x : A.den) (c : T) (u : Value), c ∈ trc I φ A x → RepT P w F c u → RepT P w' F' c u
  | .unit, _, x, c, u, hc, h => by simp [trc] at hc
  | .bool, _, x, c, u, hc, h => by simp only [trc, List.mem_singleton] at hc; subst hc; cases h; exact .b _
  | .int k, _, x, c, u, hc, h => by simp only [trc, List.mem_singleton] at hc; subst hc; cases h; exact .i _ _
  | .str, _, x, c, u, hc, h => by simp only [trc, List.mem_singleton] at hc; subst hc; cases h; exact .s _
  | .pair a b, hs, x, c, u, hc, h => by
    simp only [Ty.scalar, Bool.and_eq_true] at hs
    simp only [trc, List.mem_append] at hc
    exact hc.elim (fun hc => scalar_rep a hs.1 _ c u hc h) fun hc => scalar_rep b hs.2 _ c u hc h
  | .st f, hs, x, c, u, hc, h => scalar_rep f hs x c u hc h
  | .sl e a, hs, _, _, _, _, _ => by cases hs
  | .ptr e a, hs, _, _, _, _, _ => by cases hs
  | .err, hs, _, _, _, _, _ => by cases hs
  | .fn a b, hs, _, _, _, _, _ => by cases hs
theorem scalar_repL {w w' : World} {F F' : Nat → Prop} {v : L} (hs : v.ty.scalar = true) {u : Value} (h : RepT P w F (trL I φ v) u) : RepT P w' F' (trL I φ v) u := by
  obtain ⟨A, x⟩ := v
  cases hA : A.isAgg with
  | false =>
    obtain ⟨c, h1, h2⟩ := trc_one (I := I) (φ := φ) A hA x
    have h3 : tr I φ A x = c := by
      unfold tr; rw [h1]
      cases A <;> first | rfl | cases hA
    have h : RepT P w F (tr I φ A x) u := h
    show RepT P w' F' (tr I φ A x) u
    rw [h3] at h ⊢
    exact scalar_rep A hs x c u (by rw [h1]; simp) h
  | true =>
    have ht : tr I φ A x = .ag (trc I φ A x) := by cases A <;> first | rfl | cases hA
    have h : RepT P w F (tr I φ A x) u := h
    show RepT P w' F' (tr I φ A x) u
    rw [ht] at h ⊢
    cases h with
    | ag _ vs us hl hv hr => exact .ag _ vs us hl hv fun j t hj => scalar_rep A hs x t _ (List.mem_of_getElem? hj) (hr j t hj)
theorem inv_none {w : World} {F : Nat → Prop} (hF : ∀ b, F b → b < w.heap.size) (hgw : GlobW I w) (env : List (Nat × AV L)) : Inv P I φ (callBase w F) ⟨env, [], []⟩ ⟨F, fun _ _ => False, fun _ => 0, fun _ _ => undef⟩ w := by
  have hg : ∀ k, Eng.get (injS I φ (⟨env, [], []⟩ : St L)) k = none := fun k => by rw [get_injS]; rfl
  refine ⟨⟨fun k r h => ?_, fun k k' r r' h => ?_, fun k r h => ?_⟩, ⟨rfl, rfl, rfl, Nat.le_refl _, fun _ _ _ => rfl, fun _ h => h, fun b h => .inl h, fun k r h => ?_⟩, fun k r c l h => ?_, hF, ⟨hgw, fun _ _ h => h⟩⟩
  · rw [hg] at h; cases h
  · rw [hg] at h; cases h
  · rw [hg] at h; cases h
  · rw [hg] at h; cases h
  · simp [get] at h
end Go.Y
namespace Go.Y
open Go.Eng (T RepT RepM SRep Kept Base G SameOn VRep Split Live Free kn Owns ownB RootOk ERep)
variable {P : Program} {I : Ids} {φ : FnP} {β : Base} {nt : Nat} {cs : List (Nat × Con)}
def N0A : AV L → Prop
  | .lf _ => True
  | .zs _ _ => True
  | .ar l => l.gen = 0 ∧ l.stamp = 0
  | .pt l => l.gen = 0 ∧ l.stamp = 0
  | .u => True
  | _ => False
structure N0 (st : St L) : Prop where
  sto : ∀ k r, get st.sto k = some r → r.gen = 0 ∧ ∀ (j : Nat) c, r.cells[j]? = some c → c.stamp = 0 ∧ ∀ l, c.e = .rf l → l.gen = 0 ∧ l.stamp = 0
  env : ∀ s x, (s, x) ∈ st.env → N0A x
theorem normLoc0_iff {l : Loc L} : normLoc0 l = true ↔ l.gen = 0 ∧ l.stamp = 0 := by
  unfold normLoc0
  rw [Bool.and_eq_true, beq_iff, beq_iff]
theorem norm0C_ok : ∀ {cs : List (Cell L)}, norm0C cs = true → ∀ (j : Nat) c, cs[j]? = some c → c.stamp = 0 ∧ ∀ l, c.e = .rf l → l.gen = 0 ∧ l.stamp = 0
  | [], _, j, c, hj => by simp at hj
  | ⟨s, e⟩ :: r, h, j, c, hj => by
    have hh : Nat.beq s 0 = true ∧ norm0C r = true ∧ ∀ l, e = .rf l → normLoc0 l = true := by
      cases e with
      | rf l => simp only [norm0C, Bool.and_eq_true] at h; exact ⟨h.1, h.2.2, fun l' hl => by cases hl; exact h.2.1⟩
      | o d v => simp only [norm0C, Bool.and_eq_true] at h; exact ⟨h.1, h.2, fun l' hl => by cases hl⟩
      | mv => simp only [norm0C, Bool.and_eq_true] at h; exact ⟨h.1, h.2, fun l' hl => by cases hl⟩
    cases j with
    | zero =>
      simp only [List.getElem?_cons_zero, Option.some.injEq] at hj
      subst hj
      exact ⟨(beq_iff _ _).1 hh.1, fun l hl => normLoc0_iff.1 (hh.2.2 l hl)⟩
    | succ j => exact norm0C_ok hh.2.1 j c (by simpa using hj)
theorem norm0S_ok : ∀ {sto : List (Nat × Root L)}, norm0S sto = true → ∀ k r, get sto k = some r → r.gen = 0 ∧ ∀ (j : Nat) c, r.cells[j]? = some c → c.stamp = 0 ∧ ∀ l, c.e = .rf l → l.gen = 0 ∧ l.stamp = 0
  | [], _, k, r, hk => by simp [get] at hk
  | (j, x) :: s, h, k, r, hk => by
    simp only [norm0S, Bool.and_eq_true] at h
    rw [get_cons] at hk
    split at hk
    · simp only [Option.some.injEq] at hk
      subst hk
      exact ⟨(beq_iff _ _).1 h.1, norm0C_ok h.2.1⟩
    · exact norm0S_ok h.2.2 k r hk
theorem norm0E_ok : ∀ {env : List (Nat × AV L)}, norm0E env = true → ∀ s x, (s, x) ∈ env → N0A x
  | [], _, s, x, hm => by simp at hm
  | (j, y) :: r, h, s, x, hm => by
    simp only [norm0E, Bool.and_eq_true] at h
    rcases List.mem_cons.1 hm with hm | hm
    · simp only [Prod.mk.injEq] at hm
      obtain ⟨rfl, rfl⟩ := hm
      cases x <;> first | trivial | exact normLoc0_iff.1 h.1 | (exact absurd h.1 (by simp [norm0A]))
    · exact norm0E_ok h.2 s x hm
theorem n0_of {st : St L} (h : (norm0E st.env && norm0S st.sto) = true) : N0 st := by
  rw [Bool.and_eq_true] at h
  exact ⟨norm0S_ok h.2, norm0E_ok h.1⟩
theorem n0_ren {m : List (Nat × Nat)} {st : St L} (hnd : (st.sto.map fun p => ren m p.1).Nodup) (h : N0 st) : N0 (renSt m st) := by
  refine ⟨fun k' r' hr => ?_, fun s x hx => ?_⟩
  · obtain ⟨k, r, h1, rfl⟩ := (ren_facts hnd).2 k' r' hr
    have h2 := ((ren_facts hnd).1 k r h1).2
    have hr : get (renSto m st.sto) (ren m k) = some r' := hr
    rw [h2, Option.some.injEq] at hr
    subst hr
    obtain ⟨h3, h4⟩ := h.sto k r h1
    refine ⟨h3, fun j c hj => ?_⟩
    simp only [renR, List.getElem?_map, Option.map_eq_some_iff] at hj
    obtain ⟨c0, h5, rfl⟩ := hj
    obtain ⟨h6, h7⟩ := h4 j c0 h5
    refine ⟨h6, fun l hl => ?_⟩
    cases he : c0.e with
    | o d v => simp only [he, renE] at hl; cases hl
    | mv => simp only [he, renE] at hl; cases hl
    | rf l0 =>
      simp only [he, renE, E.rf.injEq] at hl
      subst hl
      exact h7 l0 he
  · have hx : (s, x) ∈ st.env.map fun p => (p.1, renA m p.2) := hx
    obtain ⟨p, hp, he⟩ := List.mem_map.1 hx
    simp only [Prod.mk.injEq] at he
    obtain ⟨_, rfl⟩ := he
    have := h.env p.1 p.2 hp
    generalize p.2 = y at this
    cases y <;> first | trivial | exact this
theorem get_mapK {α β : Type} (f : Nat → α → β) (l : List (Nat × α)) (k : Nat) : get (l.map fun p => (p.1, f p.1 p.2)) k = (get l k).map (f k) := by
  induction l with
  | nil => simp [get]
  | cons p r ih =>
    obtain ⟨j, x⟩ := p
    simp only [List.map_cons, get_cons, ih]
    split
    · rename_i h; subst h; rfl
    · rfl
variable {sto : List (Nat × Root L)} {A : List Nat}
theorem labC_get (k : Nat) : ∀ (i : Nat) (cs : List (Cell L)) (j : Nat), (labC sto A k i cs)[j]? = (cs[j]?).map fun c => ⟨labS sto A k (i + j), labE sto A c.e⟩
  | _, [], j => by simp [labC]
  | i, c :: r, j => by
    cases j with
    | zero => simp [labC]
    | succ j =>
      simp only [labC, List.getElem?_cons_succ]
      rw [labC_get k (i + 1) r j]
      congr 2
      funext c
      rw [show i + 1 + j = i + (j + 1) by omega]
theorem labC_map (k : Nat) : ∀ (i : Nat) (cs : List (Cell L)), (labC sto A k i cs).map (·.e) = cs.map fun c => labE sto A c.e
  | _, [] => rfl
  | i, _ :: r => by simp [labC, labC_map k (i + 1) r]
variable {so : St L}
theorem lab_get (k : Nat) : get (labSt sto A so).sto k = (get so.sto k).map (labR sto A k) := get_mapK _ _ _
theorem lab_root (hn : N0 so) {l : Loc L} (hl : l.gen = 0) : rootAt (labSt sto A so) (labL sto A l) = (rootAt so l).map (labR sto A l.root) := by
  unfold rootAt
  rw [show (labL sto A l).root = l.root from rfl, lab_get]
  cases hr : get so.sto l.root with
  | none => rfl
  | some r =>
    simp only [Option.map_some, labR, labL]
    have h1 := (hn.sto _ _ hr).1
    rw [h1, hl, Nat.beq_refl, Nat.beq_refl]
    rfl
theorem lab_injS (hn : N0 so) (k : Nat) : Eng.get (injS I φ (labSt sto A so)) k = Eng.get (injS I φ so) k := by
  rw [get_injS, get_injS, lab_get]
  cases hr : get so.sto k with
  | none => rfl
  | some r =>
    simp only [Option.map_some, Option.some.injEq, injR, labR, Eng.Root.mk.injEq, true_and]
    have h1 : ∀ cs : List (Cell L), cs.map (fun c => injE I φ (labSt sto A so) c.e) = (cs.map (·.e)).map (injE I φ (labSt sto A so)) := fun cs => by simp
    rw [h1, labC_map, List.map_map]
    refine List.map_congr_left fun c hc => ?_
    simp only [Function.comp]
    cases he : c.e with
    | o d v => rfl
    | mv => rfl
    | rf l =>
      obtain ⟨j, hj⟩ := List.getElem?_of_mem hc
      have hl := (((hn.sto k r hr).2 j c hj).2 l he).1
      simp only [labE, injE, lab_root hn hl]
      cases rootAt so l <;> rfl
theorem lab_bnd (hn : N0 so) {l : Loc L} (hl : l.gen = 0) (hb : bnd so l) : bnd (labSt sto A so) (labL sto A l) := by
  obtain ⟨r, h1, _⟩ := hb
  refine ⟨labR sto A l.root r, by rw [show (labL sto A l).root = l.root from rfl, lab_get, h1]; rfl, Nat.le_refl _, fun _ c hc => ?_⟩
  have hc : (labC sto A l.root 0 r.cells)[l.off]? = some c := hc
  rw [labC_get, Option.map_eq_some_iff] at hc
  obtain ⟨c0, _, rfl⟩ := hc
  show labS sto A l.root l.off ≤ labS sto A l.root (0 + l.off)
  rw [Nat.zero_add]
  exact Nat.le_refl _
theorem lab_validA (hn : N0 so) {l : Loc L} (hl : l.gen = 0) (hs : l.stamp = 0) (h : validA (labSt sto A so) (labL sto A l)) : validA so l := by
  obtain ⟨c, h1, _⟩ := h
  obtain ⟨r', h3, h4, h5⟩ := cellAt_iff.1 h1
  have h3 : get (labSt sto A so).sto l.root = some r' := h3
  rw [lab_get, Option.map_eq_some_iff] at h3
  obtain ⟨r, h6, rfl⟩ := h3
  have h5 : (labC sto A l.root 0 r.cells)[l.off]? = some c := h5
  rw [labC_get, Option.map_eq_some_iff] at h5
  obtain ⟨c0, h7, _⟩ := h5
  obtain ⟨h8, h9⟩ := hn.sto _ _ h6
  exact ⟨c0, cellAt_iff.2 ⟨r, h6, by rw [h8, hl], h7⟩, by rw [(h9 _ _ h7).1, hs]⟩
theorem lab_inv (hn : N0 so) {g : G} {w : World} (h : Inv P I φ β so g w) : Inv P I φ β (labSt sto A so) g w := by
  have hs : ∀ k, Eng.get (injS I φ (labSt sto A so)) k = Eng.get (injS I φ so) k := lab_injS hn
  refine ⟨srep_congr hs h.s, kept_congr hs h.k, fun k r' c l hr hc he => ?_, h.f, (by first | assumption | exact Inv.gl (by assumption) | exact (RelG.i (by assumption)).gl)⟩
  rw [lab_get, Option.map_eq_some_iff] at hr
  obtain ⟨r, h1, rfl⟩ := hr
  obtain ⟨j, hj⟩ := List.getElem?_of_mem hc
  have hj : (labC sto A k 0 r.cells)[j]? = some c := hj
  rw [labC_get, Option.map_eq_some_iff] at hj
  obtain ⟨c0, h2, rfl⟩ := hj
  cases he0 : c0.e with
  | o d v => simp only [he0, labE] at he; cases he
  | mv => simp only [he0, labE] at he; cases he
  | rf l0 =>
    simp only [he0, labE, E.rf.injEq] at he
    subst he
    obtain ⟨h3, h4⟩ := h.c k r c0 l0 h1 (List.mem_of_getElem? h2) he0
    exact ⟨lab_bnd hn (((hn.sto k r h1).2 j c0 h2).2 l0 he0).1 h3, h4⟩
theorem lab_rep (hn : N0 so) {g : G} {w : World} {x : AV L} {u : Value} (hx : N0A x) (h : ARep P I φ so g w x u) : ARep P I φ (labSt sto A so) g w (labA sto A x) u := by
  have hs : ∀ k, Eng.get (injS I φ (labSt sto A so)) k = Eng.get (injS I φ so) k := lab_injS hn
  cases h with
  | lf v u h => exact .lf v u h
  | zs e a u h => exact .zs e a u h
  | tl v b n h => exact hx.elim
  | fp v b o us hF hcc hr => exact hx.elim
  | ag t cs vs us hl hv hr => exact hx.elim
  | tu cs vs us hl hv hr => exact hx.elim
  | fn f cs vs us hl hv hr => exact hx.elim
  | u u => exact .u u
  | ar l u hb h =>
    refine .ar _ u (lab_bnd hn hx.1 hb) fun hv hs0 d e nl xs hat => ?_
    rw [at_congr hs] at hat
    rw [locV_congr hs]
    exact h (lab_validA hn hx.1 hx.2 hv) hs0 d e nl xs hat
  | pt l b o hb h =>
    refine .pt _ b o (lab_bnd hn hx.1 hb) fun hv ht => ?_
    rw [there_congr hs] at ht
    rw [locA_congr hs]
    obtain ⟨⟨r', h3⟩, h4⟩ := hv
    rw [lab_root hn hx.1, Option.map_eq_some_iff] at h3
    obtain ⟨r, h5, _⟩ := h3
    exact h ⟨⟨r, h5⟩, fun hne => lab_validA hn hx.1 hx.2 (h4 hne)⟩ ht
theorem lab_pass {st : St L} {g g' : G} {w w' : World} (hsto : ∀ k r, get st.sto k = some r → get sto k = some r) (hF : ∀ b, g.F b → g'.F b) (hsame : SameOn g.F w w') (hsz : w.heap.size ≤ w'.heap.size)
    (hall : ∀ k r, get st.sto k = some r → ∃ r', get so.sto k = some r')
    (hA : ∀ k ∈ A, ∃ r r', get st.sto k = some r ∧ get so.sto k = some r' ∧ r.mem.isSome = true ∧ r.cells.length = r'.cells.length ∧ g'.ad k = g.ad k) :
    Pass P I φ st g w (labSt sto A so) g' w' := by
  have hb : ∀ l : Loc L, bnd st l → bnd (labSt sto A so) l := by
    rintro l ⟨r, h1, h2, h3⟩
    obtain ⟨r', h4⟩ := hall _ _ h1
    refine ⟨labR sto A l.root r', by rw [lab_get, h4]; rfl, ?_, ?_⟩
    · show l.gen ≤ labG sto A l.root
      unfold labG
      rw [hsto _ _ h1]
      simp only []
      split <;> omega
    · intro hg c hc
      have hg : l.gen = labG sto A l.root := hg
      have hc : (labC sto A l.root 0 r'.cells)[l.off]? = some c := hc
      rw [labC_get, Option.map_eq_some_iff] at hc
      obtain ⟨c0, h5, rfl⟩ := hc
      unfold labG at hg
      rw [hsto _ _ h1] at hg
      simp only [] at hg
      cases hm : memN l.root A with
      | false => rw [hm] at hg; simp only [] at hg; omega
      | true =>
        rw [hm] at hg
        obtain ⟨r1, r2, h6, h7, _, h8, _⟩ := hA _ (memN_iff.1 hm)
        rw [h1] at h6; cases h6
        rw [h4] at h7; cases h7
        have hlt : l.off < r.cells.length := by rw [h8]; exact lt_of_get h5
        show l.stamp ≤ labS sto A l.root (0 + l.off)
        unfold labS
        rw [hm, hsto _ _ h1, Nat.zero_add]
        simp only [getL_eq, List.getElem?_eq_getElem hlt]
        have := h3 hg _ (List.getElem?_eq_getElem hlt)
        omega
  have hnA : ∀ l : Loc L, bnd st l → ¬ validA (labSt sto A so) l := by
    rintro l ⟨r, h1, h2, h3⟩ ⟨c, h4, h5⟩
    obtain ⟨r', h6, h7, h8⟩ := cellAt_iff.1 h4
    rw [lab_get, Option.map_eq_some_iff] at h6
    obtain ⟨r0, h9, rfl⟩ := h6
    have h7 : labG sto A l.root = l.gen := h7
    have h8 : (labC sto A l.root 0 r0.cells)[l.off]? = some c := h8
    rw [labC_get, Option.map_eq_some_iff] at h8
    obtain ⟨c0, h10, rfl⟩ := h8
    have h5 : labS sto A l.root (0 + l.off) = l.stamp := h5
    unfold labG at h7
    rw [hsto _ _ h1] at h7
    simp only [] at h7
    cases hm : memN l.root A with
    | false => rw [hm] at h7; simp only [] at h7; omega
    | true =>
      rw [hm] at h7
      obtain ⟨r1, r2, h11, h12, _, h13, _⟩ := hA _ (memN_iff.1 hm)
      rw [h1] at h11; cases h11
      rw [h9] at h12; cases h12
      have hlt : l.off < r.cells.length := by rw [h13]; exact lt_of_get h10
      unfold labS at h5
      rw [hm, hsto _ _ h1, Nat.zero_add] at h5
      simp only [getL_eq, List.getElem?_eq_getElem hlt] at h5
      have := h3 h7.symm _ (List.getElem?_eq_getElem hlt)
      omega
  refine ⟨fun x u h => ?_, hF, hsame, hsz⟩
  induction h with
  | lf v u h => exact .lf v u (h.mono hsame hF)
  | zs e a u h => exact .zs e a u h
  | tl v b n h => exact .tl v b n (h.mono hsame hF)
  | fp v b o us h1 hc hr => exact .fp v b o us (hF _ h1) (fun j t hj => hsame.cell (a := ⟨b, o + j, none⟩) h1 (hc j t hj)) fun j t hj => (hr j t hj).mono hsame hF
  | ag t cs vs us hl hv _ ih => exact .ag t cs vs us hl hv ih
  | tu cs vs us hl hv _ ih => exact .tu cs vs us hl hv ih
  | fn f cs vs us hl hv _ ih => exact .fn f cs vs us hl hv ih
  | u u => exact .u u
  | ar l u hb1 h => exact .ar l u (hb l hb1) fun hv => absurd hv (hnA l hb1)
  | pt l b o hb1 h =>
    refine .pt l b o (hb l hb1) fun hv ht => ?_
    by_cases hst : l.steps = []
    · obtain ⟨r, h1, h2, h3⟩ := hb1
      obtain ⟨⟨r', h4⟩, _⟩ := hv
      obtain ⟨h5, h6⟩ := rootAt_iff.1 h4
      rw [lab_get, Option.map_eq_some_iff] at h5
      obtain ⟨r0, h7, rfl⟩ := h5
      have h6 : labG sto A l.root = l.gen := h6
      unfold labG at h6
      rw [hsto _ _ h1] at h6
      simp only [] at h6
      cases hm : memN l.root A with
      | false => rw [hm] at h6; simp only [] at h6; omega
      | true =>
        rw [hm] at h6
        obtain ⟨r1, r2, h11, h12, h13, _, h14⟩ := hA _ (memN_iff.1 hm)
        rw [h1] at h11; cases h11
        rw [h7] at h12; cases h12
        obtain ⟨e, he⟩ := Option.isSome_iff_exists.1 h13
        have hgo : Eng.get (injS I φ st) (injLoc l).root = some (injR I φ st r) := by rw [get_injS]; simp only [injLoc, h1]; rfl
        have hst' : (injLoc l).steps = [] := by simp [injLoc, hst]
        have hth : Eng.There (injS I φ st) (injLoc l) := by
          unfold Eng.There
          rw [hst']
          exact ⟨_, e, hgo, he⟩
        have hla := h ⟨⟨r, rootAt_iff.2 ⟨h1, h6⟩⟩, fun hne => absurd hst hne⟩ hth
        unfold Eng.locA at hla
        rw [hgo, hst'] at hla
        simp only [show (injR I φ st r).mem = r.mem from rfl, he, Option.map_some, Option.some.injEq] at hla
        have hgn : Eng.get (injS I φ (labSt sto A so)) (injLoc l).root = some (injR I φ (labSt sto A so) (labR sto A l.root r0)) := by rw [get_injS]; simp only [injLoc, lab_get, h7]; rfl
        unfold Eng.There at ht
        rw [hst'] at ht
        obtain ⟨rr, ee, h15, h16⟩ := ht
        rw [hgn, Option.some.injEq] at h15
        subst h15
        unfold Eng.locA
        rw [hgn, hst']
        simp only [h16, Option.map_some, Option.some.injEq]
        rw [← hla]
        show (⟨g'.ad l.root, l.off, none⟩ : Addr) = ⟨g.ad l.root, l.off, none⟩
        rw [h14]
    · exact absurd (hv.2 hst) (hnA l hb1)
end Go.Y
namespace Go.Y
open Go.Eng (T RepT RepM SRep Kept Base G SameOn VRep Split Live Free kn Owns ownB RootOk ERep)
variable {P : Program} {I : Ids} {φ : FnP} {β : Base} {nt : Nat} {cs : List (Nat × Con)}
variable {ρ : Type} {ls : List (Nat × LoopC ρ)} {r : ρ} {tb : Tabs} {st : St L} {gd : Option (Gd L)} {k : St L → Option ρ} {o : Oper}
theorem zipN_get : ∀ (n : Nat) (xs : List (AV L)) (s : Nat), get (zipN n xs) s = if n ≤ s then xs[s - n]? else none
  | n, [], s => by simp [zipN, get]
  | n, x :: xs, s => by
    simp only [zipN, get_cons, zipN_get (n + 1) xs s]
    by_cases h : n = s
    · subst h; simp
    · rw [if_neg h]
      by_cases h1 : n ≤ s
      · have h2 : n + 1 ≤ s := by omega
        rw [if_pos h2, if_pos h1, show s - n = (s - (n + 1)) + 1 by omega, List.getElem?_cons_succ]
      · rw [if_neg (by omega), if_neg h1]
theorem frSel_ok (hf : FnsOk φ cs) : ∀ (ps : List (AV Ty)) (xs : List (AV L)) (st : St L) (g : G) {w : World}, Inv P I φ β st g w → ∃ g', Pass P I φ st g w (frSel st ps xs) g' w ∧ Inv P I φ β (frSel st ps xs) g' w ∧
    ∀ (j : Nat) x p v u, xs[j]? = some x → ps[j]? = some p → (∃ t, p = .lf t) → pk cs st x = some v → ARep P I φ st g w x u → RepT P w g'.F (trL I φ v) u
  | [], xs, st, g, w, hi => ⟨g, Pass.refl _ _ _, hi, fun j x p v u _ hp => by simp at hp⟩
  | p :: ps, [], st, g, w, hi => ⟨g, Pass.refl _ _ _, hi, fun j x p v u hx => by simp at hx⟩
  | p :: ps, x :: xs, st, g, w, hi => by
    by_cases hp : ∃ t, p = .lf t
    · obtain ⟨t, rfl⟩ := hp
      obtain ⟨g1, h1, h2, h3⟩ := freezeA_ok hf hi x
      obtain ⟨g2, h4, h5, h6⟩ := frSel_ok hf ps xs (freezeA st x) g1 h2
      refine ⟨g2, h1.trans h4, h5, fun j y q v u hj hq hl hv ha => ?_⟩
      cases j with
      | zero =>
        simp only [List.getElem?_cons_zero, Option.some.injEq] at hj
        subst hj
        exact h4.rep (h3 v u hv ha)
      | succ j => exact h6 j y q v u (by simpa using hj) (by simpa using hq) hl (by rw [pk_freezeA]; exact hv) (h1.a y u ha)
    · have heq : frSel st (p :: ps) (x :: xs) = frSel st ps xs := by
        cases p <;> first | rfl | exact absurd ⟨_, rfl⟩ hp
      rw [heq]
      obtain ⟨g2, h4, h5, h6⟩ := frSel_ok hf ps xs st g hi
      refine ⟨g2, h4, h5, fun j y q v u hj hq hl hv ha => ?_⟩
      cases j with
      | zero =>
        simp only [List.getElem?_cons_zero, Option.some.injEq] at hq
        subst hq
        exact absurd hl hp
      | succ j => exact h6 j y q v u (by simpa using hj) (by simpa using hq) hl hv ha
theorem selK_some2 {g : Option L} : ∀ (ps : List (AV Ty)) (xs acc : List (AV L)) {f : List (AV L) → Option ρ}, @selK L (Option ρ) (semL cs) (semF ρ) st g ps xs acc f = some r →
    ∃ ys, f (acc.reverse ++ ys) = some r ∧ ys.length = xs.length ∧ ps.length = xs.length ∧ ∀ (j : Nat) x y p, xs[j]? = some x → ys[j]? = some y → ps[j]? = some p → (y = x ∧ ¬ ∃ t, p = .lf t) ∨ ∃ v, y = .lf v ∧ pk cs st x = some v ∧ ∃ t, p = .lf t
  | [], [], acc, f, h => by
    simp only [selK] at h
    exact ⟨[], by simpa using h, rfl, rfl, fun j x y p hj => by simp at hj⟩
  | p :: ps, x :: xs, acc, f, h => by
    have step : ∀ y, ((y = x ∧ ¬ ∃ t, p = .lf t) ∨ ∃ v, y = .lf v ∧ pk cs st x = some v ∧ ∃ t, p = .lf t) → @selK L (Option ρ) (semL cs) (semF ρ) st g ps xs (y :: acc) f = some r → ∃ ys, f (acc.reverse ++ ys) = some r ∧ ys.length = (x :: xs).length ∧ (p :: ps).length = (x :: xs).length ∧
        ∀ (j : Nat) x1 y p1, (x :: xs)[j]? = some x1 → ys[j]? = some y → (p :: ps)[j]? = some p1 → (y = x1 ∧ ¬ ∃ t, p1 = .lf t) ∨ ∃ v, y = .lf v ∧ pk cs st x1 = some v ∧ ∃ t, p1 = .lf t := by
      intro y hy h1
      obtain ⟨ys, h2, h3, h5, h4⟩ := selK_some2 ps xs (y :: acc) h1
      refine ⟨y :: ys, by simpa using h2, by simp [h3], by simp [h5], fun j x1 y1 p1 hj hk hl => ?_⟩
      cases j with
      | zero =>
        simp only [List.getElem?_cons_zero, Option.some.injEq] at hj hk hl
        subst hj; subst hk; subst hl
        exact hy
      | succ j => exact h4 j x1 y1 p1 (by simpa using hj) (by simpa using hk) (by simpa using hl)
    simp only [selK] at h
    split at h
    · obtain ⟨v, hv, h1⟩ := peek_pk h
      exact step _ (.inr ⟨v, rfl, hv, _, rfl⟩) h1
    · rename_i hne
      exact step x (.inl ⟨rfl, fun ⟨t, ht⟩ => hne t ht⟩) h
  | [], _ :: _, acc, f, h => by simp only [selK] at h; cases h
  | _ :: _, [], acc, f, h => by simp only [selK] at h; cases h
end Go.Y
namespace Go.Y
open Go.Eng (T RepT RepM SRep Kept Base G SameOn VRep Split Live Free kn Owns ownB RootOk ERep)
variable {P : Program} {I : Ids} {φ : FnP} {β : Base} {nt : Nat} {cs : List (Nat × Con)}
theorem vals_map (f : AV L → AV L) : ∀ (env : List (Nat × AV L)), vals (env.map fun p => (p.1, f p.2)) = (vals env).map f
  | [] => rfl
  | (k, x) :: r => by simp only [List.map_cons, vals, vals_map f r]
theorem vals_len : ∀ (env : List (Nat × AV L)), (vals env).length = env.length
  | [] => rfl
  | (k, x) :: r => by simp only [vals, List.length_cons, vals_len r]
theorem resV_map (f : AV L → AV L) (keep : List Nat) (env : List (Nat × AV L)) : resV keep (env.map fun p => (p.1, f p.2)) = (resV keep env).map f := by
  cases keep with
  | nil => exact vals_map f env
  | cons p ps => simp only [resV, vals_map, takeL_eq, List.map_take, List.length_map]
theorem resV_mem {keep : List Nat} {env : List (Nat × AV L)} {x : AV L} (h : x ∈ resV keep env) : x ∈ vals env := by
  cases keep with
  | nil => exact h
  | cons p ps => simp only [resV, takeL_eq] at h; exact List.mem_of_mem_take h
theorem res_map {many : Bool} {xs : List (AV L)} {F : AV L → AV L} {so so' : St L} {g g' : G} {w : World} {u : Value} (h : ∀ x, resA many xs = some x → ARep P I φ so g w x u)
    (hF : ∀ x ∈ xs, ∀ v, ARep P I φ so g w x v → ARep P I φ so' g' w (F x) v) {y : AV L} (hy : resA many (xs.map F) = some y) : ARep P I φ so' g' w y u := by
  cases many with
  | true =>
    simp only [resA, Option.some.injEq] at hy
    subst hy
    have ha := h _ rfl
    cases ha with
    | tu _ vs us h1 hv hr =>
      refine .tu _ vs us (by simpa using h1) (fun j c hj => ?_) fun j c hj => ?_ <;>
        (rw [List.getElem?_map, Option.map_eq_some_iff] at hj; obtain ⟨c0, h0, rfl⟩ := hj)
      · exact hv j c0 h0
      · exact hF c0 (List.mem_of_getElem? h0) _ (hr j c0 h0)
  | false =>
    cases xs with
    | nil => cases hy
    | cons x xs =>
      cases xs with
      | nil =>
        simp only [List.map_cons, List.map_nil, resA, Option.some.injEq] at hy
        subst hy
        exact hF x (by simp) _ (h x rfl)
      | cons x2 xs => cases hy
theorem res_ren {m : List (Nat × Nat)} {so : St L} (hnd : (so.sto.map fun p => ren m p.1).Nodup) (hc : CBnd so) {g : G} {w : World} {many : Bool} {u : Value} (h : ResRep P I φ many [] so g w u) (y : AV L)
    (hy : resA many (vals (so.env.map fun p => (p.1, renA m p.2))) = some y) : ARep P I φ (renSt m so) (renG (ren m) so.sto g) w y u := by
  rw [vals_map] at hy
  exact res_map (F := renA m) h (fun x _ v hx => renA_ok hnd hc hx) hy
theorem envRoots_mem : ∀ {env : List (Nat × AV L)} {s : Nat} {x : AV L}, get env s = some x → ∀ k ∈ x.roots, k ∈ envRoots env
  | [], s, x, h => by simp [get] at h
  | (j, y) :: r, s, x, h => by
    intro k hk
    simp only [envRoots, List.mem_append]
    rw [get_cons] at h
    split at h
    · simp only [Option.some.injEq] at h; subst h; exact .inl hk
    · exact .inr (envRoots_mem h k hk)
theorem rootsL_mem : ∀ {cs : List (AV L)} {j : Nat} {c : AV L}, cs[j]? = some c → ∀ k ∈ c.roots, k ∈ AV.roots.rootsL cs
  | [], j, c, h => by simp at h
  | y :: r, j, c, h => by
    intro k hk
    simp only [AV.roots.rootsL, List.mem_append]
    cases j with
    | zero => simp only [List.getElem?_cons_zero, Option.some.injEq] at h; subst h; exact .inl hk
    | succ j => exact .inr (rootsL_mem (by simpa using h) k hk)
theorem arep_cutA {ks : List Nat} {st : St L} (hc : Closed ks st) {g : G} {w : World} {x : AV L} {u : Value} (h : ARep P I φ st g w x u) (hx : ∀ k ∈ x.roots, k ∈ ks) : ARep P I φ (cutSt ks st) g w x u := by
  induction h with
  | lf v u h => exact .lf v u h
  | zs e a u h => exact .zs e a u h
  | tl v b n h => exact .tl v b n h
  | fp v b o us h1 hcc hr => exact .fp v b o us h1 hcc hr
  | u u => exact .u u
  | ar l u hb h => exact (arep_cut hc (hx l.root (by simp [AV.roots]))).1 u (.ar l u hb h)
  | pt l b o hb h => exact (arep_cut hc (hx l.root (by simp [AV.roots]))).2 _ (.pt l b o hb h)
  | ag t cs vs us hl hv _ ih => exact .ag t cs vs us hl hv fun j c hj => ih j c hj fun k hk => hx k (rootsL_mem hj k hk)
  | tu cs vs us hl hv _ ih => exact .tu cs vs us hl hv fun j c hj => ih j c hj fun k hk => hx k (rootsL_mem hj k hk)
  | fn f cs vs us hl hv _ ih => exact .fn f cs vs us hl hv fun j c hj => ih j c hj fun k hk => hx k (rootsL_mem hj k hk)
theorem keysNew_ok {sto : List (Nat × Root L)} {ks : List Nat} : ∀ {l : List Nat}, keysNew sto ks l = true → ∀ k ∈ l, k ∈ ks ∨ get sto k = none
  | [], _, k, hk => by simp at hk
  | j :: r, h, k, hk => by
    simp only [keysNew, Bool.and_eq_true, Bool.or_eq_true] at h
    rcases List.mem_cons.1 hk with rfl | hk
    · rcases h.1 with h1 | h1
      · exact .inl (memN_iff.1 h1)
      · refine .inr ?_
        cases hg : get sto k with
        | none => rfl
        | some x => rw [hg] at h1; cases h1
    · exact keysNew_ok h.2 k hk
theorem keysAll_ok {sto : List (Nat × Root L)} {ks : List Nat} : ∀ {l : List Nat}, keysAll sto ks l = true → ∀ k ∈ l, ∀ r, get sto k = some r → k ∈ ks
  | [], _, k, hk, _, _ => by simp at hk
  | j :: l, h, k, hk, r, hr => by
    simp only [keysAll, Bool.and_eq_true, Bool.or_eq_true] at h
    rcases List.mem_cons.1 hk with rfl | hk
    · rcases h.1 with h1 | h1
      · exact memN_iff.1 h1
      · rw [hr] at h1; cases h1
    · exact keysAll_ok h.2 k hk r hr
theorem fillR_keys : ∀ (s : List (Nat × Root Ty)) (vs : List L), (fillR s vs).1.map (·.1) = s.map (·.1)
  | [], vs => rfl
  | (k, x) :: s, vs => by simp only [fillR, List.map_cons, fillR_keys s]
theorem fill_keys (sh : St Ty) (vs : List L) : (fill sh vs).sto.map (·.1) = sh.sto.map (·.1) := by unfold fill; exact fillR_keys _ _
theorem fillE_len : ∀ (e : List (Nat × AV Ty)) (vs : List L), (fillE e vs).1.length = e.length
  | [], vs => rfl
  | (k, x) :: e, vs => by simp only [fillE, List.length_cons, fillE_len e]
theorem fill_len (sh : St Ty) (vs : List L) : (fill sh vs).env.length = sh.env.length := by unfold fill; exact fillE_len _ _
theorem patsOf_len : ∀ (e : List (Nat × AV Ty)), (patsOf e).length = e.length
  | [] => rfl
  | (k, x) :: e => by simp only [patsOf, List.length_cons, patsOf_len e]
theorem get_of_key {α : Type} : ∀ {l : List (Nat × α)} {k : Nat}, k ∈ l.map (·.1) → ∃ x, get l k = some x
  | [], k, h => by simp at h
  | (j, x) :: r, k, h => by
    simp only [List.map_cons, List.mem_cons] at h
    rw [get_cons]
    by_cases hj : j = k
    · exact ⟨x, by rw [if_pos hj]⟩
    · rw [if_neg hj]
      exact get_of_key (h.resolve_left fun e => hj e.symm)
theorem ren_keys {m : List (Nat × Nat)} {so : St L} (hnd : (so.sto.map fun p => ren m p.1).Nodup) (k : Nat) : (∃ r, get (renSt m so).sto k = some r) ↔ k ∈ so.sto.map fun p => ren m p.1 := by
  constructor
  · rintro ⟨r, hr⟩
    obtain ⟨k0, r0, h1, rfl⟩ := (ren_facts hnd).2 k r hr
    exact List.mem_map.2 ⟨(k0, r0), mem_of_get h1, rfl⟩
  · intro h
    obtain ⟨p, hp, rfl⟩ := List.mem_map.1 h
    obtain ⟨x, hx⟩ := get_of_key (List.mem_map.2 ⟨p, hp, rfl⟩)
    exact ⟨_, ((ren_facts hnd).1 _ _ hx).2⟩
theorem kept_mem {ys : List (AV L)} : ∀ {keep : List Nat} {zs : List (AV L)} {y z : AV L}, (y, z) ∈ kept ys keep zs → ∃ (i p : Nat), keep[i]? = some p ∧ ys[p]? = some y ∧ zs[i]? = some z
  | [], zs, y, z, h => by simp [kept] at h
  | p :: ps, [], y, z, h => by simp [kept] at h
  | p :: ps, z0 :: zs, y, z, h => by
    simp only [kept, getL_eq] at h
    split at h
    · rename_i y0 hy0
      rcases List.mem_cons.1 h with h | h
      · simp only [Prod.mk.injEq] at h
        obtain ⟨rfl, rfl⟩ := h
        exact ⟨0, p, rfl, hy0, rfl⟩
      · obtain ⟨i, q, h1, h2, h3⟩ := kept_mem h
        exact ⟨i + 1, q, by simpa using h1, h2, by simpa using h3⟩
    · obtain ⟨i, q, h1, h2, h3⟩ := kept_mem h
      exact ⟨i + 1, q, by simpa using h1, h2, by simpa using h3⟩
theorem dirA_mem {s1 s2 : List (Nat × Root L)} : ∀ {ps : List (AV L × AV L)} {k : Nat}, k ∈ dirA s1 s2 ps → ∃ l l' r1 r2, (AV.pt l, AV.pt l') ∈ ps ∧ l.steps = [] ∧ l'.steps = [] ∧ l.root = k ∧ l'.root = k ∧ l.off = l'.off ∧
    get s1 k = some r1 ∧ get s2 k = some r2 ∧ r1.mem.isSome = true ∧ r2.mem.isSome = true ∧ r1.cells.length = r2.cells.length ∧ r1.gen = l.gen
  | [], k, h => by simp [dirA] at h
  | (x, y) :: ps, k, h => by
    have go : k ∈ dirA s1 s2 ps → _ := dirA_mem (ps := ps) (k := k)
    have lift : (∃ l l' r1 r2, (AV.pt l, AV.pt l') ∈ ps ∧ l.steps = [] ∧ l'.steps = [] ∧ l.root = k ∧ l'.root = k ∧ l.off = l'.off ∧
        get s1 k = some r1 ∧ get s2 k = some r2 ∧ r1.mem.isSome = true ∧ r2.mem.isSome = true ∧ r1.cells.length = r2.cells.length ∧ r1.gen = l.gen) →
        ∃ l l' r1 r2, (AV.pt l, AV.pt l') ∈ (x, y) :: ps ∧ l.steps = [] ∧ l'.steps = [] ∧ l.root = k ∧ l'.root = k ∧ l.off = l'.off ∧
        get s1 k = some r1 ∧ get s2 k = some r2 ∧ r1.mem.isSome = true ∧ r2.mem.isSome = true ∧ r1.cells.length = r2.cells.length ∧ r1.gen = l.gen :=
      fun ⟨l, l', r1, r2, h1, h2⟩ => ⟨l, l', r1, r2, List.mem_cons_of_mem _ h1, h2⟩
    have other : (∀ l l', ¬ ((x, y) = (AV.pt l, AV.pt l'))) → dirA s1 s2 ((x, y) :: ps) = dirA s1 s2 ps := by
      intro hne
      cases x <;> first | rfl | (cases y <;> first | rfl | exact absurd rfl (hne _ _))
    by_cases hpt : ∃ l l', (x, y) = (AV.pt l, AV.pt l')
    · obtain ⟨l, l', he⟩ := hpt
      simp only [Prod.mk.injEq] at he
      obtain ⟨rfl, rfl⟩ := he
      simp only [dirA] at h
      split at h
      · rename_i hc
        simp only [Bool.and_eq_true, List.isEmpty_iff] at hc
        obtain ⟨h1, h2, h3, h4, h5⟩ := hc
        rcases List.mem_cons.1 h with h | h
        · subst h
          unfold dirA.okA at h5
          split at h5
          · rename_i r1 r2 h6 h7
            simp only [Bool.and_eq_true] at h5
            exact ⟨l, l', r1, r2, by simp, h1, h2, rfl, ((beq_iff _ _).1 h3).symm, (beq_iff _ _).1 h4, h6, h7, h5.1, h5.2.1, (beq_iff _ _).1 h5.2.2.1, (beq_iff _ _).1 h5.2.2.2⟩
          · cases h5
        · exact lift (go h)
      · exact lift (go h)
    · rw [other fun l l' he => hpt ⟨l, l', he⟩] at h
      exact lift (go h)
theorem sameN_eq {a b : Loc L} (h : sameN a b = true) : a = b ∧ a.steps = [] := by
  unfold sameN at h
  simp only [Bool.and_eq_true, List.isEmpty_iff] at h
  obtain ⟨h1, h2, h3, h4, h5, h6⟩ := h
  obtain ⟨r, g, o, s, st⟩ := a
  obtain ⟨r', g', o', s', st'⟩ := b
  simp only at h1 h2
  subst h1; subst h2
  have e1 := (beq_iff _ _).1 h3
  have e2 := (beq_iff _ _).1 h4
  have e3 := (beq_iff _ _).1 h5
  have e4 := (beq_iff _ _).1 h6
  simp only at e1 e2 e3 e4
  subst e1; subst e2; subst e3; subst e4
  exact ⟨rfl, rfl⟩
theorem rebA_ok {st1 : St L} {sto : List (Nat × Root L)} {A : List Nat} : ∀ {ps : List (AV L × AV L)} {l : Loc L}, @rebA L (semL cs) st1 sto A ps l = .ar l ∨ ∃ l', (AV.ar l, AV.ar l') ∈ ps ∧ l.steps = [] ∧ (∃ v, @peekA L (semL cs) st1 l = some v) ∧ @rebA L (semL cs) st1 sto A ps l = .ar (labL sto A l')
  | [], l => .inl rfl
  | (x, y) :: ps, l => by
    have ih := rebA_ok (st1 := st1) (sto := sto) (A := A) (ps := ps) (l := l)
    have lift : @rebA L (semL cs) st1 sto A ((x, y) :: ps) l = @rebA L (semL cs) st1 sto A ps l → @rebA L (semL cs) st1 sto A ((x, y) :: ps) l = .ar l ∨ ∃ l', (AV.ar l, AV.ar l') ∈ (x, y) :: ps ∧ l.steps = [] ∧ (∃ v, @peekA L (semL cs) st1 l = some v) ∧ @rebA L (semL cs) st1 sto A ((x, y) :: ps) l = .ar (labL sto A l') := by
      intro e
      rw [e]
      rcases ih with h | ⟨l', h1, h2⟩
      · exact .inl h
      · exact .inr ⟨l', List.mem_cons_of_mem _ h1, h2⟩
    by_cases hpt : ∃ l0 l', (x, y) = (AV.ar l0, AV.ar l')
    · obtain ⟨l0, l', he⟩ := hpt
      simp only [Prod.mk.injEq] at he
      obtain ⟨rfl, rfl⟩ := he
      cases hc : (sameN l0 l && (@peekA L (semL cs) st1 l0).isSome) with
      | true =>
        have e : @rebA L (semL cs) st1 sto A ((AV.ar l0, AV.ar l') :: ps) l = .ar (labL sto A l') := by simp only [rebA]; rw [hc]
        rw [Bool.and_eq_true] at hc
        obtain ⟨e1, e2⟩ := sameN_eq hc.1
        subst e1
        refine .inr ⟨l', by simp, e2, ?_, e⟩
        cases hp : @peekA L (semL cs) st1 l0 with
        | some v => exact ⟨v, rfl⟩
        | none => rw [hp] at hc; cases hc.2
      | false => exact lift (by simp only [rebA]; rw [hc])
    · refine lift ?_
      cases x <;> first | rfl | (cases y <;> first | rfl | exact absurd ⟨_, _, rfl⟩ hpt)
theorem ar_one {st : St L} {g : G} {w : World} {l : Loc L} {u u' : Value} {v : L} (hp : @peekA L (semL cs) st l = some v) (h : ARep P I φ st g w (.ar l) u) (h' : ARep P I φ st g w (.ar l) u') : u = u' := by
  unfold peekA at hp
  split at hp
  · rename_i hst
    split at hp
    · rename_i s d v0 hc
      split at hp
      · rename_i hs
        simp only [Bool.and_eq_true] at hs
        have hv : validA st l := ⟨_, hc, (beq_iff _ _).1 hs.1⟩
        obtain ⟨r, h1, h2, h3⟩ := cellAt_iff.1 hc
        have hsl : ∃ e a, v0.ty = .sl e a := by
          have := hs.2
          have this : v0.ty.isSl = true := this
          cases hty : v0.ty <;> rw [hty] at this <;> first | exact ⟨_, _, rfl⟩ | cases this
        obtain ⟨e, a, hty⟩ := hsl
        have hat : ∃ d' e' nl xs, Eng.at_ (injS I φ st) (injLoc l) = some (d', .sl e' nl xs) := by
          refine ⟨d, ?_⟩
          unfold Eng.at_
          rw [get_injS]
          simp only [injLoc, h1, Option.map_some, injR, List.getElem?_map, h3, injE, hst, List.map_nil, Eng.walkT]
          obtain ⟨ty, val⟩ := v0
          simp only at hty
          subst hty
          exact ⟨_, _, _, rfl⟩
        obtain ⟨d', e', nl, xs, hat⟩ := hat
        cases h with
        | ar _ _ _ h4 =>
          cases h' with
          | ar _ _ _ h5 =>
            have e1 := h4 hv hst d' e' nl xs hat
            have e2 := h5 hv hst d' e' nl xs hat
            rw [e1, Option.some.injEq] at e2
            exact e2
      · cases hp
    · cases hp
  · cases hp
variable {ρ : Type} {ls : List (Nat × LoopC ρ)} {r : ρ}
theorem call_some {f : Nat} {T : Ty} {g : Option L} {vs : List L} {K : L → Option ρ} (h : @RAlg.call L (Option ρ) (semR ρ cs ls) f T g vs K = some r) :
    ∃ con a, get cs f = some con ∧ (tupL vs).as con.A = some a ∧ ∃ rv, K ⟨con.B, rv⟩ = some r ∧ (OnL g → con.F a = some rv) := by
  simp only [RAlg.call] at h
  split at h
  · rename_i con hcon
    split at h
    · rename_i a ha
      refine ⟨con, a, hcon, ha, ?_⟩
      cases g with
      | none =>
        simp only [pCall, Option.bind_eq_some_iff] at h
        obtain ⟨rv, h1, h2⟩ := h
        exact ⟨rv, h2, fun _ => h1⟩
      | some g =>
        simp only at h
        cases hg : g.bool with
        | none => rw [hg] at h; cases h
        | some b =>
          rw [hg] at h
          simp only [pCallG, Option.bind_eq_some_iff] at h
          obtain ⟨rv, h1, h2⟩ := h
          refine ⟨rv, h2, fun hon => ?_⟩
          have := hon g rfl
          rw [hg, Option.some.injEq] at this
          subst this
          exact h1
    · cases h
  · cases h
end Go.Y
namespace Go.Y
open Go.Eng (T RepT RepM SRep Kept Base G SameOn VRep Split Live Free kn Owns ownB RootOk ERep)
variable {P : Program} {I : Ids} {φ : FnP} {β : Base} {nt : Nat} {cs : List (Nat × Con)}
variable {ρ : Type} {ls : List (Nat × LoopC ρ)} {r : ρ} {tb : Tabs} {st : St L} {gd : Option (Gd L)} {k : St L → Option ρ} {o : Oper}
theorem keepSto_more {k2 nk ks : List Nat} {sto : List (Nat × Root L)} (hks : ks = k2 ++ nk) (hnew : ∀ k ∈ nk, k ∈ k2 ∨ get sto k = none) : keepSto ks sto = keepSto k2 sto := by
  have key : ∀ l : List (Nat × Root L), (∀ k ∈ l.map (·.1), k ∈ nk → k ∈ k2) → keepSto ks l = keepSto k2 l := by
    intro l
    induction l with
    | nil => intro _; rfl
    | cons p l ih =>
      obtain ⟨k, x⟩ := p
      intro h
      have hi := ih fun j hj => h j (by simp only [List.map_cons]; exact List.mem_cons_of_mem _ hj)
      have hm : memN k ks = memN k k2 := by
        cases h2 : memN k k2 with
        | true => exact memN_iff.2 (by rw [hks]; exact List.mem_append.2 (.inl (memN_iff.1 h2)))
        | false =>
          cases h3 : memN k ks with
          | false => rfl
          | true =>
            have h4 := memN_iff.1 h3
            rw [hks] at h4
            have h5 : k ∈ k2 := (List.mem_append.1 h4).elim id fun hn => h k (by simp) hn
            rw [memN_iff.2 h5] at h2
            cases h2
      simp only [keepSto, hm, hi]
  refine key sto fun k hk hn => ?_
  rcases hnew k hn with h | h
  · exact h
  · exfalso
    obtain ⟨p, hp, rfl⟩ := List.mem_map.1 hk
    have : ∀ l : List (Nat × Root L), p ∈ l → get l p.1 ≠ none := by
      intro l
      induction l with
      | nil => intro h; cases h
      | cons q l ih =>
        obtain ⟨j, y⟩ := q
        intro hq hg
        rw [get_cons] at hg
        split at hg
        · cases hg
        · rename_i hj
          rcases List.mem_cons.1 hq with rfl | hq
          · exact hj rfl
          · exact ih hq hg
    exact this sto hp h
theorem callR_run {f : FuncId} {sg : Sig} {con : Con} {xs ys : List (AV L)} {vs : List L} {x0 : con.A.den} {rv : con.B.den} {rs : List L} {mm : List (Nat × Nat)} {k2 ks nk : List Nat} {st1 stc so : St L} {oo : St Ty}
    (hok : FnOk P I φ f sg con) (hf : FnsOk φ cs)
    (hst1 : st1 = frSel st (patsOf sg.ins.env) xs) (hyl : ys.length = xs.length) (hpl : (patsOf sg.ins.env).length = xs.length)
    (hys : ∀ (j : Nat) x y p, xs[j]? = some x → ys[j]? = some y → (patsOf sg.ins.env)[j]? = some p → (y = x ∧ ¬ ∃ t, p = .lf t) ∨ ∃ v, y = .lf v ∧ pk cs st x = some v ∧ ∃ t, p = .lf t)
    (hk2 : ∀ k ∈ envRoots (zipN 0 ys), k ∈ k2) (hnk : nk = oo.sto.map fun p => ren mm p.1) (hks : ks = k2 ++ nk)
    (hcl : Closed ks st1) (hnew : ∀ k ∈ nk, k ∈ k2 ∨ get st1.sto k = none) (hall : ∀ k ∈ k2, ∀ r, get st1.sto k = some r → k ∈ nk) (hnd : nk.Nodup)
    (hstc : stc = ⟨zipN 0 ys, [], keepSto k2 st1.sto⟩) (hsame : @sameSt L (semL cs) (@prep L (semL cs) sg.h stc) sg.ins = true) (hfill : fill sg.ins vs = @prep L (semL cs) sg.h stc) (hvs : vs = leafs (@prep L (semL cs) sg.h stc))
    (hx0 : (tupL vs).as con.A = some x0) (hF : con.F x0 = some rv) (hrs : outs cs sg ⟨con.B, rv⟩ = some (oo, rs)) (hso : so = fill oo rs) (hn0 : N0 so)
    {g : G} {w : World} {us : Array Value} (hi : Inv P I φ β st g w) (hus : us.size = xs.length) (hxs : ∀ (j : Nat) x, xs[j]? = some x → ∃ u, us[j]? = some u ∧ ARep P I φ st g w x u) :
    Calls P f us w fun e w' => ∃ u, e = .returned u ∧ (let so1 := renSt mm so; let ps := kept ys sg.keep (dropL (so1.env.length - sg.keep.length) (vals so1.env)); let A := dirA st1.sto so1.sto ps; let so2 := labSt st1.sto A so1
      ∃ gM, Pass P I φ st g w (mergeSt ks st1 so2) gM w' ∧ Inv P I φ β (mergeSt ks st1 so2) gM w' ∧ (∀ y, resA sg.many (resV sg.keep so2.env) = some y → ARep P I φ (mergeSt ks st1 so2) gM w' y u) ∧
      ∀ l u0, ARep P I φ st g w (.ar l) u0 → ARep P I φ (mergeSt ks st1 so2) gM w' (@rebA L (semL cs) st1 st1.sto A ps l) u0) := by
  rw [← keepSto_more (ks := ks) (nk := nk) hks hnew] at hstc
  obtain ⟨g1, hp1, hi1, hfr⟩ := frSel_ok hf (patsOf sg.ins.env) xs st g hi
  rw [← hst1] at hp1 hi1
  have hya : ∀ (j : Nat) y, ys[j]? = some y → ∃ u, us[j]? = some u ∧ ARep P I φ st1 g1 w y u := by
    intro j y hy
    have hjl := lt_of_get hy
    obtain ⟨x, hx⟩ : ∃ x, xs[j]? = some x := ⟨xs[j]'(by omega), List.getElem?_eq_getElem _⟩
    obtain ⟨p, hp⟩ : ∃ p, (patsOf sg.ins.env)[j]? = some p := ⟨(patsOf sg.ins.env)[j]'(by omega), List.getElem?_eq_getElem _⟩
    obtain ⟨u, hu, hr⟩ := hxs j x hx
    refine ⟨u, hu, ?_⟩
    rcases hys j x y p hx hy hp with ⟨rfl, _⟩ | ⟨v, rfl, hpk, hpt⟩
    · exact hp1.a _ _ hr
    · exact .lf v u (hfr j x p v u hx hp hpt hpk hr)
  have hic := inv_cut hi1 hcl
  have hroots : ∀ (j : Nat) y, ys[j]? = some y → ∀ k ∈ y.roots, k ∈ ks := by
    intro j y hy k hk
    rw [hks]
    refine List.mem_append.2 (.inl (hk2 k (envRoots_mem (s := j) (x := y) ?_ k hk)))
    rw [zipN_get]
    simp [hy]
  have hR0 : RelG P I φ (cutBase ks st1 g1 w) us.size stc g1 { tmps := us, defers := [] } w := by
    rw [hstc]
    refine ⟨rfl, rfl, hic.env (zipN 0 ys) [], fun s y hy => ?_, fun s k b y hy => by simp at hy⟩
    rw [zipN_get] at hy
    simp only [Nat.zero_le, if_true, Nat.sub_zero] at hy
    obtain ⟨u, hu, hr⟩ := hya s y hy
    exact ⟨u, hu, (arep_cutA hcl hr (hroots s y hy)).env _ _⟩
  obtain ⟨g2, hR2⟩ := prep_ok (cs := cs) sg.h hR0
  have hty : vs.map (·.ty) = leafs sg.ins := by rw [hvs]; exact leafs_ty hsame
  have huse : us.size = sg.ins.env.length := by rw [hus, ← hpl, patsOf_len]
  refine (hok.run x0 rv hF vs hx0 hty (cutBase ks st1 g1 w) w g2 us (by rw [hfill]; exact hR2.i) huse (by rw [hfill]; exact hR2.e)).mono fun e w' ⟨u, he, g', oo', rs', hl, hi', hr', hk'⟩ => ⟨u, he, ?_⟩
  have hrs' : oo = oo' ∧ rs = rs' := by
    have := hl cs
    rw [hrs, Option.some.injEq, Prod.mk.injEq] at this
    exact this
  obtain ⟨rfl, rfl⟩ := hrs'
  rw [← hso] at hi' hr' hk'
  have hkeys : (so.sto.map fun p => ren mm p.1) = nk := by
    have h1 : so.sto.map (·.1) = oo.sto.map (·.1) := by rw [hso]; exact fill_keys _ _
    have h2 : ∀ l : List (Nat × Root L), (l.map fun p => ren mm p.1) = (l.map (·.1)).map (ren mm) := fun l => by simp
    have h3 : ∀ l : List (Nat × Root Ty), (l.map fun p => ren mm p.1) = (l.map (·.1)).map (ren mm) := fun l => by simp
    rw [h2, h1, hnk, h3]
  have hnd' : (so.sto.map fun p => ren mm p.1).Nodup := by rw [hkeys]; exact hnd
  have hi3 := inv_ren hnd' hi'
  have hn1 := n0_ren hnd' hn0
  intro so1 ps A so2
  have hi4 : Inv P I φ (cutBase ks st1 g1 w) so2 (renG (ren mm) so.sto g') w' := lab_inv hn1 hi3
  generalize hg3 : renG (ren mm) so.sto g' = g3 at hi3 hi4
  have hkept : ∀ y z, (y, z) ∈ ps → ∃ u, ARep P I φ st1 g1 w y u ∧ ARep P I φ so1 g3 w' z u ∧ N0A z := by
    intro y z hm
    obtain ⟨i, p, h1, h2, h3⟩ := kept_mem hm
    obtain ⟨u, hu, hr⟩ := hya p y h2
    rw [dropL_eq, List.getElem?_drop, show so1.env = so.env.map fun p => (p.1, renA mm p.2) from rfl, vals_map, List.getElem?_map, Option.map_eq_some_iff] at h3
    obtain ⟨z0, h4, rfl⟩ := h3
    rw [List.length_map] at h4
    have h5 := hk' i p z0 u h1 h4 hu
    refine ⟨u, hr, by rw [← hg3]; exact renA_ok hnd' hi'.c h5, ?_⟩
    have hmem : ∃ s, (s, z0) ∈ so.env := by
      have : ∀ (env : List (Nat × AV L)) z, z ∈ vals env → ∃ s, (s, z) ∈ env := by
        intro env
        induction env with
        | nil => intro z hz; simp [vals] at hz
        | cons q r ih =>
          obtain ⟨s, x⟩ := q
          intro z hz
          simp only [vals, List.mem_cons] at hz
          rcases hz with rfl | hz
          · exact ⟨s, by simp⟩
          · obtain ⟨s', hs'⟩ := ih z hz
            exact ⟨s', List.mem_cons_of_mem _ hs'⟩
      exact this _ _ (List.mem_of_getElem? h4)
    obtain ⟨s, hs⟩ := hmem
    have := hn0.env s z0 hs
    cases z0 <;> first | trivial | exact this
  have hA : ∀ k ∈ A, ∃ r r', get (cutSt ks st1).sto k = some r ∧ get so1.sto k = some r' ∧ r.mem.isSome = true ∧ r.cells.length = r'.cells.length ∧ g3.ad k = g1.ad k := by
    intro k hk
    obtain ⟨l, l', r1, r2, h1, h2, h3, h4, h5, h6, h7, h8, h9, h10, h11, h12⟩ := dirA_mem hk
    have hin : k ∈ ks := by rw [hks]; exact List.mem_append.2 (.inr (by rw [← hkeys]; exact (ren_keys hnd' k).1 ⟨r2, h8⟩))
    refine ⟨r1, r2, by simp only [cutSt, get_keepSto, if_pos hin]; exact h7, h8, h9, h11, ?_⟩
    obtain ⟨u0, ha1, ha2, hz⟩ := hkept _ _ h1
    have addr : ∀ (s : St L) (gg : G) (ww : World) (q : Loc L) (rr : Root L), q.steps = [] → q.root = k → get s.sto k = some rr → rr.mem.isSome = true → rr.gen = q.gen → ∀ v, ARep P I φ s gg ww (.pt q) v → v = .pointer (some ⟨gg.ad k, q.off, none⟩) := by
      intro s gg ww q rr hq hqk hrr hmem hgen v hv
      cases hv with
      | pt _ b o hb hh =>
        obtain ⟨e, he⟩ := Option.isSome_iff_exists.1 hmem
        have hst : (injLoc q).steps = [] := by simp [injLoc, hq]
        have hgo : Eng.get (injS I φ s) (injLoc q).root = some (injR I φ s rr) := by rw [get_injS]; simp only [injLoc, hqk, hrr]; rfl
        have hth : Eng.There (injS I φ s) (injLoc q) := by
          unfold Eng.There
          rw [hst]
          exact ⟨_, e, hgo, he⟩
        have hla := hh ⟨⟨rr, rootAt_iff.2 ⟨by rw [hqk]; exact hrr, hgen⟩⟩, fun hne => absurd hq hne⟩ hth
        unfold Eng.locA at hla
        rw [hgo, hst] at hla
        simp only [show (injR I φ s rr).mem = rr.mem from rfl, he, Option.map_some, Option.some.injEq] at hla
        rw [← hla]
        show Value.pointer (some ⟨gg.ad q.root, q.off, none⟩) = _
        rw [hqk]
    have e1 := addr st1 g1 w l r1 h2 h4 h7 h9 h12 u0 ha1
    have e2 := addr so1 g3 w' l' r2 h3 h5 h8 h10 (by rw [(hn1.sto k r2 h8).1]; exact hz.1.symm) u0 ha2
    rw [e1] at e2
    simp only [Value.pointer.injEq, Option.some.injEq, Addr.mk.injEq] at e2
    exact e2.1.symm
  have hnotB : ∀ b, g1.F b → ¬ (cutBase ks st1 g1 w).B b := by
    rintro b hb ⟨k, r, _, hr, hb2⟩
    exact (hi1.s.own k _ (by rw [get_injS, hr]; rfl) b hb2).1 hb
  have hpass : Pass P I φ (cutSt ks st1) g1 w so2 g3 w' := by
    refine lab_pass (sto := st1.sto) (A := A) (so := so1) (fun k r hr => ?_) (fun b hb => hi4.k.F b hb) (fun b hb hlt => hi4.k.block b hlt (hnotB b hb)) hi4.k.size (fun k r hr => ?_) hA
    · simp only [cutSt, get_keepSto] at hr
      split at hr
      · exact hr
      · cases hr
    · simp only [cutSt, get_keepSto] at hr
      split at hr
      · rename_i hk
        refine (ren_keys hnd' k).2 ?_
        rw [hkeys]
        rw [hks] at hk
        rcases List.mem_append.1 hk with hk | hk
        · exact hall k hk r hr
        · exact hk
      · cases hr
  have hin : ∀ k r, get so2.sto k = some r → k ∈ ks := by
    intro k r hr
    have hr : get (labSt st1.sto A so1).sto k = some r := hr
    rw [lab_get, Option.map_eq_some_iff] at hr
    obtain ⟨r0, h1, _⟩ := hr
    rw [hks]
    exact List.mem_append.2 (.inr (by rw [← hkeys]; exact (ren_keys hnd' k).1 ⟨r0, h1⟩))
  obtain ⟨hm1, hm2⟩ := merge_ok hi1 hcl hpass hi4 hin
  have hm3 : ∀ x u, ARep P I φ so2 g3 w' x u → ARep P I φ (mergeSt ks st1 so2) (mergeG ks g1 g3) w' x u := fun x u hx => arep_merge hin hi4.c hx
  refine ⟨mergeG ks g1 g3, hp1.trans hm1, hm2, fun y hy => ?_, fun l u0 hl0 => ?_⟩
  · have h1 : resV sg.keep so2.env = ((resV sg.keep so.env).map (renA mm)).map (labA st1.sto A) := by
      show resV sg.keep ((so.env.map fun p => (p.1, renA mm p.2)).map fun p => (p.1, labA st1.sto A p.2)) = _
      rw [resV_map, resV_map]
    rw [h1, List.map_map] at hy
    refine res_map (F := labA st1.sto A ∘ renA mm) hr' (fun x hx v hv => ?_) hy
    have hnx : N0A (renA mm x) := by
      have hmem := resV_mem hx
      have : ∀ (env : List (Nat × AV L)) z, z ∈ vals env → ∃ s, (s, z) ∈ env := by
        intro env
        induction env with
        | nil => intro z hz; simp [vals] at hz
        | cons q r ih =>
          obtain ⟨s, x⟩ := q
          intro z hz
          simp only [vals, List.mem_cons] at hz
          rcases hz with rfl | hz
          · exact ⟨s, by simp⟩
          · obtain ⟨s', hs'⟩ := ih z hz
            exact ⟨s', List.mem_cons_of_mem _ hs'⟩
      obtain ⟨s, hs⟩ := this _ _ hmem
      have := hn0.env s x hs
      cases x <;> first | trivial | exact this
    refine hm3 _ _ (lab_rep hn1 hnx ?_)
    rw [← hg3]
    exact renA_ok hnd' hi'.c hv
  · rcases rebA_ok (cs := cs) (st1 := st1) (sto := st1.sto) (A := A) (ps := ps) (l := l) with h | ⟨l', h1, h2, ⟨v, h3⟩, h4⟩
    · rw [h]
      exact hm1.a _ _ (hp1.a _ _ hl0)
    · rw [h4]
      obtain ⟨u1, h5, h6, h7⟩ := hkept _ _ h1
      have := ar_one h3 h5 (hp1.a _ _ hl0)
      subst this
      exact hm3 _ _ (lab_rep (x := .ar l') hn1 h7 h6)
end Go.Y
namespace Go.Y
open Go.Eng (T RepT RepM SRep Kept Base G SameOn VRep Split Live Free kn Owns ownB RootOk ERep)
variable {P : Program} {I : Ids} {φ : FnP} {β : Base} {nt : Nat} {cs : List (Nat × Con)}
variable {ρ : Type} {ls : List (Nat × LoopC ρ)} {r : ρ} {tb : Tabs} {st : St L} {gd : Option (Gd L)} {k : St L → Option ρ} {o : Oper}
theorem get_rebE {st1 : St L} {sto : List (Nat × Root L)} {A : List Nat} {ps : List (AV L × AV L)} {env : List (Nat × AV L)} {s : Nat} {x : AV L} (h : get (@rebE L (semL cs) st1 sto A ps env) s = some x) :
    ∃ x0, get env s = some x0 ∧ ((∃ l, x0 = .ar l ∧ x = @rebA L (semL cs) st1 sto A ps l) ∨ x = x0) := by
  unfold rebE at h
  rw [get_map, Option.map_eq_some_iff] at h
  obtain ⟨x0, h1, h2⟩ := h
  refine ⟨x0, h1, ?_⟩
  cases x0 <;> first | exact .inr h2.symm | exact .inl ⟨_, rfl, h2.symm⟩
theorem callR_ok0 {HH : Act → Prop} {f : FuncId} {key : Nat} {sg : Sig} {xs : List (AV L)} (hC : CallsOk P I φ cs tb) (hf : FnsOk φ cs) (hsg : get tb.sigs key = some sg) (hkf : fnOf key = f) (hd : ∀ d, o.dst = some d → d < nt) (hself : @selfOk L none o.dst = true)
    (hex : ∀ (ac : Act) (w : World) (g : G), Inv P I φ β st g w → EnvR P I φ st g w st.env ac.tmps → GnvR P I φ st g w st.gnv ac.tmps → HH ac →
      ∃ us : Array Value, us.size = xs.length ∧ (∀ (j : Nat) x, xs[j]? = some x → ∃ u, us[j]? = some u ∧ ARep P I φ st g w x u) ∧
        ∀ fn, P.funcs[f]? = some fn → (fn.name == "runtime.NumGoroutine") = false → fn.body.isNone = false → (execOp ac.eval o).run P w = .ok (.enter f us) w)
    (h : @callR L (Option ρ) (semL cs) (semF ρ) (semR ρ cs ls) st o.dst key sg xs k = some r) : ∃ st', k st' = some r ∧ ∀ ac w g, RelG P I φ β nt st g ac w → HH ac → ∀ K Q, (∀ a' w' g', Pass P I φ st g w st' g' w' → RelG P I φ β nt st' g' a' w' → (∀ s, o.dst ≠ some s → a'.tmps[s]? = ac.tmps[s]?) → K a' w') → o.wp P ac w K Q := by
  unfold callR at h
  obtain ⟨ys, h1, hyl, hpl, hys⟩ := selK_some2 _ _ _ h
  clear h
  simp only [List.reverse_nil, List.nil_append] at h1
  obtain ⟨h2, hsame, hfill⟩ := toSh_some h1
  clear h1
  obtain ⟨con, x0, hcon, hx0, rv, h3, hon⟩ := call_some h2
  clear h2
  obtain ⟨oo, xx, h4, hout⟩ := altK_some h3
  clear h3
  unfold callP at h4
  simp only at h4
  split at h4
  · cases h4
  rename_i hchk
  simp only [Bool.and_eq_true] at hchk
  obtain ⟨hc1, hc2, hc3, hc4⟩ := hchk
  obtain ⟨rs, hrs0, h5⟩ := oCase_some h4
  clear h4
  have hrs := hout cs rs hrs0
  split at h5
  · cases h5
  rename_i hn0
  obtain ⟨y, hy, h4⟩ := oCase_some h5
  clear h5
  have h5 := h4
  clear h4
  have hok := hC key sg con hsg hcon
  rw [hkf] at hok
  obtain ⟨fn, hfn1, hfn2, hfn3⟩ := hok.fn
  have hF := hon (fun c hc => by cases hc)
  generalize hst1 : frSel st (patsOf sg.ins.env) xs = st1 at *
  generalize hmm : @crM L (semL cs) { sg with out := oo } o.dst (zipN 0 ys) st1.sto = mm at *
  generalize hk2 : reachK (zipN 0 ys) st1.sto = k2 at *
  generalize hnk : crN mm { sg with out := oo } = nk at *
  generalize hso : fill oo rs = so at *
  have hsub : ∀ k ∈ envRoots (zipN 0 ys), k ∈ k2 := by
    intro k hk
    rw [← hk2]
    unfold reachK
    simp only [List.mem_append]
    exact .inl (.inl hk)
  have hgnv : st1.gnv = st.gnv ∧ st1.env = st.env := by
    rw [← hst1]
    have : ∀ (ps : List (AV Ty)) (xs : List (AV L)) (s : St L), (frSel s ps xs).gnv = s.gnv ∧ (frSel s ps xs).env = s.env := by
      intro ps
      induction ps with
      | nil => intro xs s; exact ⟨rfl, rfl⟩
      | cons p ps ih =>
        intro xs s
        cases xs with
        | nil => exact ⟨rfl, rfl⟩
        | cons x xs =>
          by_cases hp : ∃ t, p = .lf t
          · obtain ⟨t, rfl⟩ := hp
            have h1 := ih xs (freezeA s x)
            have h2 := freezeA_env (st := s) x
            exact ⟨h1.1.trans h2.2, h1.2.trans h2.1⟩
          · have heq : frSel s (p :: ps) (x :: xs) = frSel s ps xs := by
              cases p <;> first | rfl | exact absurd ⟨_, rfl⟩ hp
            rw [heq]
            exact ih xs s
    exact this _ _ _
  have main : ∀ (ac : Act) (w : World) (g : G), RelG P I φ β nt st g ac w → HH ac → ∀ K Q, (∀ u w' gM, Pass P I φ st g w (@crSt L (semL cs) st1 (renSt mm so) ys sg.keep (k2 ++ nk)) gM w' →
      RelG P I φ β nt (@crSt L (semL cs) st1 (renSt mm so) ys sg.keep (k2 ++ nk)) gM ac w' → ARep P I φ (@crSt L (semL cs) st1 (renSt mm so) ys sg.keep (k2 ++ nk)) gM w' y u → K (ac.put o.dst u) w') → o.wp P ac w K Q := by
    intro ac w g hR hH K Q hK
    obtain ⟨us, hus, hxs, hexec⟩ := hex ac w g hR.i hR.e hR.n hH
    unfold Oper.wp
    rw [hexec fn hfn1 hfn2 hfn3, Oper.upon_enter]
    refine Calls.mono (callR_run (ys := ys) (ks := k2 ++ nk) hok hf hst1.symm hyl hpl hys hsub hnk.symm rfl (closed_iff hc1) (keysNew_ok hc2) (keysAll_ok hc3) (nodupN_iff.1 hc4) rfl hsame hfill rfl hx0 hF hrs hso.symm (n0_of hn0) hR.i hus hxs) fun e w' ⟨u, he, gM, hp, hi, hres, hreb⟩ => ?_
    subst he
    have hp' : Pass P I φ st g w (@crSt L (semL cs) st1 (renSt mm so) ys sg.keep (k2 ++ nk)) gM w' := hp.env _ _
    refine hK u w' gM hp' ⟨hR.defers, hR.size, hi.env _ _, fun s x hx => ?_, ?_⟩ ((hres y hy).env _ _)
    · obtain ⟨z, h6, h7⟩ := get_rebE hx
      rw [hgnv.2] at h6
      obtain ⟨u0, hu0, hr0⟩ := hR.e s z h6
      refine ⟨u0, hu0, ?_⟩
      rcases h7 with ⟨l, rfl, rfl⟩ | rfl
      · exact (hreb l u0 hr0).env _ _
      · exact hp'.a _ _ hr0
    · have : GnvR P I φ (@crSt L (semL cs) st1 (renSt mm so) ys sg.keep (k2 ++ nk)) gM w' st.gnv ac.tmps := hR.n.pass hp'
      rw [← hgnv.1] at this
      exact this
  cases hdst : o.dst with
  | none =>
    rw [hdst] at h5
    refine ⟨_, h5, fun ac w g hR hH K Q hK => main ac w g hR hH K Q fun u w' gM hp hr ha => ?_⟩
    exact hK _ _ gM hp (by rw [hdst]; exact hr) fun s hs => put_ne ac u (by rw [hdst]; exact hs)
  | some d =>
    rw [hdst] at h5
    refine ⟨_, h5, fun ac w g hR hH K Q hK => main ac w g hR hH K Q fun u w' gM hp hr ha => ?_⟩
    refine hK _ _ gM (hp.putE _ _ _) ?_ fun s hs => put_ne ac u (by rw [hdst]; exact hs)
    rw [hdst]
    exact rel_put (gd := none) (hd d hdst) hr.defers hr.size trivial (fun _ h => by cases h) (fun k hk => by simp [gdKeys] at hk) rfl rfl hr.e hr.n (Pass.refl _ _ _) hr.i ha
theorem callR_ok {f : FuncId} {key : Nat} {sg : Sig} {xs : List (AV L)} (hC : CallsOk P I φ cs tb) (hf : FnsOk φ cs) (hsg : get tb.sigs key = some sg) (hkf : fnOf key = f) (hd : ∀ d, o.dst = some d → d < nt) (hself : @selfOk L none o.dst = true)
    (hex : ∀ (ac : Act) (w : World) (g : G), Inv P I φ β st g w → EnvR P I φ st g w st.env ac.tmps → GnvR P I φ st g w st.gnv ac.tmps → Hold ac.tmps (@gdKeys L none) →
      ∃ us : Array Value, us.size = xs.length ∧ (∀ (j : Nat) x, xs[j]? = some x → ∃ u, us[j]? = some u ∧ ARep P I φ st g w x u) ∧
        ∀ fn, P.funcs[f]? = some fn → (fn.name == "runtime.NumGoroutine") = false → fn.body.isNone = false → (execOp ac.eval o).run P w = .ok (.enter f us) w)
    (h : @callR L (Option ρ) (semL cs) (semF ρ) (semR ρ cs ls) st o.dst key sg xs k = some r) : ∃ st', k st' = some r ∧ Does P I φ β nt o st (none : Option (Gd L)) st' := by
  obtain ⟨st', h1, h2⟩ := callR_ok0 hC hf hsg hkf hd hself (HH := fun ac => Hold ac.tmps (@gdKeys L none)) hex h
  exact ⟨st', h1, ⟨fun ac w g hR _ _ K Q hK => h2 ac w g hR (fun k hk => by simp [gdKeys] at hk) K Q hK, fun ac w g gd' hgd => by cases hgd⟩⟩
end Go.Y
namespace Go.Y
open Go.Eng (T RepT RepM SRep Kept Base G SameOn VRep Split Live Free kn Owns ERep)
variable {P : Program} {I : Ids} {φ : FnP} {β : Base} {cs : List (Nat × Con)}
theorem scalar_cell : ∀ (A : Ty), A.scalar = true → ∀ (x : A.den) (c : T), c ∈ trc I φ A x → (∃ b, c = .b b) ∨ (∃ k n, c = .i k n) ∨ ∃ s, c = .s s
  | .unit, _, x, c, hc => by simp [trc] at hc
  | .bool, _, x, c, hc => by simp only [trc, List.mem_singleton] at hc; exact .inl ⟨_, hc⟩
  | .int k, _, x, c, hc => by simp only [trc, List.mem_singleton] at hc; exact .inr (.inl ⟨_, _, hc⟩)
  | .str, _, x, c, hc => by simp only [trc, List.mem_singleton] at hc; exact .inr (.inr ⟨_, hc⟩)
  | .pair a b, hs, x, c, hc => by
    simp only [Ty.scalar, Bool.and_eq_true] at hs
    simp only [trc, List.mem_append] at hc
    exact hc.elim (scalar_cell a hs.1 _ c) (scalar_cell b hs.2 _ c)
  | .st f, hs, x, c, hc => scalar_cell f hs x c hc
  | .sl e a, hs, _, _, _ => by cases hs
  | .ptr e a, hs, _, _, _ => by cases hs
  | .err, hs, _, _, _ => by cases hs
  | .fn a b, hs, _, _, _ => by cases hs
theorem repM_leafs {w : World} {F F' : Nat → Prop} {d : Nat} {c : T} (hc : (∃ b, c = .b b) ∨ (∃ k n, c = .i k n) ∨ ∃ s, c = .s s) {u : Value} {B B' : Nat → Prop} (h : RepM P w F d c u B) : RepM P w F' d c u B' := by
  rcases hc with ⟨b, rfl⟩ | ⟨k, n, rfl⟩ | ⟨s, rfl⟩
  · cases d with
    | zero => have h : RepT P w F (.b b) u := h
              cases h; exact RepT.b b
    | succ d => have h : RepT P w F (.b b) u := h
                cases h; exact RepT.b b
  · cases d with
    | zero => have h : RepT P w F (.i k n) u := h
              cases h; exact RepT.i k n
    | succ d => have h : RepT P w F (.i k n) u := h
                cases h; exact RepT.i k n
  · cases d with
    | zero => have h : RepT P w F (.s s) u := h
              cases h; exact RepT.s s
    | succ d => have h : RepT P w F (.s s) u := h
                cases h; exact RepT.s s
theorem one_cells (A : Ty) (x : A.den) : (one A (trc I φ A x)).cells = trc I φ A x := by
  cases hA : A.isAgg with
  | false =>
    obtain ⟨c, h1, h2⟩ := trc_one (I := I) (φ := φ) A hA x
    rw [h1]
    have : one A [c] = c := by cases A <;> first | rfl | cases hA
    rw [this]
    cases c <;> first | rfl | cases h2
  | true => cases A <;> first | rfl | cases hA
theorem repM_own {w : World} {F F' : Nat → Prop} {d : Nat} {v : L} (h : ownC d v.ty = true) {u : Value} {B : Nat → Prop} (hr : RepM P w F d (trL I φ v) u B) : RepM P w F' d (trL I φ v) u B := by
  obtain ⟨A, x⟩ := v
  cases A with
  | sl e a =>
    have h : (Nat.ble 1 d && a.scalar) = true := h
    simp only [Bool.and_eq_true] at h
    obtain ⟨h1, hs⟩ := h
    have h1 := Nat.le_of_ble_eq_true h1
    obtain ⟨d, rfl⟩ : ∃ d', d = d' + 1 := ⟨d - 1, by omega⟩
    obtain ⟨us, ho, hf, Bs, hsp, hc⟩ := hr
    refine ⟨us, ho, hf, Bs, hsp, fun j t u hj hu => ?_⟩
    refine repM_leafs ?_ (hc j t u hj hu)
    have hm := List.mem_of_getElem? hj
    simp only [Go.Eng.flat, List.mem_flatMap, List.mem_map] at hm
    obtain ⟨y, ⟨z, _, rfl⟩, hy⟩ := hm
    rw [one_cells] at hy
    exact scalar_cell a hs z t hy
  | bool => exact repM_leafs (.inl ⟨_, rfl⟩) hr
  | int k => exact repM_leafs (.inr (.inl ⟨_, _, rfl⟩)) hr
  | str => exact repM_leafs (.inr (.inr ⟨_, rfl⟩)) hr
  | unit =>
    have hr : RepM P w F d (.ag []) u B := hr
    have hr : RepT P w F (.ag []) u := by cases d <;> exact hr
    have : RepT P w F' (.ag []) u := by
      cases hr with
      | ag _ vs us hl hv _ => exact .ag _ vs us hl hv fun j t hj => by simp at hj
    cases d <;> exact this
  | pair a b => exact agg (.pair a b) h x hr rfl
  | st f => exact agg (.st f) h x hr rfl
  | ptr e a => cases h
  | err => cases h
  | fn a b => cases h
where
  agg {w : World} {F F' : Nat → Prop} {d : Nat} {u : Value} {B : Nat → Prop} (A : Ty) (h : A.scalar = true) (x : A.den) (hr : RepM P w F d (trL I φ ⟨A, x⟩) u B) (hA : trL I φ ⟨A, x⟩ = .ag (trc I φ A x)) : RepM P w F' d (trL I φ ⟨A, x⟩) u B := by
    rw [hA] at hr ⊢
    have hr1 : RepT P w F (.ag (trc I φ A x)) u := by cases d <;> exact hr
    have : RepT P w F' (.ag (trc I φ A x)) u := by
      clear hr
      cases hr1 with
      | ag _ vs us hl hv hr => exact .ag _ vs us hl hv fun j t hj => scalar_rep A h x t _ (List.mem_of_getElem? hj) (hr j t hj)
    cases d <;> exact this
def OwnSt (so : St L) : Prop := ∀ k r, get so.sto k = some r → ∀ c ∈ r.cells, ∃ d v, c.e = .o d v ∧ ownC d v.ty = true
theorem inv_own {so : St L} {g' : G} {w w' : World} {F0 F1 : Nat → Prop} (h' : Inv P I φ (callBase w F1) so g' w') (hsub : ∀ b, F0 b → F1 b) (hF0 : ∀ b, F0 b → b < w.heap.size) (ho : OwnSt so) : Inv P I φ (callBase w F0) so { g' with F := F0 } w' := by
  refine ⟨⟨fun k r hr => ?_, fun k k' r r' h1 h2 => h'.s.apart k k' r r' h1 h2, fun k r hr b hb => ?_⟩, ⟨h'.k.os, h'.k.tape, h'.k.output, h'.k.size, h'.k.block, fun b hb => hb, fun b hb => .inl hb, fun k r hr b hb => h'.k.B k r hr b hb⟩, h'.c, fun b hb => Nat.lt_of_lt_of_le (hF0 b hb) h'.k.size, ⟨h'.gl.1, fun _ _ h => h⟩⟩
  · obtain ⟨h1, Bs, hsp, hc⟩ := h'.s.root k r hr
    refine ⟨h1, Bs, hsp, fun j e hj => ?_⟩
    obtain ⟨u, hu, he⟩ := hc j e hj
    refine ⟨u, hu, ?_⟩
    rw [get_injS] at hr
    cases hg : get so.sto k with
    | none => rw [hg] at hr; cases hr
    | some r0 =>
      rw [hg] at hr
      have hr : some (injR I φ so r0) = some r := hr
      obtain rfl := Option.some.inj hr
      simp only [injR, List.getElem?_map, Option.map_eq_some_iff] at hj
      obtain ⟨c, hcj, rfl⟩ := hj
      obtain ⟨d, v, hce, hoc⟩ := ho k r0 hg c (List.mem_of_getElem? hcj)
      rw [hce] at he ⊢
      exact repM_own (F' := F0) hoc he
  · obtain ⟨h1, h2⟩ := h'.s.own k r hr b hb
    exact ⟨fun h => h1 (h'.k.F b (hsub b h)), h2⟩
def OwnA (x : AV L) : Prop := (∃ l, x = .ar l) ∨ (∃ l, x = .pt l) ∨ ∃ v : L, x = .lf v ∧ v.ty.scalar = true
theorem arep_own1 {so : St L} {g' : G} {w' : World} {F0 : Nat → Prop} {x : AV L} {u : Value} (ho : OwnA x) (h : ARep P I φ so g' w' x u) : ARep P I φ so { g' with F := F0 } w' x u := by
  rcases ho with ⟨l, rfl⟩ | ⟨l, rfl⟩ | ⟨v, rfl, hv⟩
  · cases h with
    | ar _ _ hb h => exact .ar l u hb h
  · cases h with
    | pt _ b o hb h => exact .pt l b o hb h
  · exact .lf _ _ (scalar_repL hv (arep_lf h))
theorem res_own {so : St L} {g' : G} {w' : World} {F0 : Nat → Prop} {many : Bool} {u : Value} (ho : ∀ x ∈ vals so.env, OwnA x) (h : ResRep P I φ many [] so g' w' u) : ResRep P I φ many [] so { g' with F := F0 } w' u := by
  intro x hx
  have hx' : resA many (vals so.env) = some x := hx
  have h := h x hx
  cases many with
  | true =>
    simp only [resA, Option.some.injEq] at hx'
    subst hx'
    cases h with
    | tu _ vs us hl hv hr => exact .tu _ vs us hl hv fun j c hj => arep_own1 (ho c (List.mem_of_getElem? hj)) (hr j c hj)
  | false =>
    simp only [resA] at hx'
    split at hx'
    · rename_i y hy
      simp only [Option.some.injEq] at hx'
      subst hx'
      exact arep_own1 (ho y (by rw [hy]; simp)) h
    · cases hx'
theorem ownP_vals : ∀ {env : List (Nat × AV L)} {env' : List (Nat × AV Ty)}, ownP (patsOf env') = true → @sameE L (semL cs) env env' = true → ∀ x ∈ vals env, OwnA x
  | [], _, _, _, x, hx => by simp [vals] at hx
  | (k, y) :: env, [], _, hs, x, hx => by simp [sameE] at hs
  | (k, y) :: env, (k', p) :: env', h, hs, x, hx => by
    simp only [sameE, Bool.and_eq_true] at hs
    simp only [vals, List.mem_cons] at hx
    have hrest : ownP (patsOf env') = true ∧ (x = y → OwnA y) := by
      cases p with
      | lf t =>
        simp only [patsOf, ownP, Bool.and_eq_true] at h
        refine ⟨h.2, fun _ => ?_⟩
        cases y with
        | lf v =>
          have h2 := hs.2.1
          simp only [sameA, sameA1, decide_eq_true_eq] at h2
          exact .inr (.inr ⟨v, rfl, by have h3 : v.ty = t := h2; rw [h3]; exact h.1⟩)
        | _ => have h2 := hs.2.1; cases h2
      | ar l =>
        simp only [patsOf, ownP] at h
        refine ⟨h, fun _ => ?_⟩
        cases y with
        | ar l' => exact .inl ⟨_, rfl⟩
        | _ => have h2 := hs.2.1; cases h2
      | pt l =>
        simp only [patsOf, ownP] at h
        refine ⟨h, fun _ => ?_⟩
        cases y with
        | pt l' => exact .inr (.inl ⟨_, rfl⟩)
        | _ => have h2 := hs.2.1; cases h2
      | _ => simp only [patsOf, ownP] at h; cases h
    rcases hx with rfl | hx
    · exact hrest.2 rfl
    · exact ownP_vals hrest.1 hs.2.2 x hx
theorem ownE_cells : ∀ {cl : List (Cell L)} {cl' : List (Cell Ty)}, ownE cl' = true → @sameC L (semL cs) cl cl' = true → ∀ c ∈ cl, ∃ d v, c.e = .o d v ∧ ownC d v.ty = true
  | [], _, _, _, c, hc => by cases hc
  | ⟨s, e⟩ :: r, [], _, h2, c, hc => by cases e <;> simp [sameC] at h2
  | ⟨s, e⟩ :: r, ⟨s', e'⟩ :: r', h1, h2, c, hc => by
    cases e' with
    | o d' t =>
      cases e with
      | o d v =>
        simp only [ownE, Bool.and_eq_true] at h1
        simp only [sameC, Bool.and_eq_true, decide_eq_true_eq] at h2
        rcases List.mem_cons.1 hc with rfl | hc
        · refine ⟨d, v, rfl, ?_⟩
          have h3 : v.ty = t := h2.2.2.1
          rw [h3, (beq_iff _ _).1 h2.2.1]
          exact h1.1
        · exact ownE_cells h1.2 h2.2.2.2 c hc
      | _ => simp [sameC] at h2
    | _ => simp [ownE] at h1
theorem ownS_own {so : St L} {sh : St Ty} (h1 : ownS sh.sto = true) (h2 : @sameR L (semL cs) so.sto sh.sto = true) : OwnSt so := by
  intro k r hr
  have hm := mem_of_get hr
  have : ∀ (l : List (Nat × Root L)) (l' : List (Nat × Root Ty)), ownS l' = true → @sameR L (semL cs) l l' = true → ∀ p ∈ l, ∀ c ∈ p.2.cells, ∃ d v, c.e = .o d v ∧ ownC d v.ty = true := by
    intro l
    induction l with
    | nil => intro _ _ _ p hp; cases hp
    | cons q l ih =>
      obtain ⟨k0, x⟩ := q
      intro l' h1 h2 p hp
      cases l' with
      | nil => simp [sameR] at h2
      | cons q' l' =>
        obtain ⟨k1, y⟩ := q'
        simp only [ownS, Bool.and_eq_true] at h1
        simp only [sameR, Bool.and_eq_true] at h2
        rcases List.mem_cons.1 hp with rfl | hp
        · exact ownE_cells h1.1 h2.2.2.2.1
        · exact ih l' h1.2 h2.2.2.2.2 p hp
  exact this so.sto sh.sto h1 h2 _ hm
end Go.Y
namespace Go.Y
open Go.Eng (T RepT RepM SRep Kept Base G SameOn VRep Split Live Free kn Owns ownB RootOk ERep)
variable {P : Program} {I : Ids} {φ : FnP} {β : Base} {nt : Nat} {cs : List (Nat × Con)}
variable {ρ : Type} {ls : List (Nat × LoopC ρ)} {r : ρ} {tb : Tabs} {st : St L} {gd : Option (Gd L)} {k : St L → Option ρ} {o : Oper}
theorem selK_some {g : Option L} : ∀ (ps : List (AV Ty)) (xs acc : List (AV L)) {f : List (AV L) → Option ρ}, @selK L (Option ρ) (semL cs) (semF ρ) st g ps xs acc f = some r →
    ∃ ys, f (acc.reverse ++ ys) = some r ∧ ys.length = xs.length ∧ ∀ (j : Nat) x y, xs[j]? = some x → ys[j]? = some y → y = x ∨ ∃ v, y = .lf v ∧ pk cs st x = some v
  | [], [], acc, f, h => by
    simp only [selK] at h
    exact ⟨[], by simpa using h, rfl, fun j x y hj => by simp at hj⟩
  | p :: ps, x :: xs, acc, f, h => by
    have step : ∀ y, (y = x ∨ ∃ v, y = .lf v ∧ pk cs st x = some v) → @selK L (Option ρ) (semL cs) (semF ρ) st g ps xs (y :: acc) f = some r → ∃ ys, f (acc.reverse ++ ys) = some r ∧ ys.length = (x :: xs).length ∧ ∀ (j : Nat) x1 y, (x :: xs)[j]? = some x1 → ys[j]? = some y → y = x1 ∨ ∃ v, y = .lf v ∧ pk cs st x1 = some v := by
      intro y hy h1
      obtain ⟨ys, h2, h3, h4⟩ := selK_some ps xs (y :: acc) h1
      refine ⟨y :: ys, by simpa using h2, by simp [h3], fun j x1 y1 hj hk => ?_⟩
      cases j with
      | zero =>
        simp only [List.getElem?_cons_zero, Option.some.injEq] at hj hk
        subst hj; subst hk
        exact hy
      | succ j => exact h4 j x1 y1 (by simpa using hj) (by simpa using hk)
    simp only [selK] at h
    split at h
    · obtain ⟨v, hv, h1⟩ := peek_pk h
      exact step _ (.inr ⟨v, rfl, hv⟩) h1
    · exact step x (.inl rfl) h
  | [], _ :: _, acc, f, h => by simp only [selK] at h; cases h
  | _ :: _, [], acc, f, h => by simp only [selK] at h; cases h
theorem allStat1_mem : ∀ {cs : List (AV L)}, allStat1 cs = true → ∀ c ∈ cs, stat1 c = true
  | [], _, c, hc => by simp at hc
  | x :: r, h, c, hc => by
    simp only [allStat1, Bool.and_eq_true] at h
    rcases List.mem_cons.1 hc with rfl | hc
    · exact h.1
    · exact allStat1_mem h.2 c hc
theorem allStat_get : ∀ {ys : List (AV L)}, allStat ys = true → ∀ (j : Nat) y, ys[j]? = some y → statA y = true
  | [], _, j, y, hj => by simp at hj
  | x :: r, h, j, y, hj => by
    simp only [allStat, Bool.and_eq_true] at h
    cases j with
    | zero => simp only [List.getElem?_cons_zero, Option.some.injEq] at hj; subst hj; exact h.1
    | succ j => exact allStat_get h.2 j y (by simpa using hj)
theorem stat1_arep {st st0 : St L} {g g0 : G} {w : World} {y : AV L} {u : Value} (hs : stat1 y = true) (hF : ∀ b, g.F b → g0.F b) (h : ARep P I φ st g w y u) : ARep P I φ st0 g0 w y u := by
  cases h with
  | lf v u h => exact .lf v u (h.mono (SameOn.refl _ w) hF)
  | tl v b n h => exact .tl v b n (h.mono (SameOn.refl _ w) hF)
  | fp v b o us h1 h2 h3 => exact .fp v b o us (hF _ h1) h2 fun j t hj => (h3 j t hj).mono (SameOn.refl _ w) hF
  | _ => cases hs
theorem statA_arep {st st0 : St L} {g g0 : G} {w : World} {y : AV L} {u : Value} (hs : statA y = true) (hF : ∀ b, g.F b → g0.F b) (h : ARep P I φ st g w y u) : ARep P I φ st0 g0 w y u := by
  cases y with
  | lf v => exact stat1_arep rfl hF h
  | tl v => exact stat1_arep rfl hF h
  | fp v => exact stat1_arep rfl hF h
  | zs e a => cases h with | zs _ _ _ h4 => exact .zs e a u h4
  | fn f cs => cases h with
    | fn _ _ vs us hl hv hr => exact .fn f cs vs us hl hv fun j c hj => stat1_arep (allStat1_mem hs c (List.mem_of_getElem? hj)) hF (hr j c hj)
  | _ => cases hs
theorem allLf_vals : ∀ {env : List (Nat × AV L)} {env' : List (Nat × AV Ty)}, allLf (patsOf env') = true → @sameE L (semL cs) env env' = true → ∀ x ∈ vals env, ∃ v : L, x = .lf v ∧ v.ty.scalar = true
  | [], _, _, _, x, hx => by simp [vals] at hx
  | (k, y) :: env, [], _, hs, x, hx => by simp [sameE] at hs
  | (k, y) :: env, (k', p) :: env', h, hs, x, hx => by
    simp only [sameE, Bool.and_eq_true] at hs
    cases p with
    | lf t =>
      simp only [patsOf, allLf, Bool.and_eq_true] at h
      rcases List.mem_cons.1 hx with rfl | hx
      · cases x with
        | lf v =>
          have h1 : v.ty = t := of_decide_eq_true hs.2.1
          exact ⟨v, rfl, by rw [h1]; exact h.1⟩
        | _ => simp [sameA, sameA1] at hs
      · exact allLf_vals h.2 hs.2.2 x hx
    | _ => simp only [patsOf, allLf] at h; cases h
theorem scalar_arep {so : St L} {g' : G} {w' : World} {u : Value} {many : Bool} {xs : List (AV L)} {x : AV L} (hx : resA many xs = some x) (hl : ∀ x ∈ xs, ∃ v : L, x = .lf v ∧ v.ty.scalar = true) (ha : ARep P I φ so g' w' x u) (st : St L) (g : G) :
    ARep P I φ st g w' x u := by
  cases many with
  | true =>
    simp only [resA, Option.some.injEq] at hx
    subst hx
    cases ha with
    | tu _ vs us h1 hv hr =>
      refine .tu _ vs us h1 hv fun j c hj => ?_
      obtain ⟨v, rfl, hs⟩ := hl c (List.mem_of_getElem? hj)
      exact .lf _ _ (scalar_repL hs (arep_lf (hr j _ hj)))
  | false =>
    simp only [resA] at hx
    split at hx
    · rename_i x0
      simp only [Option.some.injEq] at hx
      subst hx
      obtain ⟨v, hv, hs⟩ := hl x0 (by simp)
      subst hv
      exact .lf _ _ (scalar_repL hs (arep_lf ha))
    · cases hx
theorem call2_ok {f : FuncId} {key : Nat} {sg : Sig} {xs : List (AV L)} (hC : CallsOk P I φ cs tb) (hf : FnsOk φ cs) (hsg : get tb.sigs key = some sg) (hkf : fnOf key = f) (hd : ∀ d, o.dst = some d → d < nt) (hself : selfOk gd o.dst = true)
    (hex : ∀ (ac : Act) (w : World) (g : G), Inv P I φ β st g w → EnvR P I φ st g w st.env ac.tmps → GnvR P I φ st g w st.gnv ac.tmps → Hold ac.tmps (keysOf gd) →
      ∃ us : Array Value, us.size = xs.length ∧ (∀ (j : Nat) x, xs[j]? = some x → ∃ u, us[j]? = some u ∧ ARep P I φ st g w x u) ∧
        ∀ fn, P.funcs[f]? = some fn → (fn.name == "runtime.NumGoroutine") = false → fn.body.isNone = false → (execOp ac.eval o).run P w = .ok (.enter f us) w)
    {rts : Bool} (h : @call2 L (Option ρ) (semL cs) (semF ρ) (semR ρ cs ls) st gd o.dst rts key sg xs k = some r) : ∃ st', k st' = some r ∧ Does P I φ β nt o st gd st' := by
  unfold call2 at h
  simp only at h
  have h1 := h
  clear h
  split at h1
  · split at h1
    · split at h1
      · exact callR_ok hC hf hsg hkf hd hself hex h1
      · rename_i gd1
        cases hdst : o.dst with
        | none => rw [hdst] at h1; cases h1
        | some d1 =>
          rw [hdst] at h1
          simp only at h1
          obtain ⟨z, _, h⟩ := oCase_some h1
          clear h1
          have h : (match gd1.c.bool with | some c => pIf c (@callR L (Option ρ) (semL cs) (semF ρ) (semR ρ cs ls) st (some d1) key sg xs k) (k (putE st (some gd1) d1 z)) | none => none) = some r := h
          cases hb : gd1.c.bool with
          | none => rw [hb] at h; cases h
          | some b =>
            rw [hb] at h
            cases b with
            | true =>
              have h : @callR L (Option ρ) (semL cs) (semF ρ) (semR ρ cs ls) st (some d1) key sg xs k = some r := h
              rw [← hdst] at h
              obtain ⟨st', h2, h3⟩ := callR_ok0 (HH := fun ac => Hold ac.tmps (keysOf (some gd1))) (β := β) (nt := nt) hC hf hsg hkf hd (by simp [selfOk]) hex h
              refine ⟨st', h2, fun ac w g hR hG hon' K Q hK => h3 ac w g hR (hold_of hG hon') K Q hK, fun ac w g gd' hgd hR hG hoff => ?_⟩
              cases hgd
              rw [hb] at hoff
              cases hoff
            | false =>
              have h : k (putE st (some gd1) d1 z) = some r := h
              refine ⟨_, h, fun ac w g hR hG hon' K Q hK => ?_, fun ac w g gd' hgd hR hG hoff => ?_⟩
              · have := hon' _ rfl
                rw [hb] at this
                cases this
              · cases hgd
                rw [hdst] at hself ⊢
                exact ⟨g, (Pass.refl _ _ _).putE _ _ _, rel_skip (hd d1 hdst) hR.defers hR.size hG hoff (selfOk_iff hself) rfl rfl hR.e hR.n (Pass.refl _ _ _) hR.i⟩
    · cases h1
  · rename_i hins
    obtain ⟨ys, h, hyl, hys⟩ := selK_some _ _ _ h1
    clear h1
    simp only [List.reverse_nil, List.nil_append] at h
    split at h
    · cases h
    · rename_i hsame
      rw [Bool.and_eq_true, Bool.and_eq_true, List.isEmpty_iff] at hsame
      obtain ⟨hsame, hkeep0, haltg⟩ := hsame
      obtain ⟨vs, hvs, h1⟩ := oCase_some h
      clear h
      have hst0 : allStat ys = true ∧ leafs.go1 (zipN 0 ys) = vs := by
        cases hq : allStat ys with
        | false => rw [hq] at hvs; cases hvs
        | true => rw [hq] at hvs; exact ⟨rfl, Option.some.inj hvs⟩
      obtain ⟨hstat, hgo⟩ := hst0
      have hty : vs.map (·.ty) = leafs sg.ins := by
        have := sameE_ty hsame
        rw [hgo] at this
        rw [this]
        unfold leafs
        rw [hins]
        simp [leafs.go2]
      have hfill : fill sg.ins vs = ⟨zipN 0 ys, [], []⟩ := by
        have h2 : @sameSt L (semL cs) ⟨zipN 0 ys, [], []⟩ sg.ins = true := by
          unfold sameSt
          rw [hsame, hins]; rfl
        have h3 := fill_same h2 rfl
        have h4 : leafs (⟨zipN 0 ys, [], []⟩ : St L) = vs := by
          show leafs.go1 (zipN 0 ys) ++ leafs.go2 [] = vs
          rw [hgo]; simp [leafs.go2]
        rw [h4] at h3
        exact h3
      have hlen : sg.ins.env.length = ys.length := by
        have h2 := congrArg (fun s : St L => s.env.length) hfill
        simp only [fill_len] at h2
        rw [h2]
        have : ∀ (n : Nat) (l : List (AV L)), (zipN n l).length = l.length := by
          intro n l
          induction l generalizing n with
          | nil => rfl
          | cons x l ih => simp [zipN, ih]
        exact this _ _
      obtain ⟨con, x, hcon, hx, rv, h, hon⟩ := call_some h1
      clear h1
      obtain ⟨hfn, hB, hrunC⟩ := hC key sg con hsg hcon
      rw [hkf] at hfn hrunC
      obtain ⟨fn, hfn1, hfn2, hfn3⟩ := hfn
      have main : ∃ st', k st' = some r ∧ Does P I φ β nt o st gd st' := by
        · skip
          have hargs : ∀ (w : World) (g : G) (us : Array Value), Inv P I φ β st g w → us.size = xs.length → (∀ (j : Nat) x, xs[j]? = some x → ∃ u, us[j]? = some u ∧ ARep P I φ st g w x u) →
              ∃ g1, Pass P I φ st g w (freezeAll st xs) g1 w ∧ Inv P I φ β (freezeAll st xs) g1 w ∧ us.size = ys.length ∧ ∀ (j : Nat) y, ys[j]? = some y → ∃ u, us[j]? = some u ∧ ∀ (st0 : St L) (g0 : G), g0.F = g1.F → ARep P I φ st0 g0 w y u := by
            intro w g us hi hus hxs
            obtain ⟨g1, hp1, hi1, h2⟩ := freezeAll_ok hf xs st g hi
            refine ⟨g1, hp1, hi1, by rw [hus, hyl], fun j y0 hy0 => ?_⟩
            have hjl := lt_of_get hy0
            obtain ⟨x0, hx0⟩ : ∃ x0, xs[j]? = some x0 := ⟨xs[j]'(by omega), List.getElem?_eq_getElem _⟩
            obtain ⟨u, hu1, hu2⟩ := hxs j x0 hx0
            refine ⟨u, hu1, fun st0 g0 hg0 => ?_⟩
            rcases hys j x0 y0 hx0 hy0 with e | ⟨v2, e, hpk⟩
            · subst e
              exact statA_arep (allStat_get hstat j _ hy0) (fun b hb => by rw [hg0]; exact hp1.F b hb) hu2
            · subst e
              exact .lf v2 u (by rw [hg0]; exact h2 j x0 v2 u hx0 hpk hu2)
          cases hdst : o.dst with
          | none => rw [hdst] at h; cases h
          | some d =>
            rw [hdst] at h
            simp only at h
            obtain ⟨oo, xx, h2, hout⟩ := altK_some h
            clear h
            have h := h2
            clear h2
            unfold call1P at h
            obtain ⟨rs, hrs0, h1⟩ := oCase_some h
            clear h
            simp only at h1
            have hrs := hout cs rs hrs0
            have hself' := hself
            rw [hdst] at hself'
            have hcall : ∀ (ac : Act) (w : World) (g g1 : G) (us : Array Value) (K : Act → World → Prop) (Q : Exit → Act → World → Prop), On gd → GlobW I w → (∀ b, g1.F b → b < w.heap.size) → us.size = ys.length → (∀ (j : Nat) y, ys[j]? = some y → ∃ u, us[j]? = some u ∧ ∀ (st0 : St L) (g0 : G), g0.F = g1.F → ARep P I φ st0 g0 w y u) →
                (execOp ac.eval o).run P w = .ok (.enter f us) w → (∀ w' u g', Inv P I φ (callBase w g1.F) (fill oo rs) g' w' → ResRep P I φ sg.many [] (fill oo rs) g' w' u → K (ac.put (some d) u) w') → o.wp P ac w K Q := by
              intro ac w g g1 us K Q hon' hgw hF hus hrep hexec hK
              unfold Oper.wp
              rw [hexec, Oper.upon_enter, hdst]
              refine Calls.mono (hrunC x rv (hon (onL_of hon')) vs hx hty (callBase w g1.F) w ⟨g1.F, fun _ _ => False, fun _ => 0, fun _ _ => undef⟩ us (by rw [hfill]; exact inv_none hF hgw _) (by rw [hus, hlen]) (fun j y hy => by
                rw [hfill] at hy ⊢
                simp only [zipN_get, Nat.zero_le, if_true, Nat.sub_zero] at hy
                obtain ⟨u, hu, hr⟩ := hrep j y hy
                exact ⟨u, hu, hr _ _ rfl⟩)) fun e w' ⟨u, he, g', oo', rs', hl, hi', hr', _⟩ => ?_
              subst he
              have hrs' : oo = oo' ∧ rs = rs' := by
                have := hl cs
                rw [hrs, Option.some.injEq, Prod.mk.injEq] at this
                exact this
              obtain ⟨rfl, rfl⟩ := hrs'
              rw [hkeep0] at hr'
              exact hK w' u g' hi' hr'
            split at h1
            ·
              rename_i hkeep
              split at h1
              · rename_i hse
                obtain ⟨y, hy, h2⟩ := oCase_some h1
                clear h1
                refine ⟨_, h2, fun ac w g hR hG hon' K Q hK => ?_, fun ac w g gd' hgd hR hG hoff => ?_⟩
                · obtain ⟨us, hus, hxs, hexec⟩ := hex ac w g hR.i hR.e hR.n (hold_of hG hon')
                  obtain ⟨g1, hp1, hi1, hus2, hrep⟩ := hargs w g us hR.i hus hxs
                  refine hcall ac w g g1 us K Q hon' hi1.globW hi1.f hus2 hrep (hexec fn hfn1 hfn2 hfn3) fun w' u g' hi' hr' => ?_
                  obtain ⟨hp2, hi2, _⟩ := inv_grow hR.i (w' := w') (fun b hb => hi'.k.block b hb (fun h => h)) hi'.k.size hi'.k.os hi'.k.tape hi'.k.output
                  have hkl : allLf (patsOf oo.env) = true := by unfold keepB at hkeep; simp only [Bool.and_eq_true] at hkeep; exact hkeep.1
                  have hy' := scalar_arep hy (allLf_vals hkl hse) (hr' y hy) st g
                  exact hK _ _ g (hp2.putE _ _ _) (rel_put (hd d hdst) hR.defers hR.size hG hon' (selfOk_iff hself') rfl rfl hR.e hR.n hp2 hi2 hy') fun s hs => put_ne ac u (by rw [← hdst]; exact hs)
                · subst hgd
                  rw [hdst]
                  exact ⟨g, (Pass.refl _ _ _).putE _ _ _, rel_skip (hd d hdst) hR.defers hR.size hG hoff (selfOk_iff hself') rfl rfl hR.e hR.n (Pass.refl _ _ _) hR.i⟩
              · cases h1
            · split at h1
              ·
                rename_i hso
                obtain ⟨y, hy, h2⟩ := oCase_some h1
                clear h1
                have henv := freezeAll_env xs st
                refine ⟨_, h2, fun ac w g hR hG hon' K Q hK => ?_, fun ac w g gd' hgd hR hG hoff => ?_⟩
                · obtain ⟨us, hus, hxs, hexec⟩ := hex ac w g hR.i hR.e hR.n (hold_of hG hon')
                  obtain ⟨g1, hp1, hi1, hus2, hrep⟩ := hargs w g us hR.i hus hxs
                  refine hcall ac w g g1 us K Q hon' hi1.globW hi1.f hus2 hrep (hexec fn hfn1 hfn2 hfn3) fun w' u g' hi' hr' => ?_
                  obtain ⟨hp2, hi2, ha2⟩ := call_merge hi1 hi' (by rw [hso]; simp)
                  have hst : ({ freezeAll st xs with sto := putAll (fill oo rs).sto (freezeAll st xs).sto } : St L) = freezeAll st xs := by rw [hso]; rfl
                  rw [hst] at hp2 hi2 ha2
                  have hp := hp1.trans hp2
                  exact hK _ _ _ (hp.putE _ _ _) (rel_put (hd d hdst) hR.defers hR.size hG hon' (selfOk_iff hself') henv.1 henv.2 hR.e hR.n hp hi2 (ha2 _ _ (hr' y hy))) fun s hs => put_ne ac u (by rw [← hdst]; exact hs)
                · subst hgd
                  rw [hdst]
                  obtain ⟨g1, hp1, hi1, _⟩ := freezeAll_ok hf xs st g hR.i
                  exact ⟨g1, hp1.putE _ _ _, rel_skip (hd d hdst) hR.defers hR.size hG hoff (selfOk_iff hself') henv.1 henv.2 hR.e hR.n hp1 hi1⟩
              ·
                split at h1
                · rename_i hkf
                  simp only [Bool.and_eq_true] at hkf
                  obtain ⟨y, hy, h2⟩ := oCase_some h1
                  clear h1
                  cases hko : (keepO { sg with out := oo } && @sameSt L (semL cs) (fill oo rs) oo) with
                  | false =>
                    rw [hko] at hkf h2
                    have henv := freezeAll_env xs st
                    refine ⟨_, h2, fun ac w g hR hG hon' K Q hK => ?_, fun ac w g gd' hgd => by cases hgd⟩
                    obtain ⟨us, hus, hxs, hexec⟩ := hex ac w g hR.i hR.e hR.n (hold_of hG hon')
                    obtain ⟨g1, hp1, hi1, hus2, hrep⟩ := hargs w g us hR.i hus hxs
                    refine hcall ac w g g1 us K Q hon' hi1.globW hi1.f hus2 hrep (hexec fn hfn1 hfn2 hfn3) fun w' u g' hi' hr' => ?_
                    have hnd := nodupN_iff.1 hkf.2
                    have hi3 := inv_ren hnd hi'
                    obtain ⟨hp2, hi2, ha2⟩ := call_merge hi1 hi3 (keysFree_mem hkf.1)
                    have hp := hp1.trans hp2
                    have hyr := res_ren hnd hi'.c hr' y hy
                    exact hK _ _ _ (hp.putE _ _ _) (rel_put (st' := { freezeAll st xs with sto := putAll (renSt (backM d oo.sto) (fill oo rs)).sto (freezeAll st xs).sto }) (hd d hdst) hR.defers hR.size hG hon' (by simp [gdKeys]) henv.1 henv.2 hR.e hR.n hp hi2 (ha2 _ _ hyr)) fun s hs => put_ne ac u (by rw [← hdst]; exact hs)
                  | true =>
                    rw [hko] at hkf h2
                    simp only [Bool.and_eq_true] at hko
                    obtain ⟨hko1, hko2⟩ := hko
                    unfold keepO at hko1
                    unfold sameSt at hko2
                    simp only [Bool.and_eq_true] at hko1 hko2
                    refine ⟨_, h2, fun ac w g hR hG hon' K Q hK => ?_, fun ac w g gd' hgd => by cases hgd⟩
                    obtain ⟨us, hus, hxs, hexec⟩ := hex ac w g hR.i hR.e hR.n (hold_of hG hon')
                    obtain ⟨g1, hp1, hi1, hus2, hrep⟩ := hargs w g us hR.i hus hxs
                    refine hcall ac w g g1 us K Q hon' hi1.globW hi1.f hus2 hrep (hexec fn hfn1 hfn2 hfn3) fun w' u g' hi' hr' => ?_
                    have hi0 := inv_own (F0 := g.F) hi' hp1.F hR.i.f (ownS_own hko1.2.2 hko2.2)
                    have hr0 := res_own (F0 := g.F) (ownP_vals hko1.1 hko2.1) hr'
                    have hnd := nodupN_iff.1 hkf.2
                    have hi3 := inv_ren hnd hi0
                    obtain ⟨hp2, hi2, ha2⟩ := call_merge hR.i hi3 (keysFree_mem hkf.1)
                    have hyr := res_ren hnd hi0.c hr0 y hy
                    exact hK _ _ _ (hp2.putE _ _ _) (rel_put (st := st) (st' := { st with sto := putAll (renSt (backM d oo.sto) (fill oo rs)).sto st.sto }) (hd d hdst) hR.defers hR.size hG hon' (by simp [gdKeys]) rfl rfl hR.e hR.n hp2 hi2 (ha2 _ _ hyr)) fun s hs => put_ne ac u (by rw [← hdst]; exact hs)
                · cases h1
              · cases h1
      exact main
theorem exec_enter {c : Call} {f : FuncId} {fn : Func} {cap : Array Value} {xf : Operand} {ac : Act} {w : World} (ho : o.op = .call c) (hb : c.callee = .value xf) (hf : ac.eval xf = .func (.func f) #[] cap)
    (hfn : P.funcs[f]? = some fn) (hn : (fn.name == "runtime.NumGoroutine") = false) (hbd : fn.body.isNone = false) : (execOp ac.eval o).run P w = .ok (.enter f (c.args.map ac.eval ++ cap)) w := by
  unfold execOp
  simp only [ho]
  unfold resolve
  simp only [hb, hf, Deferred.ofValue, Sem.run_bind, Sem.run_pure, Result.andThen_ok]
  unfold invoke callFunc
  have hn1 : fn.name ≠ "runtime.NumGoroutine" := by simpa using hn
  have hb1 : fn.body ≠ none := by intro e; rw [e] at hbd; cases hbd
  simp [hfn, hn1, hb1]
theorem call1_ok {f : FuncId} {xs : List (AV L)} (hC : CallsOk P I φ cs tb) (hf : FnsOk φ cs) (hd : ∀ d, o.dst = some d → d < nt) (hself : selfOk gd o.dst = true)
    (hex : ∀ (ac : Act) (w : World) (g : G), Inv P I φ β st g w → EnvR P I φ st g w st.env ac.tmps → GnvR P I φ st g w st.gnv ac.tmps → Hold ac.tmps (keysOf gd) →
      ∃ us : Array Value, us.size = xs.length ∧ (∀ (j : Nat) x, xs[j]? = some x → ∃ u, us[j]? = some u ∧ ARep P I φ st g w x u) ∧
        ∀ fn, P.funcs[f]? = some fn → (fn.name == "runtime.NumGoroutine") = false → fn.body.isNone = false → (execOp ac.eval o).run P w = .ok (.enter f us) w)
    {rts : Bool} (h : @call1 L (Option ρ) (semL cs) (semF ρ) (semR ρ cs ls) tb st gd o.dst rts f xs k = some r) : ∃ st', k st' = some r ∧ Does P I φ β nt o st gd st' := by
  unfold call1 at h
  split at h
  · cases h
  · rename_i hlt
    obtain ⟨p, hp, h1⟩ := oCase_some h
    clear h
    obtain ⟨h2, h3⟩ := pickSig_some hp
    exact call2_ok hC hf h2 (h3.trans (fnOf_lt hlt)) hd hself hex h1
theorem op_call {c : Call} {xf : Operand} (hC : CallsOk P I φ cs tb) (hf : FnsOk φ cs) (ho : o.op = .call c) (hb : c.callee = .value xf) (hd : ∀ d, o.dst = some d → d < nt) (hself : selfOk gd o.dst = true)
    (f : FuncId) (cap : List (AV L)) (hcal : ∀ (ac : Act) (w : World) (g : G), EnvR P I φ st g w st.env ac.tmps → GnvR P I φ st g w st.gnv ac.tmps → Hold ac.tmps (keysOf gd) → ARep P I φ st g w (.fn f cap) (ac.eval xf))
    (h : @opK.evs L (Option ρ) (semL cs) (semF ρ) tb st gd (c.argTypes.toList.zip c.args.toList) [] (fun xs => @call1 L (Option ρ) (semL cs) (semF ρ) (semR ρ cs ls) tb st gd o.dst (isFn xf) f (xs ++ cap) k) = some r) (hlen : c.argTypes.size = c.args.size) :
    ∃ st', k st' = some r ∧ Does P I φ β nt o st gd st' := by
  obtain ⟨xs, h1, hl, hxs⟩ := evs_some h
  simp only [List.reverse_nil, List.nil_append] at h1
  refine call1_ok hC hf hd hself (fun ac w g hi he hn hh => ?_) h1
  have ha := hcal ac w g he hn hh
  generalize hu : ac.eval xf = u at ha
  cases ha with
  | fn _ _ vs us hvl hv hr =>
    have hxl : xs.length = c.args.size := by rw [hl]; simp [hlen]
    refine ⟨c.args.map ac.eval ++ vs, by simp [hxl, hvl], fun j x hj => ?_, fun fn hfn hn' hbd => exec_enter ho hb hu hfn hn' hbd⟩
    by_cases hjl : j < xs.length
    · rw [List.getElem?_append_left hjl] at hj
      have hjc : j < c.args.size := by omega
      refine ⟨ac.eval c.args[j], by rw [Array.getElem?_append_left (by simpa using hjc)]; simp [hjc], ?_⟩
      obtain ⟨y, hy1, hy2⟩ := hxs j (c.argTypes[j]'(by omega), c.args[j]) (by
        rw [List.getElem?_zip_eq_some]
        exact ⟨by simp [show j < c.argTypes.size by omega], by simp [hjc]⟩)
      rw [hj, Option.some.injEq] at hy1
      subst hy1
      exact evalO_ok he hn hh hy2
    · rw [List.getElem?_append_right (by omega)] at hj
      refine ⟨us (j - xs.length), ?_, hr _ x hj⟩
      rw [Array.getElem?_append_right (by simp; omega)]
      simp only [Array.size_map]
      rw [← hxl]
      exact hv _ x hj
end Go.Y
namespace Go.Y
open Go.Eng (T RepT RepM SRep Kept Base G SameOn VRep Split Live Free kn Owns ownB RootOk ERep HPred)
variable {P : Program} {I : Ids} {φ : FnP} {β : Base} {nt : Nat} {cs : List (Nat × Con)}
variable {ρ : Type} {ls : List (Nat × LoopC ρ)} {r : ρ} {tb : Tabs} {st : St L} {gd : Option (Gd L)} {k : St L → Option ρ} {o : Oper}
def Ty.fnf : Ty → Bool
  | .pair a b => a.fnf && b.fnf
  | .st f => f.fnf
  | .sl _ a => a.fnf
  | .ptr _ a => a.fnf
  | .fn _ _ => false
  | _ => true
theorem trc_fnf {φ φ' : FnP} : ∀ (A : Ty), A.fnf = true → ∀ x : A.den, trc I φ A x = trc I φ' A x
  | .unit, _, x => rfl
  | .bool, _, x => rfl
  | .int k, _, x => rfl
  | .str, _, x => rfl
  | .err, _, x => rfl
  | .pair a b, h, x => by
    simp only [Ty.fnf, Bool.and_eq_true] at h
    show trc I φ a x.1 ++ trc I φ b x.2 = trc I φ' a x.1 ++ trc I φ' b x.2
    rw [trc_fnf (φ' := φ') a h.1, trc_fnf (φ' := φ') b h.2]
  | .st f, h, x => trc_fnf f h x
  | .sl e a, h, x => by
    have : ∀ y : a.den, trc I φ a y = trc I φ' a y := trc_fnf a h
    simp only [trc, this]
  | .ptr e a, h, x => by
    have : ∀ y : a.den, trc I φ a y = trc I φ' a y := trc_fnf a h
    cases x with
    | none => rfl
    | some y => simp only [trc, this]
  | .fn a b, h, x => by cases h
theorem trL_fnf {φ φ' : FnP} {v : L} (h : v.ty.fnf = true) : trL I φ v = trL I φ' v := by
  unfold trL tr
  rw [trc_fnf _ h]
structure Grown (w w' : World) (F F' : Nat → Prop) : Prop where
  os : w'.os = w.os
  tape : w'.tape = w.tape
  output : w'.output = w.output
  size : w.heap.size ≤ w'.heap.size
  block : ∀ b, b < w.heap.size → w'.heap[b]? = w.heap[b]?
  more : ∀ b, F b → F' b
  new : ∀ b, F' b → F b ∨ (w.heap.size ≤ b ∧ b < w'.heap.size)
def phi0 : FnP := fun _ _ _ => ⟨fun _ _ _ => False, fun _ _ _ _ _ _ _ h => h⟩
structure PureOk (P : Program) (I : Ids) (f : FuncId) (A B : Ty) (F : A.den → Option B.den) : Prop where
  fn : ∃ fn, P.funcs[f]? = some fn ∧ (fn.name == "runtime.NumGoroutine") = false ∧ fn.body.isNone = false
  run : ∀ a r, F a = some r → ∀ vs, (tupL vs).as A = some a → fieldyL vs = true → ∀ (w : World) (Fr : Nat → Prop) (us : Array Value), GlobW I w → (∀ b, Fr b → b < w.heap.size) → us.size = vs.length →
    (∀ (j : Nat) v, vs[j]? = some v → ∃ u, us[j]? = some u ∧ RepT P w Fr (trL I phi0 v) u) →
    Calls P f us w fun e w' => ∃ u, e = .returned u ∧ ∃ F', Grown w w' Fr F' ∧ RepT P w' F' (trL I phi0 ⟨B, r⟩) u
def phi (P : Program) (I : Ids) : FnP := fun A B F => ⟨fun _ _ u => A.fnf = true ∧ B.fnf = true ∧ ∃ f, u = .func (.func f) #[] #[] ∧ PureOk P I f A B F, fun _ _ _ _ _ _ _ h => h⟩
theorem tupL_fnf : ∀ (vs : List L), (tupL vs).ty.fnf = true → ∀ v ∈ vs, v.ty.fnf = true
  | [], _, v, hv => by simp at hv
  | [v0], h, v, hv => by simp only [List.mem_singleton] at hv; subst hv; exact h
  | v0 :: v1 :: r, h, v, hv => by
    have h : (Ty.pair v0.ty (tupL (v1 :: r)).ty).fnf = true := h
    simp only [Ty.fnf, Bool.and_eq_true] at h
    rcases List.mem_cons.1 hv with rfl | hv
    · exact h.1
    · exact tupL_fnf (v1 :: r) h.2 v hv
theorem callV_some {fv : L} {g : Option L} {vs : List L} {K : L → Option ρ} (h : @RAlg.callV L (Option ρ) (semR ρ cs ls) fv g vs K = some r) :
    ∃ A B F a, fv = ⟨.fn A B, F⟩ ∧ (tupL vs).as A = some a ∧ fieldyL vs = true ∧ ∃ rv, K ⟨B, rv⟩ = some r ∧ (OnL g → (F : A.den → Option B.den) a = some rv) := by
  obtain ⟨fty, F⟩ := fv
  cases fty with
  | fn A B =>
    simp only [RAlg.callV] at h
    split at h
    · rename_i a hfy ha
      refine ⟨A, B, F, a, rfl, ha, hfy, ?_⟩
      cases g with
      | none =>
        simp only [pCall, Option.bind_eq_some_iff] at h
        obtain ⟨rv, h1, h2⟩ := h
        exact ⟨rv, h2, fun _ => h1⟩
      | some g =>
        simp only at h
        cases hg : g.bool with
        | none => rw [hg] at h; cases h
        | some b =>
          rw [hg] at h
          simp only [pCallG, Option.bind_eq_some_iff] at h
          obtain ⟨rv, h1, h2⟩ := h
          refine ⟨rv, h2, fun hon => ?_⟩
          have := hon g rfl
          rw [hg, Option.some.injEq] at this
          subst this
          exact h1
    · cases h
  | _ => simp only [RAlg.callV] at h; cases h
theorem inv_grown {st : St L} {g : G} {w w' : World} {F' : Nat → Prop} (h : Inv P I φ β st g w) (hg : Grown w w' g.F F') : Pass P I φ st g w st { g with F := F' } w' ∧ Inv P I φ β st { g with F := F' } w' := by
  obtain ⟨h1, h2, h3⟩ := inv_grow h hg.block hg.size hg.os hg.tape hg.output
  obtain ⟨h4, h5⟩ := inv_give h2 (fun b => F' b ∧ ¬ g.F b) (fun b hb => by
    rcases hg.new b hb.1 with h | h
    · exact absurd h hb.2
    · exact h3 b h)
  have hF : (fun b => g.F b ∨ (F' b ∧ ¬ g.F b)) = F' := by
    funext b
    exact propext ⟨fun h => h.elim (hg.more b) (·.1), fun h => (Classical.em (g.F b)).imp id fun hn => ⟨h, hn⟩⟩
  rw [hF] at h4 h5
  exact ⟨h1.trans h4, h5⟩
theorem op_callV {c : Call} {xf : Operand} {fv : L} {A0 B0 : Ty} (hf : FnsOk (phi P I) cs) (ho : o.op = .call c) (hb : c.callee = .value xf) (hd : ∀ d, o.dst = some d → d < nt) (hself : selfOk gd o.dst = true)
    (hcal : ∀ (ac : Act) (w : World) (g : G), EnvR P I (phi P I) st g w st.env ac.tmps → GnvR P I (phi P I) st g w st.gnv ac.tmps → Hold ac.tmps (keysOf gd) → ARep P I (phi P I) st g w (.lf fv) (ac.eval xf)) (hfv : fv.ty = .fn A0 B0)
    (h : @opK.evs L (Option ρ) (semL cs) (semF ρ) tb st gd (c.argTypes.toList.zip c.args.toList) [] (fun xs => @peekAll L (Option ρ) (semL cs) (semF ρ) st (gd.map (·.c)) xs [] fun vs => @RAlg.callV L (Option ρ) (semR ρ cs ls) fv (gd.map (·.c)) vs fun r => match o.dst with
      | some d => k (putE (match B0.scalar with | true => st | false => freezeAll st xs) gd d (.lf r))
      | none => @RF.fail (Option ρ) (semF ρ) "call: no slot") = some r) (hlen : c.argTypes.size = c.args.size) :
    ∃ st', k st' = some r ∧ Does P I (phi P I) β nt o st gd st' := by
  obtain ⟨xs, h1, hl, hxs⟩ := evs_some h
  clear h
  simp only [List.reverse_nil, List.nil_append] at h1
  obtain ⟨vs, hvl, hvs, h⟩ := peekAll_pk xs [] _ h1
  clear h1
  simp only [List.reverse_nil, List.nil_append] at h
  obtain ⟨A, B, F, a, rfl, ha, hfy, rv, h1, hon⟩ := callV_some h
  clear h
  simp only [Ty.fn.injEq] at hfv
  obtain ⟨rfl, rfl⟩ := hfv
  cases hdst : o.dst with
  | none => rw [hdst] at h1; cases h1
  | some d =>
    rw [hdst] at h1
    simp only at h1
    have hself' := hself
    rw [hdst] at hself'
    have hxl : xs.length = c.args.size := by rw [hl]; simp [hlen]
    have hcall : ∀ (ac : Act) (w : World) (g : G) (K : Act → World → Prop) (Q : Exit → Act → World → Prop), RelG P I (phi P I) β nt st g ac w → GdOk ac.tmps gd → On gd →
        (∀ g1 w' u F', Pass P I (phi P I) st g w (freezeAll st xs) g1 w → Inv P I (phi P I) β (freezeAll st xs) g1 w → Grown w w' g1.F F' → RepT P w' F' (trL I (phi P I) ⟨B, rv⟩) u → K (ac.put (some d) u) w') → o.wp P ac w K Q := by
      intro ac w g K Q hR hG hon' hK
      have hh := hold_of hG hon'
      have hrf := arep_lf (hcal ac w g hR.e hR.n hh)
      have hp : ((phi P I) A B F).p w g.F (ac.eval xf) := by
        have hrf : RepT P w g.F (.fl ((phi P I) A B F)) (ac.eval xf) := hrf
        cases hrf; assumption
      obtain ⟨hA, hB, f, hu, ⟨fn, hfn1, hfn2, hfn3⟩, hrun⟩ := hp
      obtain ⟨g1, hp1, hi1, h2⟩ := freezeAll_ok hf xs st g hR.i
      have hty : (tupL vs).ty = A := by have := as_some ha; rw [this]
      unfold Oper.wp
      rw [exec_enter ho hb hu hfn1 hfn2 hfn3, Oper.upon_enter, hdst]
      refine Calls.mono (hrun a rv (hon (onL_of hon')) vs ha hfy w g1.F _ hi1.globW hi1.f (by simp [hvl, hxl]) fun j v hv => ?_) fun e w' ⟨u, he, F', hg, hr⟩ => ?_
      · have hjl := lt_of_get hv
        obtain ⟨x0, hx0⟩ : ∃ x0, xs[j]? = some x0 := ⟨xs[j]'(by omega), List.getElem?_eq_getElem _⟩
        have hjc : j < c.args.size := by omega
        refine ⟨ac.eval c.args[j], by rw [Array.getElem?_append_left (by simpa using hjc)]; simp [hjc], ?_⟩
        obtain ⟨y, hy1, hy2⟩ := hxs j (c.argTypes[j]'(by omega), c.args[j]) (by
          rw [List.getElem?_zip_eq_some]
          exact ⟨by simp [show j < c.argTypes.size by omega], by simp [hjc]⟩)
        rw [hx0, Option.some.injEq] at hy1
        subst hy1
        obtain ⟨v', hv', hpk⟩ := hvs j x0 hx0
        rw [hv, Option.some.injEq] at hv'
        subst hv'
        have := h2 j x0 v _ hx0 hpk (evalO_ok hR.e hR.n hh hy2)
        rw [trL_fnf (φ' := phi P I) (tupL_fnf vs (by rw [hty]; exact hA) v (List.mem_of_getElem? hv))]
        exact this
      · subst he
        refine hK g1 w' u F' hp1 hi1 hg ?_
        rw [trL_fnf (φ := phi P I) (φ' := phi0) (v := ⟨B, rv⟩) hB]
        exact hr
    cases hs : B.scalar with
    | true =>
      rw [hs] at h1
      refine ⟨_, h1, fun ac w g hR hG hon' K Q hK => ?_, fun ac w g gd' hgd hR hG hoff => ?_⟩
      · refine hcall ac w g K Q hR hG hon' fun g1 w' u F' hp1 hi1 hg hr => ?_
        obtain ⟨hp2, hi2, _⟩ := inv_grow hR.i hg.block hg.size hg.os hg.tape hg.output
        exact hK _ _ g (hp2.putE _ _ _) (rel_put (hd d hdst) hR.defers hR.size hG hon' (selfOk_iff hself') rfl rfl hR.e hR.n hp2 hi2 (.lf _ _ (scalar_repL hs hr))) fun s hs => put_ne ac u (by rw [← hdst]; exact hs)
      · subst hgd
        rw [hdst]
        exact ⟨g, (Pass.refl _ _ _).putE _ _ _, rel_skip (hd d hdst) hR.defers hR.size hG hoff (selfOk_iff hself') rfl rfl hR.e hR.n (Pass.refl _ _ _) hR.i⟩
    | false =>
      rw [hs] at h1
      have henv := freezeAll_env xs st
      refine ⟨_, h1, fun ac w g hR hG hon' K Q hK => ?_, fun ac w g gd' hgd hR hG hoff => ?_⟩
      · refine hcall ac w g K Q hR hG hon' fun g1 w' u F' hp1 hi1 hg hr => ?_
        obtain ⟨hp2, hi2⟩ := inv_grown hi1 hg
        have hp := hp1.trans hp2
        exact hK _ _ _ (hp.putE _ _ _) (rel_put (hd d hdst) hR.defers hR.size hG hon' (selfOk_iff hself') henv.1 henv.2 hR.e hR.n hp hi2 (.lf _ _ hr)) fun s hs => put_ne ac u (by rw [← hdst]; exact hs)
      · subst hgd
        rw [hdst]
        obtain ⟨g1, hp1, hi1, _⟩ := freezeAll_ok hf xs st g hR.i
        exact ⟨g1, hp1.putE _ _ _, rel_skip (hd d hdst) hR.defers hR.size hG hoff (selfOk_iff hself') henv.1 henv.2 hR.e hR.n hp1 hi1⟩
end Go.Y
