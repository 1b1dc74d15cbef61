/- What the proof of the statement stands on, part 3. -/
import Derived.Test.YtmdeiacjehhcoaaDoorA0
import Derived.Test.YtmdeiacjehhcoaaDoorA2
import Derived.Lib.ConvBytes
import Derived.Laws.Build
import Derived.Orders
import Derived.WalkKit
import Derived.Below
import Derived.Laws.Rows
import Derived.Lib.ItoaNum
import Derived.Lib.Join
import Derived.Test.YtmdeiacjehhcoaaDoorProg
import Derived.LaidEql
import Derived.Stop.Asserts
import Derived.RowKitTokens
set_option linter.unusedVariables false
set_option linter.unusedSimpArgs false
namespace Go.Eng
variable {P : Program}
theorem move_refl {β : Base} {g : G} {sto : List (Nat × Root)} {w : World} (h : SRep P g sto w) (hk : Kept β g sto w) (fa fp : Loc → Bool) : Move P β g sto w g sto w fa fp :=
  ⟨SameOn.refl _ w, fun _ hb => hb, fun l _ d e nl xs ha => ⟨d, nl, xs, ha, rfl, rfl⟩, fun l _ ht => ⟨ht, rfl⟩, h, hk⟩
theorem move_weak {β : Base} {g g' : G} {sto sto' : List (Nat × Root)} {w w' : World} {fa fp fa' fp' : Loc → Bool} (h : Move P β g sto w g' sto' w' fa fp) (ha : ∀ l, fa' l = false → fa l = false) (hp : ∀ l, fp' l = false → fp l = false) :
    Move P β g sto w g' sto' w' fa' fp' :=
  ⟨h.same, h.F, fun l hl => h.ar l (ha l hl), fun l hl => h.pt l (hp l hl), h.srep, h.kept⟩
theorem move_row {β : Base} {g : G} {sto : List (Nat × Root)} {w : World} (h : SRep P g sto w) (hk : Kept β g sto w) {k : Nat} {r : Root} (hr : get sto k = some r) {j : Nat} {t : T} (hc : r.cells[j]? = some (.o 1 t))
    {q : Nat × Nat} {c : T} (hw : walkT 1 t [q] = some (0, c)) (c' : T) (v' : Value) (hag : c'.isAg = false) (hrep : RepT P w g.F c' v')
    {a : Addr} (ha : locA P g w sto ⟨k, j, [q]⟩ = some a) :
    ∃ g', Move P β g sto w g' (put (invS (fun _ => false) sto) k (r.set (fun _ => false) j (.o 1 (updT t [q] c')))) (w.setCell a v') (fdC k j) (fun _ => false) ∧ g'.F = g.F ∧ g'.ad = g.ad := by
  obtain ⟨h1, Bs, hsp, hcell⟩ := h.root k r hr
  obtain ⟨u, hu, hrep0⟩ := hcell j _ hc
  have ha2 : walkA P w t u q [] = some a := by
    unfold locA at ha
    simp only [hr, hc, hu, Option.bind_some] at ha
    exact ha
  refine deep_base h hk hr hc hsp hcell hw c' v' (fun _ => False) hag (fun b hb => hb.elim) hrep hu ha2 _ _ (fun l hl => by simp only [fdC]; rcases hl with hl | hl <;> simp [hl]) ?_ ?_
  · intro l hl ho hf d1 e nl xs hx
    simp only [fdC, hl, ho, BEq.rfl, Bool.and_true, Bool.true_and, Bool.not_eq_false', List.isEmpty_iff] at hf
    rw [hf] at hx ⊢
    simp only [walkT, Option.some.injEq, Prod.mk.injEq] at hx
    obtain ⟨rfl, hx⟩ := hx
    obtain ⟨nl0, xs0, h2, h3⟩ := upd_len hw e nl xs hx
    exact ⟨nl0, xs0, by simp [walkT, h2], h3, fun q1 s1 hs => by simp at hs⟩
  · intro l hl ho _ q1 s1 x hs hx
    have hst : t.step q = some c := by
      simp only [walkT, Option.bind_eq_some_iff, Option.some.injEq, Prod.mk.injEq, true_and] at hw
      obtain ⟨c1, h2, h3⟩ := hw
      rw [h2, h3]
    have hs1 : s1 = [] := by
      cases s1 with
      | nil => rfl
      | cons p s =>
        simp only [walkT, Option.bind_eq_some_iff] at hx
        obtain ⟨c1, _, h3⟩ := hx
        cases h3
    subst hs1
    have hup : updT t [q] c' = t.upd1 q c' := by simp only [updT, hst]
    rw [hup] at hx ⊢
    simp only [walkT, Option.bind_eq_some_iff, Option.some.injEq] at hx
    obtain ⟨c1, h2, _⟩ := hx
    have key : (∃ y, t.step q1 = some y) ∧ stepA P (t.upd1 q c') u q1 = stepA P t u q1 := by
      cases t with
      | sl e nl xs =>
        obtain ⟨e1, e2, xs', e3, e4⟩ := upd_step_sl hst hag
        refine ⟨?_, by rw [e3]; cases u with | slice p _ _ => cases p <;> rfl | _ => rfl⟩
        by_cases hq : q1 = q
        · exact ⟨c, by rw [hq]; exact hst⟩
        · exact ⟨c1, by rw [← e2 q1 hq]; exact h2⟩
      | p e x0 =>
        obtain ⟨e1, e2⟩ := upd_step_p hst hag
        refine ⟨?_, by cases u with | pointer p => cases p <;> rfl | _ => rfl⟩
        by_cases hq : q1 = q
        · exact ⟨c, by rw [hq]; exact hst⟩
        · exact ⟨c1, by rw [← e2 q1 hq]; exact h2⟩
      | _ => simp [T.step] at hst
    obtain ⟨⟨y, hy⟩, h3⟩ := key
    exact ⟨⟨(0, y), by simp [walkT, hy]⟩, by simp only [walkA]; exact h3⟩
theorem inv_cell (e : E) : E.inv (fun _ => false) e = e := by cases e <;> simp [E.inv]
theorem inv_root (r : Root) : r.inv (fun _ => false) = r := by
  simp [Root.inv, show (E.inv fun _ => false) = id from funext inv_cell]
theorem T.ext_cells {x y : T} (h : x.cells = y.cells) (ha : x.isAg = y.isAg) : x = y := by
  cases x <;> cases y <;> simp_all [T.cells, T.isAg]
theorem setCell_isAg {x c : T} {o : Nat} {c0 : T} (h0 : x.cells[o]? = some c0) (hc : c.isAg = false) : (x.setCell o c).isAg = x.isAg := by
  cases x <;> simp_all [T.setCell, T.isAg]
theorem row_cells {β : Base} {k j : Nat} {e : TypeId} {nl : Bool} {i n cap b : Nat} {xs0 : List T} : ∀ (cs : List T) (us : List Value) (i0 o p0 : Nat) {g : G} {sto : List (Nat × Root)} {w : World} (_ : SRep P g sto w) (_ : Kept β g sto w) {r : Root} (_ : get sto k = some r) {x : T} (_ : i < xs0.length) (_ : r.cells[j]? = some (.o 1 (.sl e nl (xs0.set i x))))
    (_ : o + cs.length ≤ x.cells.length) (_ : ∀ c ∈ cs, c.isAg = false) (_ : ∀ u ∈ us, u.oneCell' = true) (_ : us.length = cs.length)
    (_ : ∀ (jj : Nat) c u, cs[jj]? = some c → us[jj]? = some u → RepT P w g.F c u) (_ : rootV g w k r j = some (.slice (some ⟨b, 0, none⟩) n cap)) (_ : p0 + i0 = i * P.cellsOf e + o),
    ∃ g' sto' w' x', (storeCells ⟨b, p0, none⟩ us i0).run P w = .ok () w' ∧ Move P β g sto w g' sto' w' (fdC k j) (fun _ => false) ∧ w'.heap.size = w.heap.size ∧ g'.F = g.F ∧ g'.ad = g.ad ∧
      (∀ k', get sto' k' = if k' = k then some ⟨r.mem, r.cells.set j (.o 1 (.sl e nl (xs0.set i x')))⟩ else get sto k') ∧ x'.cells = x.cells.take o ++ (cs ++ x.cells.drop (o + cs.length)) ∧ x'.isAg = x.isAg
  | [], us, i0, o, p0, g, sto, w, hs, hk, r, hr, x, hi, hc, hle, hag, hone, hl, hrep, hV, hp => by
    have : us = [] := List.eq_nil_of_length_eq_zero (by simpa using hl)
    subst this
    refine ⟨g, sto, w, x, rfl, move_refl hs hk _ _, rfl, rfl, rfl, fun k' => ?_, by simp, rfl⟩
    split
    · rename_i hkk; subst hkk
      rw [hr]
      congr 1
      rw [show r.cells.set j (.o 1 (.sl e nl (xs0.set i x))) = r.cells from by
        have hjl := get_lt hc
        have h2 : r.cells[j] = .o 1 (.sl e nl (xs0.set i x)) := by
          rw [List.getElem?_eq_getElem hjl] at hc
          exact Option.some.inj hc
        rw [← h2, List.set_getElem_self]]
    · rfl
  | c :: cs, [], i0, o, p0, g, sto, w, hs, hk, r, hr, x, hi, hc, hle, hag, hone, hl, hrep, hV, hp => by simp at hl
  | c :: cs, u :: us, i0, o, p0, g, sto, w, hs, hk, r, hr, x, hi, hc, hle, hag, hone, hl, hrep, hV, hp => by
    simp only [List.length_cons] at hle hl
    have hol : o < x.cells.length := by omega
    have hxo : x.cells[o]? = some x.cells[o] := List.getElem?_eq_getElem hol
    have hxi : (xs0.set i x)[i]? = some x := by simp [hi]
    have hstep : (T.sl e nl (xs0.set i x)).step (i, o) = some x.cells[o] := by simp only [T.step, hxi, Option.bind_some, hxo]
    have hw1 : walkT 1 (T.sl e nl (xs0.set i x)) [(i, o)] = some (0, x.cells[o]) := by simp only [walkT, hstep, Option.bind_some]
    have hagc := hag c (by simp)
    have hA : locA P g w sto ⟨k, j, [(i, o)]⟩ = some ⟨b, i * P.cellsOf e + o, none⟩ := by
      unfold locA
      simp only [hr, hc, hV, Option.bind_some, walkA, stepA, Nat.zero_add]
    obtain ⟨g1, hM, hF1, had1⟩ := move_row hs hk hr hc hw1 c u hagc (hrep 0 c u rfl rfl) hA
    obtain ⟨_, Bs, hsp, hcell⟩ := hs.root k r hr
    obtain ⟨u0, hu0, hrep0⟩ := hcell j _ hc
    rw [hV, Option.some.injEq] at hu0
    subst hu0
    obtain ⟨a', v0, _, ha', _, hcl, hfz, _⟩ := walk_read [] (i, o) 1 _ _ _ 0 _ hrep0 hw1
    simp only [walkA, stepA, Nat.zero_add, Option.some.injEq] at ha'
    subst ha'
    have hstore : (store ((⟨b, p0, none⟩ : Addr).add i0) u).run P w = .ok () (w.setCell ⟨b, i * P.cellsOf e + o, none⟩ u) := by
      rw [addr_add, hp, run_store P w _ u _ (hone u (by simp)), hcl]
      simp only
      rw [hfz]
      simp
    have hupd : updT (T.sl e nl (xs0.set i x)) [(i, o)] c = .sl e nl (xs0.set i (x.setCell o c)) := by
      simp only [updT, hstep]
      rw [upd1_sl c hxi]
      simp
    rw [hupd] at hM
    have hjl : j < r.cells.length := get_lt hc
    have hr1 : get (put (invS (fun _ => false) sto) k (r.set (fun _ => false) j (.o 1 (.sl e nl (xs0.set i (x.setCell o c)))))) k = some (r.set (fun _ => false) j (.o 1 (.sl e nl (xs0.set i (x.setCell o c))))) := get_set_self
    have hV1 : rootV g1 (w.setCell ⟨b, i * P.cellsOf e + o, none⟩ u) k (r.set (fun _ => false) j (.o 1 (.sl e nl (xs0.set i (x.setCell o c))))) j = some (.slice (some ⟨b, 0, none⟩) n cap) := by
      obtain ⟨_, _, _, _, _, h6⟩ := hM.ar ⟨k, j, []⟩ (by simp [fdC]) 1 e nl (xs0.set i (x.setCell o c)) (by
        unfold at_
        simp only [hr1, set_cells_eq hjl, walkT])
      unfold locV at h6
      simp only [hr1, hr, Option.bind_some] at h6
      rw [h6, hV]
    have hsz : (w.setCell ⟨b, i * P.cellsOf e + o, none⟩ u).heap.size = w.heap.size := by simp
    obtain ⟨g2, sto2, w2, x', hrun, hM2, hsz2, hF2, had2, hget2, hcells2, hag2⟩ := row_cells cs us (i0 + 1) (o + 1) p0 hM.srep hM.kept hr1 (x := x.setCell o c) hi (set_cells_eq hjl) (by
        rw [setCell_cells hxo hagc, List.length_set]; omega) (fun c1 h1 => hag c1 (by simp [h1])) (fun u1 h1 => hone u1 (by simp [h1])) (by omega)
      (fun jj c1 u1 h1 h2 => RepT.mono hM.same hM.F (hrep (jj + 1) c1 u1 (by simpa using h1) (by simpa using h2))) hV1 (by omega)
    refine ⟨g2, sto2, w2, x', ?_, move_weak (hM.trans hM2 (by rw [hsz]; exact Nat.le_refl _)) (fun l hl => by simp [hl]) (fun l hl => by simp), hsz2.trans hsz, hF2.trans hF1, had2.trans had1, fun k' => ?_, ?_, ?_⟩
    · simp only [Go.storeCells, Sem.run_bind, hstore, Result.andThen_ok]
      exact hrun
    · rw [hget2]
      split
      · simp [Root.set, show (E.inv fun _ => false) = id from funext inv_cell]
      · rename_i hne
        rw [get_put, if_neg hne, get_invS]
        cases get sto k' with
        | none => rfl
        | some r' => simp [inv_root]
    · rw [hcells2, setCell_cells hxo hagc]
      apply List.ext_getElem?
      intro m
      simp only [List.getElem?_append, List.length_take, List.length_set, List.getElem?_take, List.getElem?_drop, List.getElem?_set, List.length_cons]
      have e1 : min (o + 1) x.cells.length = o + 1 := by omega
      have e2 : min o x.cells.length = o := by omega
      rw [e1, e2]
      by_cases h1 : m < o
      · simp [h1, show m < o + 1 by omega, show ¬ o = m by omega, show m < x.cells.length by omega]
      · by_cases h2 : m = o
        · subst h2
          simp [show m < x.cells.length by omega]
        · simp only [show ¬ m < o + 1 by omega, if_false, show ¬ m < o by omega]
          obtain ⟨m', rfl⟩ : ∃ m', m = o + 1 + m' := ⟨m - (o + 1), by omega⟩
          rw [show o + 1 + m' - (o + 1) = m' by omega, show o + 1 + m' - o = m' + 1 by omega]
          simp only [List.getElem?_cons_succ, Nat.add_lt_add_iff_right, Nat.add_sub_add_right]
          split
          · rfl
          · rw [if_neg (by omega)]
            congr 1
            omega
    · rw [hag2, setCell_isAg hxo hagc]
end Go.Eng
namespace Go.Y
open Go.Eng (T RepT RepM SRep Kept Base G SameOn VRep Split Live Free kn Owns)
variable {P : Program} {I : Ids} {φ : FnP} {β : Base} {nt : Nat} {cs : List (Nat × Con)}
variable {ρ : Type} {ls : List (Nat × LoopC ρ)} {r : ρ} {tb : Tabs} {st : St L} {gd : Option (Gd L)} {k : St L → Option ρ} {o : Oper}
theorem allE_mem {zs : List L} (h : @allE L (semL cs) (zs.map fun z => E.o 0 z) = true) : ∀ z ∈ zs, @eOk L (semL cs) (.o 0 z) = true := by
  induction zs with
  | nil => intro z hz; simp at hz
  | cons x zs ih =>
    simp only [List.map_cons, allE, Bool.and_eq_true] at h
    intro z hz
    rcases List.mem_cons.1 hz with rfl | hz
    · exact h.1
    · exact ih h.2 z hz
theorem eOk_ag {z : L} (h : @eOk L (semL cs) (.o 0 z) = true) : z.ty.isAgg = false := by
  obtain ⟨ty, v⟩ := z
  cases ty <;> first | rfl | cases h
theorem setIL_some {xs i y v' : L} (h : setIL xs i y = some v') {e : TypeId} {a : Ty} {l : List a.den} (hx : xs = ⟨.sl e a, l⟩) {kk : IntKind} {n : Int} (hi : i = ⟨.int kk, n⟩) : ∃ x : a.den, y = ⟨a, x⟩ ∧ v' = ⟨.sl e a, (l.set n.toNat x : List a.den)⟩ := by
  subst hx; subst hi
  simp only [setIL, L.int] at h
  split at h
  · rename_i k1 n1 w1 h1 h2
    simp only [Option.some.injEq, Prod.mk.injEq] at h1
    obtain ⟨rfl, rfl⟩ := h1
    simp only [Option.some.injEq] at h
    exact ⟨_, as_some h2, h.symm⟩
  · cases h
theorem store_deep {t : TypeId} {i : TI} (hti : TiFacts P I t i) (hf : FnsOk φ cs) {g : G} {w : World} (hi : Inv P I φ β st g w) {l : Loc L} {ua u : Value} {x : AV L} (hap : ARep P I φ st g w (.pt l) ua) (hau : ARep P I φ st g w x u)
    {kk : IntKind} {nn : Int} {oo : Nat} (hst : l.steps = [(⟨.int kk, nn⟩, oo)]) {xv : L} (hxv : pk cs st x = some xv) {ps : List (AV L)} (hps : @avCells L (semL cs) st (.lf xv) = some ps) {zs : List L} (hzs : lfs ps = some zs)
    {stp : Nat} {e : TypeId} {a : Ty} {xs : List a.den} (hc : cellAt (freezeA st x) l = some ⟨stp, .o 1 ⟨.sl e a, xs⟩⟩) (hstp : stp = l.stamp) (hzl : zs.length = i.cells) (hall : @allE L (semL cs) (zs.map fun z => E.o 0 z) = true)
    {xe : a.den} (hxe : xs[nn.toNat]? = some xe) {ys : List L} (hys : @cellsOf L (semL cs) a ⟨a, xe⟩ = some ys) (hle : oo + i.cells ≤ ys.length) (hn1 : 1 ≤ i.cells) {y v' : L} (hy : @packAll L (semL cs) a (takeL oo ys ++ (zs ++ dropL (oo + i.cells) ys)) = some y)
    (hv' : setIL ⟨.sl e a, xs⟩ ⟨.int kk, nn⟩ y = some v') :
    ∃ w2 g2, (Instr.storeAt t ua u).run P w = .ok () w2 ∧ Pass P I φ st g w (setCell (freezeA st x) l.root l.off ⟨stp, .o 1 v'⟩) g2 w2 ∧ Inv P I φ β (setCell (freezeA st x) l.root l.off ⟨stp, .o 1 v'⟩) g2 w2 := by
  obtain ⟨x2, rfl, rfl⟩ := setIL_some hv' rfl rfl
  obtain ⟨g1, hp1, hi1, hfr⟩ := freezeA_ok hf hi x
  have hrx := hfr xv u hxv hau
  have hap1 := hp1.a _ _ hap
  generalize hS : freezeA st x = st1 at hp1 hi1 hc hap1 ⊢
  obtain ⟨r1, hr1, hg1, hcell1⟩ := cellAt_iff.1 hc
  have hget : Eng.get (injS I φ st1) l.root = some (injR I φ st1 r1) := by rw [get_injS, hr1]; rfl
  have hc' := injR_cell (I := I) (φ := φ) (st := st1) hcell1
  simp only [injE] at hc'
  have htree : trL I φ ⟨.sl e a, xs⟩ = .sl e false (xs.map fun x => tr I φ a x) := rfl
  rw [htree] at hc'
  obtain ⟨_, Bs, hsp, hcell⟩ := hi1.s.root _ _ hget
  obtain ⟨uu, huu, hrep⟩ := hcell _ _ hc'
  have hrep : RepM P w g1.F 1 (trL I φ ⟨.sl e a, xs⟩) uu (Bs l.off) := hrep
  obtain ⟨hyc, hya⟩ := cellsOf_ok (I := I) (φ := φ) a xe ys hys
  have hyl : (trc I φ a xe).length = ys.length := by rw [← hyc, List.length_map]
  obtain ⟨b0, len0, cap0, rfl, hel⟩ := owned_at hrep hxe (by omega)
  have hst' : (injLoc l).steps = [(nn.toNat, oo)] := by simp [injLoc, hst, idxN]
  have hua : ua = .pointer (some ⟨b0, nn.toNat * P.cellsOf e + oo, none⟩) := by
    cases hap1 with
    | pt _ b o hb hl =>
      have hA := hl ⟨⟨r1, rootAt_iff.2 ⟨hr1, hg1⟩⟩, fun _ => ⟨_, hc, hstp⟩⟩ (by
        unfold Eng.There
        simp only [hst']
        unfold Eng.at_
        rw [show (injLoc l).root = l.root from rfl, hget]
        simp only [show (injLoc l).off = l.off from rfl, hc', hst']
        have hlt : oo < (trc I φ a xe).length := by omega
        have hstep : (T.sl e false (xs.map fun x => tr I φ a x)).step (nn.toNat, oo) = some (trc I φ a xe)[oo] := by
          simp only [T.step, List.getElem?_map, hxe, Option.map_some, Option.bind_some, tr_cells]
          simp [hlt]
        exact ⟨(0, (trc I φ a xe)[oo]), by simp only [Eng.walkT, hstep, Option.bind_some]⟩)
      unfold Eng.locA at hA
      rw [show (injLoc l).root = l.root from rfl, hget] at hA
      simp only [hst', show (injLoc l).off = l.off from rfl, hc', huu, Option.bind_some, Eng.walkA, Eng.stepA, Option.some.injEq, Addr.mk.injEq, Nat.zero_add] at hA
      obtain ⟨rfl, rfl, _⟩ := hA
      rfl
  subst hua
  have hps1 : @avCells L (semL cs) st1 (.lf xv) = some ps := hps
  obtain ⟨hsz, us, hus⟩ := avCells_ok hi1 (.lf xv u hrx) hps1
  obtain ⟨hlz, hlr⟩ := lfs_ok (P := P) (I := I) (φ := φ) (st := st1) ps zs hzs
  have hmem := allE_mem (cs := cs) hall
  have hul : u.cells.toList.length = zs.length := by rw [Array.length_toList, hsz, hlz]
  have hrz : ∀ (jj : Nat) z v, zs[jj]? = some z → u.cells.toList[jj]? = some v → RepT P w g1.F (trL I φ z) v := by
    intro jj z v h1 h2
    have hjl := lt_of_get h1
    have hpj : ps[jj]? = some (ps[jj]'(by omega)) := List.getElem?_eq_getElem (by omega)
    obtain ⟨h3, h4⟩ := hus jj _ hpj
    rw [← Array.getElem?_toList, h2, Option.some.injEq] at h3
    subst h3
    exact hlr jj _ z _ hpj h1 h4
  have hself : (xs.map fun x => tr I φ a x).set nn.toNat (tr I φ a xe) = xs.map fun x => tr I φ a x := by
    rw [← List.map_set]
    congr 1
    have hlt := lt_of_get hxe
    rw [List.getElem?_eq_getElem hlt, Option.some.injEq] at hxe
    rw [← hxe, List.set_getElem_self]
  have hcl : (injR I φ st1 r1).cells[l.off]? = some (.o 1 (.sl e false ((xs.map fun x => tr I φ a x).set nn.toNat (tr I φ a xe)))) := by rw [hself]; exact hc'
  obtain ⟨g2, sto2, w2, x', hrun, hM, hsz2, hF2, had2, hget2, hcells2, hag2⟩ := Eng.row_cells (P := P) (β := β) (k := l.root) (j := l.off) (e := e) (nl := false) (i := nn.toNat) (n := len0) (cap := cap0) (b := b0) (zs.map (trL I φ)) u.cells.toList 0 oo (nn.toNat * P.cellsOf e + oo)
    hi1.s hi1.k hget (by have := lt_of_get hxe; simpa using this) hcl (by rw [tr_cells, List.length_map]; omega)
    (fun c hc => by
      obtain ⟨z, hz, rfl⟩ := List.mem_map.1 hc
      show (tr I φ z.ty z.val).isAg = false
      rw [tr_isAg]; exact eOk_ag (hmem z hz))
    (fun v hv => by
      obtain ⟨jj, hjj⟩ := List.mem_iff_getElem?.1 hv
      have hjl := lt_of_get hjj
      have hz : zs[jj]? = some (zs[jj]'(by omega)) := List.getElem?_eq_getElem (by omega)
      exact rep_one (d := 0) (B := fun _ => False) (hrz jj _ v hz hjj) (hmem _ (List.mem_of_getElem? hz)))
    (by rw [hul, List.length_map])
    (fun jj c v h1 h2 => by
      rw [List.getElem?_map, Option.map_eq_some_iff] at h1
      obtain ⟨z, hz, rfl⟩ := h1
      exact hrz jj z v hz h2) huu (by omega)
  have hx' : x' = tr I φ a x2 := by
    obtain ⟨h1, h2⟩ := packAll_ok (I := I) (φ := φ) hy
    refine Eng.T.ext_cells ?_ ?_
    · have h1 : (takeL oo ys ++ (zs ++ dropL (oo + i.cells) ys)).map (trL I φ) = trc I φ a x2 := h1
      rw [hcells2, tr_cells, tr_cells, ← h1, ← hyc, List.map_append, List.map_append, takeL_eq, dropL_eq, List.map_take, List.map_drop, List.length_map, hzl]
    · rw [hag2, tr_isAg, tr_isAg]
  subst hx'
  have hT : Turn st1 l.root l.off ⟨stp, .o 1 ⟨.sl e a, xs⟩⟩ ⟨stp, .o 1 ⟨.sl e a, (xs.set nn.toNat x2 : List a.den)⟩⟩ r1 := ⟨hr1, hcell1, Nat.le_refl _, fun l hl => by cases hl⟩
  have hvA : ∀ l', validA (setCell st1 l.root l.off ⟨stp, .o 1 ⟨.sl e a, (xs.set nn.toNat x2 : List a.den)⟩⟩) l' → validA st1 l' := by
    intro l' hv
    rcases hT.validA l' hv with hv | ⟨e1, e2, e3, e4⟩
    · exact hv.2
    · exact ⟨⟨stp, .o 1 ⟨.sl e a, xs⟩⟩, cellAt_iff.2 ⟨r1, by rw [e1]; exact hr1, e3.symm, by rw [e2]; exact hcell1⟩, e4.symm⟩
  obtain ⟨h3, h4⟩ := pass_of_move2 (st' := setCell st1 l.root l.off ⟨stp, .o 1 ⟨.sl e a, (xs.set nn.toNat x2 : List a.den)⟩⟩) hM (fun i' => by
      rw [hT.get (I := I) (φ := φ) (fun _ => false) (fun _ _ => rfl) hi1.c i', hget2, Eng.get_put]
      split
      · simp only [Eng.Root.set, show (Eng.E.inv fun _ => false) = id from funext Eng.inv_cell, List.map_id, injE]
        rw [← List.map_set]
        rfl
      · rw [Eng.get_invS]
        cases Eng.get (injS I φ st1) i' with
        | none => rfl
        | some r' => simp [Eng.inv_root]) (by rw [hsz2]; exact Nat.le_refl _) hT.bnd
    (fun l' hb hv hs => ⟨hvA l' hv, by simp [Eng.fdC, injLoc, hs]⟩)
    (fun l' hb hv => ⟨⟨hT.rootAt l' hv.1, fun hs => hvA l' (hv.2 hs)⟩, rfl⟩) (hT.cbnd hi1.c) (fun b hb => by rw [hsz2]; exact hi1.f b (by rw [← hF2]; exact hb))
  refine ⟨w2, g2, ?_, hp1.trans h3, h4⟩
  have hszt : u.cells.size = P.cellsOf t := by rw [hsz, ← hlz, hzl, hti.cells]
  simp only [Instr.storeAt, storeVar, Sem.run_bind, Eng.run_sure, Result.andThen_ok, Eng.run_size hti.kn, hszt]
  simp [hrun]
theorem op_store {t : TypeId} {xa x : Operand} (hT : TabOk P I tb) (hf : FnsOk φ cs) (ho : o.op = .store t xa x)
    (h : @opK L (Option ρ) (semL cs) (semF ρ) (semR ρ cs ls) tb st gd o.dst o.type o.op k = some r) : ∃ st', k st' = some r ∧ Does P I φ β nt o st gd st' := by
  rw [ho] at h
  cases gd with
  | some _ => simp only [opK] at h; cases h
  | none =>
  simp only [opK] at h
  obtain ⟨a, hya, h1⟩ := oCase_some h
  clear h
  obtain ⟨y0, hy0, h⟩ := oCase_some h1
  clear h1
  obtain ⟨i, hti, h1⟩ := oCase_some h
  clear h
  have hi := ti_facts (hT t i hti)
  split at h1
  · rename_i l
    split at h1
    · rename_i hdst
      unfold storeK at h1
      split at h1
      · cases h1
      · rename_i r0 hr0
        split at h1
        · rename_i hst
          split at h1
          · cases h1
          · rename_i e0 hm
            obtain ⟨ps, hps, h⟩ := oCase_some h1
            clear h1
            obtain ⟨⟨es, st1⟩, hab, h1⟩ := oCase_some h
            clear h
            simp only at h1
            split at h1
            · rename_i hc
              simp only [Bool.and_eq_true] at hc
              obtain ⟨hall, hlen, hle⟩ := hc
              have hlen := (beq_iff _ _).1 hlen
              have hle := Nat.le_of_ble_eq_true hle
              refine ⟨_, h1, ⟨fun ac w g hR hG hon K Q hK => ?_, fun ac w g gd' hgd => by cases hgd⟩⟩
              have hap := evalO_ok (P := P) (I := I) (φ := φ) (g := g) (w := w) hR.e hR.n (by intro kk hk; simp [gdKeys] at hk) hya
              have hau := evalO_ok (P := P) (I := I) (φ := φ) (g := g) (w := w) hR.e hR.n (by intro kk hk; simp [gdKeys] at hk) hy0
              obtain ⟨hsz, us, hus⟩ := avCells_ok hR.i hau hps
              obtain ⟨hel, g1, Ns, ht, hdis, hheld⟩ := absorbL_ok ps hR.i us (fun j c hj => (hus j c hj).2) hab
              obtain ⟨hroot, hgen⟩ := rootAt_iff.1 hr0
              obtain ⟨r1, hr1, hg1, hm1, hl1⟩ : ∃ r1, get st1.sto l.root = some r1 ∧ r1.gen = r0.gen ∧ r1.mem = r0.mem ∧ r1.cells.length = r0.cells.length := by
                have := absorbL_shape hab l.root
                rw [hroot] at this
                simp only [Option.map_some, Option.map_eq_some_iff] at this
                obtain ⟨r1, h1, h2⟩ := this
                simp only [Prod.mk.injEq] at h2
                exact ⟨r1, h1, h2.1, h2.2.1, h2.2.2⟩
              have hap1 := ht.pass.a _ _ hap
              have hua : ac.eval xa = .pointer (some ⟨g1.ad l.root, l.off, none⟩) := by
                generalize hua : ac.eval xa = ua at hap1
                cases hap1 with
                | pt _ b o hb h8 =>
                  have hr1' : Eng.get (injS I φ st1) (injLoc l).root = some (injR I φ st1 r1) := by rw [get_injS]; simp [injLoc, hr1]
                  have := h8 ⟨⟨r1, rootAt_iff.2 ⟨hr1, hg1.trans hgen⟩⟩, fun hs => absurd hst hs⟩ (by
                    unfold Eng.There
                    simp only [show (injLoc l).steps = [] by simp [injLoc, hst]]
                    exact ⟨_, e0, hr1', by simp [injR, hm1, hm]⟩)
                  unfold Eng.locA at this
                  rw [hr1'] at this
                  simp only [show (injLoc l).steps = [] by simp [injLoc, hst], injR, hm1, hm, Option.map_some, Option.some.injEq, Addr.mk.injEq, and_true] at this
                  obtain ⟨rfl, rfl⟩ := this
                  simp [injLoc]
              have hlu : (ac.eval x).cells.toList.length = es.length := by rw [Array.length_toList, hsz, hel]
              obtain ⟨g2, w2, hrun, hp2, hi2, he1, he2⟩ := storeCells_ok es (ac.eval x).cells.toList l.off 0 (g1.ad l.root) l.off ht.inv hr1 (hm1.trans hm) (by rw [hl1, hlen]; exact hle) Ns ht.free hdis hall hlu rfl (by omega)
                (fun j e u h1 h2 => by
                  have hjl := lt_of_get h1
                  obtain ⟨c, hc⟩ : ∃ c, ps[j]? = some c := ⟨ps[j]'(by omega), by simp [show j < ps.length by omega]⟩
                  have := (hus j c hc).1
                  rw [← Array.getElem?_toList, h2, Option.some.injEq] at this
                  rw [this]
                  exact hheld j e h1)
              unfold Oper.wp
              have hex : (execOp ac.eval o).run P w = .ok .skip w2 := by
                unfold execOp
                simp only [ho, hua]
                have hsz2 : (ac.eval x).cells.size = P.cellsOf t := by rw [hsz, ← hel, hlen, hi.cells]
                simp only [Instr.storeAt, storeVar, Sem.run_bind, Eng.run_sure, Result.andThen_ok, Eng.run_size hi.kn, hsz2]
                simp [hrun]
              rw [hex, Oper.upon_skip, hdst]
              have hpass := ht.pass.trans hp2
              exact hK _ _ g2 hpass ⟨hR.defers, hR.size, hi2, by rw [he1, ht.env.1]; exact hR.e.pass hpass, by rw [he2, ht.env.2]; exact hR.n.pass hpass⟩ fun s _ => rfl
            · cases h1
        · rename_i iv oo hst
          obtain ⟨xv, hxv, h⟩ := peek_pk h1
          clear h1
          obtain ⟨ps, hps, h1⟩ := oCase_some h
          clear h
          obtain ⟨zs, hzs, h⟩ := oCase_some h1
          clear h1
          split at h
          · rename_i stp v hc
            split at h
            · rename_i hcond
              simp only [Bool.and_eq_true] at hcond
              obtain ⟨hstp, hzl, hall⟩ := hcond
              have hstp := (beq_iff _ _).1 hstp
              have hzl := (beq_iff _ _).1 hzl
              obtain ⟨e, a, xs, kk, nn, xe, hv, hi0, h2, hin⟩ := idx_some h
              clear h
              subst hv; subst hi0
              obtain ⟨ys, hys, h⟩ := oCase_some h2
              clear h2
              split at h
              · rename_i hpl
                simp only [Bool.and_eq_true] at hpl
                have hle := Nat.le_of_ble_eq_true hpl.1
                have hn1 := Nat.le_of_ble_eq_true hpl.2
                obtain ⟨y, hy, h1⟩ := oCase_some h
                clear h
                obtain ⟨v', hv', h⟩ := oCase_some h1
                clear h1
                obtain ⟨hn0, hxe⟩ := hin (fun c hc => by cases hc)
                refine ⟨_, h, ⟨fun ac w g hR hG hon K Q hK => ?_, fun ac w g gd' hgd => by cases hgd⟩⟩
                have hap := evalO_ok (P := P) (I := I) (φ := φ) (g := g) (w := w) hR.e hR.n (by intro kk hk; simp [gdKeys] at hk) hya
                have hau := evalO_ok (P := P) (I := I) (φ := φ) (g := g) (w := w) hR.e hR.n (by intro kk hk; simp [gdKeys] at hk) hy0
                obtain ⟨w2, g2, hrun, hp2, hi2⟩ := store_deep hi hf hR.i hap hau hst hxv hps hzs hc hstp hzl hall hxe hys hle hn1 hy hv'
                unfold Oper.wp
                have hex : (execOp ac.eval o).run P w = .ok .skip w2 := by
                  unfold execOp
                  simp only [ho]
                  simp [hrun]
                rw [hex, Oper.upon_skip, hdst]
                have he := (setCell_env (freezeA st y0) l.root l.off ⟨stp, .o 1 v'⟩)
                have he2 := freezeA_env (st := st) y0
                exact hK _ _ g2 hp2 ⟨hR.defers, hR.size, hi2, by rw [he.1, he2.1]; exact hR.e.pass hp2, by rw [he.2, he2.2]; exact hR.n.pass hp2⟩ fun s _ => rfl
              · cases h
            · cases h
          · cases h
        · cases h1
    · cases h1
  · cases h1
end Go.Y
namespace Go.Y
open Go.Eng (T RepT RepM SRep Kept Base G SameOn VRep Split Live Free kn Owns ownB)
variable {P : Program} {I : Ids} {φ : FnP} {β : Base} {nt : Nat} {cs : List (Nat × Con)}
variable {ρ : Type} {ls : List (Nat × LoopC ρ)} {r : ρ} {tb : Tabs} {st : St L} {gd : Option (Gd L)} {k : St L → Option ρ} {o : Oper}
theorem op_convert {s t : TypeId} {x : Operand} (hT : TabOk P I tb) (hf : FnsOk φ cs) (ho : o.op = .convert s t x) (hd : ∀ d, o.dst = some d → d < nt) (hself : selfOk gd o.dst = true)
    (h : @opK L (Option ρ) (semL cs) (semF ρ) (semR ρ cs ls) tb st gd o.dst o.type o.op k = some r) : ∃ st', k st' = some r ∧ Does P I φ β nt o st gd st' := by
  rw [ho] at h
  simp only [opK] at h
  obtain ⟨xv, hx, h1⟩ := oCase_some h
  clear h
  obtain ⟨js, htj, h2⟩ := oCase_some h1
  clear h1
  have hj := ti_facts (hT s js htj)
  obtain ⟨ds, hds⟩ := Eng.kn_some hj.kn
  obtain ⟨i, hti, h1⟩ := oCase_some h2
  clear h2
  have hi := ti_facts (hT t i hti)
  split at h1
  · rename_i kd hkd
    split at h1
    · rename_i v
      split at h1
      · rename_i kv hkv
        obtain ⟨n, rfl⟩ := ty_int hkv
        obtain ⟨z, hz, h⟩ := oCase_some h1
        clear h1
        have hz : some (mkI kd (wr kd n)) = some z := hz
        simp only [Option.some.injEq] at hz
        subst hz
        refine ret_case h hd hself fun ac w g hiv he hn hh hon => ?_
        have ha := repI (arep_lf (evalO_ok (P := P) (I := I) (φ := φ) (g := g) (w := w) he hn hh hx))
        refine ⟨_, exec_conv ho ?_, .lf _ _ (repI' _ _)⟩
        rw [ha]
        unfold convert
        simp only [Sem.run_bind, run_underlying hds, run_underlying (form_int hi.form hkd), Result.andThen_ok]
        rfl
      · cases h1
    · cases h1
  · rename_i hstr
    obtain ⟨v, h2, hv⟩ := peek_ok (P := P) (I := I) hf h1
    clear h1
    split at h2
    · rename_i hvs
      obtain ⟨sv, rfl⟩ := ty_str hvs
      refine ret_case h2 hd hself fun ac w g hiv he hn hh hon => ?_
      have ha := repS (hv hiv _ (evalO_ok (P := P) (I := I) (φ := φ) (g := g) (w := w) he hn hh hx))
      refine ⟨_, exec_conv ho ?_, .lf _ _ (repS' sv)⟩
      rw [ha]
      unfold convert
      simp only [Sem.run_bind, run_underlying hds, run_underlying (form_str hi.form hstr), Result.andThen_ok]
      rfl
    · split at h2
      · rename_i e hsl
        obtain ⟨z, hz, h⟩ := oCase_some h2
        clear h2
        obtain ⟨vty, vv⟩ := v
        have : ∃ e', vty = .sl e' (.int .u8) := by
          have hz : toStrL ⟨vty, vv⟩ = some z := hz
          unfold toStrL at hz
          split at hz
          · rename_i e' xs heq
            simp only [L.mk.injEq] at heq
            exact ⟨e', heq.1⟩
          · cases hz
        obtain ⟨e', rfl⟩ := this
        have hz : some (⟨.str, toStr vv⟩ : L) = some z := hz
        simp only [Option.some.injEq] at hz
        subst hz
        refine ret_case h hd hself fun ac w g hiv he hn hh hon => ?_
        obtain ⟨⟨a, n, c, hu⟩, hb⟩ := run_bytes (hv hiv _ (evalO_ok (P := P) (I := I) (φ := φ) (g := g) (w := w) he hn hh hx))
        refine ⟨_, exec_conv ho ?_, .lf _ _ (repS' _)⟩
        rw [hu] at hb ⊢
        obtain ⟨hs1, _, hel⟩ := form_sl hj.form hsl
        rw [run_convert_bytes_string w s t e a n c hs1 ((el_facts hel).2.2.2 _ rfl) (form_str hi.form hstr)]
        exact hb
      · cases h2
  · rename_i e hsl
    split at h1
    · rename_i v
      split at h1
      · rename_i hvs
        obtain ⟨sv, rfl⟩ := ty_str hvs
        split at h1
        · rename_i hjs
          obtain ⟨z, hz, h⟩ := oCase_some h1
          clear h1
          have hz : some (⟨.sl e (.int .u8), toBytes sv⟩ : L) = some z := hz
          simp only [Option.some.injEq] at hz
          subst hz
          cases hdst : o.dst with
          | none => rw [hdst] at h; cases h
          | some d =>
            rw [hdst] at h
            refine ⟨_, h, does_val hdst (hd d hdst) hself rfl rfl (fun ac w g hiv he hn hh hon => ?_) fun w g hiv => ⟨g, Pass.refl _ _ _, hiv⟩⟩
            have ha := repS (arep_lf (evalO_ok (P := P) (I := I) (φ := φ) (g := g) (w := w) he hn hh hx))
            obtain ⟨hs1, _, hel⟩ := form_sl hi.form hsl
            obtain ⟨g2, h3, h4, h5⟩ := inv_fresh hiv (w' := Lib.bytesWorld w e ⟨sv.toArray⟩) (fun b hb => Lib.bytesWorld_at_old w e _ b hb) (by rw [Lib.bytesWorld_size]; omega) rfl rfl rfl
            refine ⟨.slice (some ⟨w.heap.size, 0, none⟩) (⟨sv.toArray⟩ : ByteArray).size (grownCap w (⟨sv.toArray⟩ : ByteArray).size 0 e), Lib.bytesWorld w e ⟨sv.toArray⟩, g2, ?_, h3, h4, .lf _ _ ?_⟩
            · unfold execOp
              simp only [ho]
              refine run_v ?_
              rw [ha]
              exact Lib.run_convert_string_bytes w s t e _ (form_str hj.form hjs) hs1 ((el_facts hel).2.2.2 _ rfl)
            · show RepT P _ _ (.sl e false ((toBytes sv).map fun x => tr I φ (.int .u8) x)) _
              have hfl : Eng.flat ((toBytes sv).map fun x => tr I φ (.int .u8) x) = (toBytes sv).map fun x => tr I φ (.int .u8) x := flat_single (A := .int .u8) rfl (toBytes sv)
              have hlen : ((toBytes sv).map fun x => tr I φ (.int .u8) x).length = (⟨sv.toArray⟩ : ByteArray).size := by simp [toBytes, ByteArray.size]
              have hget : ∀ (j : Nat) (c : T), (Eng.flat ((toBytes sv).map fun x => tr I φ (.int .u8) x))[j]? = some c → ∃ b, sv[j]? = some b ∧ c = .i .u8 (b.toNat : Int) := by
                intro j c hc
                rw [hfl, List.getElem?_map, Option.map_eq_some_iff] at hc
                obtain ⟨n, hn, rfl⟩ := hc
                rw [toBytes, List.getElem?_map, Option.map_eq_some_iff] at hn
                obtain ⟨b, hb, rfl⟩ := hn
                exact ⟨b, hb, rfl⟩
              rw [← hlen]
              refine RepT.sl e false _ w.heap.size 0 _ (fun j => .int .u8 ((sv.getD j 0).toNat : Int)) (fun _ => ?_) ?_ ?_ ?_ ?_
              · rw [h5, Lib.bytesWorld_size]; exact .inr ⟨Nat.le_refl _, by omega⟩
              · intro x hx
                obtain ⟨y, _, rfl⟩ := List.mem_map.1 hx
                exact elOk_fits hel y
              · rw [hlen]; exact grownCap_ge _ _ _ _
              · intro j c hc
                obtain ⟨b, hb, _⟩ := hget j c hc
                have hlt : j < sv.length := (List.getElem?_eq_some_iff.1 hb).1
                have := Lib.bytesWorld_cell w e (⟨sv.toArray⟩ : ByteArray) j (by simpa [ByteArray.size] using hlt)
                rw [Nat.zero_add]
                exact this
              · intro j c hc
                obtain ⟨b, hb, rfl⟩ := hget j c hc
                have : sv.getD j 0 = b := by rw [List.getD_eq_getElem?_getD, hb]; rfl
                rw [this]
                exact .i _ _
        · cases h1
      · cases h1
    · rename_i l
      cases gd with
      | some g1 => cases h1
      | none =>
        simp only at h1
        split at h1
        · rename_i dd v st1 d hst hab hdst
          have hst : s = t := Nat.eq_of_beq_eq_true hst
          subst hst
          split at h1
          · rename_i hvt
            obtain ⟨vty, xs⟩ := v
            have hvt : vty = .sl e (.int .u8) := of_decide_eq_true hvt
            subst hvt
            obtain ⟨n, hn, h⟩ := oCase_some h1
            clear h1
            have hn : (⟨.int .i64, len xs⟩ : L) = n := Option.some.inj hn
            subst hn
            obtain ⟨c, hc, h1⟩ := oCase_some h
            clear h
            have hc : (⟨.bool, decide ((0 : Int) < len xs)⟩ : L) = c := Option.some.inj hc
            subst hc
            have h1 : pCk (decide ((0 : Int) < len xs)) (k (putE st1 none d (.lf ⟨.sl e (.int .u8), xs⟩))) = some r := h1
            cases hpos : decide ((0 : Int) < len xs) with
            | false => rw [hpos] at h1; cases h1
            | true =>
              rw [hpos] at h1
              have hpos : 0 < xs.length := by
                have := of_decide_eq_true hpos
                simpa using this
              have h1 : k (putE st1 none d (.lf ⟨.sl e (.int .u8), xs⟩)) = some r := h1
              have henv : st1.env = st.env ∧ st1.gnv = st.gnv := absorb_env hab
              refine ⟨_, h1, does_new hdst (hd d hdst) henv.1 henv.2 fun ac w g hi' he hn => ?_⟩
              have hau := evalO_ok (P := P) (I := I) (φ := φ) (g := g) (w := w) he hn (by intro kk hk; simp [gdKeys] at hk) hx
              obtain ⟨g1, N, ht, hh⟩ := absorb_ok hi' hau hab
              obtain ⟨hs1, _, hel⟩ := form_sl hi.form hsl
              generalize hu : ac.eval x = u at hau hh
              have hh : RepM P w g1.F (dd + 1) (.sl e false (xs.map fun x => tr I φ (.int .u8) x)) u N := hh
              have hfl : Eng.flat (xs.map fun x => tr I φ (.int .u8) x) = xs.map fun x => tr I φ (.int .u8) x := flat_single (A := .int .u8) rfl xs
              have hfit : ∀ y ∈ (xs.map fun x => tr I φ (.int .u8) x), Eng.Fits P e y := by
                intro y hy
                obtain ⟨z, _, rfl⟩ := List.mem_map.1 hy
                exact elOk_fits hel z
              obtain ⟨b, cap, cur, rfl, hNb, hgb, hle, hcells⟩ : ∃ b cap cur, u = .slice (some ⟨b, 0, none⟩) xs.length cap ∧ N b ∧ w.heap[b]? = some (.cells cur e (0, 0)) ∧ xs.length ≤ cap ∧
                  ∀ (j : Nat) (z : Int), xs[j]? = some z → cur[j]? = some (.int .u8 z) := by
                obtain ⟨us, ho, hs, Bs, hsp, hcc⟩ := hh
                have hlen : (xs.map fun x => tr I φ (.int .u8) x).length = xs.length := by simp
                rcases ho with ho | ⟨hn0, _, _⟩
                · rcases ho.2 with ⟨_, hn0⟩ | ⟨gg, cap, cur, hv, hb, hgg, hnc, hcm, hcs, htk⟩
                  · rw [hlen] at hn0; omega
                  · subst hv
                    rw [hlen] at hnc htk ⊢
                    refine ⟨gg, cap, cur, rfl, hsp.1 gg (by cases cap with | zero => omega | succ k => rfl), hgg, hnc, fun j z hz => ?_⟩
                    have hj : (Eng.flat (xs.map fun x => tr I φ (.int .u8) x))[j]? = some (.i .u8 z) := by rw [hfl, List.getElem?_map, hz]; rfl
                    have hlt : j < us.length := by
                      have := Owns.len (show Owns w e (P.cellsOf e) _ _ us from .inl ho)
                      rw [this, ← Eng.flat_length hs]
                      exact (List.getElem?_eq_some_iff.1 hj).1
                    have huj : us[j]? = some us[j] := by simp [hlt]
                    have hr := hcc j _ _ hj huj
                    have hr2 : us[j] = .int .u8 z := by
                      generalize us[j] = q at hr
                      cases dd with
                      | zero => cases hr; rfl
                      | succ m => cases hr; rfl
                    rw [hr2, ← htk, List.getElem?_take] at huj
                    split at huj
                    · simpa using huj
                    · cases huj
                · rw [hlen] at hn0; omega
              have hshape : w.shape? b = some (e, cur.size) := by simp [World.shape?, hgb]
              have hfr := ht.free b hNb
              have hw : ∀ b', b' ≠ b → (w.freeze ⟨b, cur.size, none⟩ 1).heap[b']? = w.heap[b']? := by
                intro b' hb'
                simp [World.freeze, Array.getElem?_modify, Ne.symm hb']
              have hwb : (w.freeze ⟨b, cur.size, none⟩ 1).heap[b]? = some (.cells cur e (cur.size, cur.size + 1)) := by
                simp [World.freeze, Array.getElem?_modify, hgb]
              have hsz : (w.freeze ⟨b, cur.size, none⟩ 1).heap.size = w.heap.size := by simp [World.freeze]
              obtain ⟨hp2, hi2⟩ := inv_world ht.inv (w' := w.freeze ⟨b, cur.size, none⟩ 1) (fun b' hb' _ => hw b' fun e => by subst e; rcases hb' with h | h; exact hfr.2.1 h; exact hfr.1 h) (by omega)
                (fun b' h2 h3 => hw b' fun e => by subst e; rcases hfr.2.2.2 with h | h; exact h3 h; omega) rfl rfl rfl
              obtain ⟨hp3, hi3⟩ := inv_give hi2 N (fun b' hb' => ⟨(ht.free b' hb').1, (ht.free b' hb').2.1, by rw [hsz]; exact (ht.free b' hb').2.2.1, (ht.free b' hb').2.2.2⟩)
              refine ⟨.slice (some ⟨b, 0, none⟩) xs.length cap, w.freeze ⟨b, cur.size, none⟩ 1, _, ?_, (ht.pass.trans hp2).trans hp3, hi3, .lf _ _ ?_⟩
              · unfold execOp
                simp only [ho]
                refine run_v ?_
                rw [hu]
                have hu8 := (el_facts hel).2.2.2 _ rfl
                simp [convert, run_underlying hs1, run_underlying hu8, markStringish, hshape, Result.andThen]
              · show RepT P _ _ (.sl e false (xs.map fun x => tr I φ (.int .u8) x)) _
                have hlen : (xs.map fun x => tr I φ (.int .u8) x).length = xs.length := by simp
                rw [← hlen]
                refine RepT.sl e false _ b 0 cap (fun j => .int .u8 (xs.getD j 0)) (fun _ => .inr hNb) hfit (by rw [hlen]; exact hle) (fun j t hj => ?_) fun j t hj => ?_
                · rw [hfl, List.getElem?_map, Option.map_eq_some_iff] at hj
                  obtain ⟨z, hz, rfl⟩ := hj
                  rw [cell_of_row _ _ _ _ e _ hwb, Nat.zero_add, hcells j z hz, List.getD_eq_getElem?_getD, hz]
                  rfl
                · rw [hfl, List.getElem?_map, Option.map_eq_some_iff] at hj
                  obtain ⟨z, hz, rfl⟩ := hj
                  rw [List.getD_eq_getElem?_getD, hz]
                  exact .i _ _
          · cases h1
        · cases h1
    · cases h1
  · cases h1
end Go.Y
namespace Go.Y
open Go.Eng (T RepT RepM SRep Kept Base G SameOn VRep Split Live Free kn Owns ownB RootOk ERep HPred)
variable {P : Program} {I : Ids} {β : Base} {nt : Nat} {cs : List (Nat × Con)}
variable {ρ : Type} {ls : List (Nat × LoopC ρ)} {r : ρ} {tb : Tabs} {st : St L} {gd : Option (Gd L)} {k : St L → Option ρ} {o : Oper}
theorem errL_some {v z : L} (h : errL v = some z) : ∃ n : Int, v = ⟨.int .i64, n⟩ ∧ z = ⟨.err, Err.no n⟩ := by
  obtain ⟨vt, vv⟩ := v
  cases vt with
  | int k =>
    cases k with
    | i64 =>
      have h : some (⟨.err, Err.no vv⟩ : L) = some z := h
      simp only [Option.some.injEq] at h
      exact ⟨vv, rfl, h.symm⟩
    | _ => cases h
  | _ => cases h
theorem op_iface {t : TypeId} {x : Operand} (hT : TabOk P I tb) (ho : o.op = .makeInterface t x) (hd : ∀ d, o.dst = some d → d < nt) (hself : selfOk gd o.dst = true)
    (h : @opK L (Option ρ) (semL cs) (semF ρ) (semR ρ cs ls) tb st gd o.dst o.type o.op k = some r) : ∃ st', k st' = some r ∧ Does P I (phi P I) β nt o st gd st' := by
  rw [ho] at h
  simp only [opK] at h
  obtain ⟨xv, hx, h⟩ := oCase_some h
  obtain ⟨i, hti, h⟩ := oCase_some h
  cases xv with
  | lf v =>
    simp only at h
    split at h
    · rename_i kk hty
      split at h
      · cases h
      · rename_i m hm
        obtain ⟨z, hz, h⟩ := oCase_some h
        have hte := (ti_facts (hT t i hti)).eno kk m hty hm
        refine ret_case h hd hself fun a w g hi he hn hh hon => ?_
        have hr := arep_lf (evalO_ok (P := P) (I := I) (φ := phi P I) (g := g) (w := w) he hn hh hx)
        have hz : errL v = some z := hz
        obtain ⟨n, rfl, rfl⟩ := errL_some hz
        have hr : RepT P w g.F (.i .i64 n) (a.eval x) := hr
        have hu : a.eval x = .int .i64 n := by
          generalize a.eval x = u at hr
          cases hr; rfl
        refine ⟨.iface t (.int .i64 n), ?_, .lf _ _ ?_⟩
        · have hfo := (ti_facts (hT t i hti)).form
          unfold formOk at hfo
          rw [hty] at hfo
          simp only at hfo
          have hcon : P.concrete t = true := by
            unfold Program.concrete
            split at hfo
            · rename_i k' hun
              rw [hun]
            · cases hfo
          unfold execOp
          simp only [ho, hu, Sem.run_bind, run_makeInterface w t (.int .i64 n) hcon, Result.andThen_ok, Sem.run_pure]
        · rw [hte]
          exact .ifc _ _ _ (.i _ _)
    · cases h
  | _ => cases h
theorem op_ok (hT : TabOk P I tb) (hf : FnsOk (phi P I) cs) (hC : CallsOk P I (phi P I) cs tb) : OpOk P I (phi P I) β nt cs ls tb := by
  intro o st gd k r hd hself h
  cases ho : o.op with
  | move x => exact op_move (.inl ho) hd hself h
  | assign x => exact op_move (.inr ho) hd hself h
  | pick c a b => exact op_pick ho hd hself h
  | alloc e => exact op_alloc hT ho hd h
  | box e x => exact op_box hT hf ho hd h
  | build t ps => exact op_build hT ho hd hself h
  | buildSlice t n ps => exact op_buildSlice hT hf ho hd hself h
  | load t x => exact op_load hT ho hd hself h
  | store t a x => exact op_store hT hf ho h
  | nilCheck x => exact op_nilCheck ho hd hself h
  | binOp op t x y u => exact op_bin hT hf ho hd hself h
  | unOp op t x => exact op_un ho hd hself h
  | makeInterface t x => exact op_iface hT ho hd hself h
  | convert s t x => exact op_convert hT hf ho hd hself h
  | makeSlice t n c => exact op_makeSlice hT ho hd h
  | slice t x lo hi mx => exact op_slice hT hf ho hd hself h
  | fieldAddr t x f => exact op_fieldAddr hT ho hd hself h
  | field t x f => exact op_field hT ho hd hself h
  | indexAddr t x i => exact op_indexAddr hT ho hd hself h
  | index t x i => exact op_index hT ho hd hself h
  | extract x i => exact op_extract ho hd hself h
  | makeFunc fn first cap =>
    cases fn with
    | func f =>
      obtain ⟨l⟩ := first
      cases l with
      | nil => exact op_makeFunc ho hd hself h
      | cons a l => rw [ho] at h; simp only [opK] at h; cases h
    | _ => rw [ho] at h; simp only [opK] at h; cases h
  | call c =>
    cases hc : c.callee with
    | builtin b =>
      cases b with
      | len => exact op_len hT hf ho hc hd hself h
      | min => exact op_minmax (b := false) ho hc hd hself h
      | max => exact op_minmax (b := true) ho hc hd hself h
      | append => exact op_append hT hf ho hc hd hself h
      | _ => rw [ho] at h; simp only [opK, hc] at h; cases h
    | invoke rc m => rw [ho] at h; simp only [opK, hc] at h; cases h
    | value xf =>
      have h2 := h
      rw [ho] at h2
      simp only [opK, hc] at h2
      split at h2
      · cases h2
      · rename_i hlen
        have hlen := (beq_iff _ _).1 hlen
        obtain ⟨y, hy, h3⟩ := oCase_some h2
        clear h2
        split at h3
        · rename_i f cap
          exact op_call hC hf ho hc hd hself f cap (fun ac w g he hn hh => evalO_ok he hn hh hy) h3 hlen
        · rename_i fv
          split at h3
          · rename_i A B hfv
            exact op_callV hf ho hc hd hself (fun ac w g he hn hh => evalO_ok he hn hh hy) hfv h3 hlen
          · cases h3
        · cases h3
  | _ => rw [ho] at h; simp only [opK] at h; cases h
end Go.Y
namespace Go.Y
open Go.Eng (T RepT RepM SRep Kept Base G SameOn VRep Split Live Free kn Owns ownB RootOk ERep HPred)
variable {P : Program} {I : Ids} {φ : FnP} {β : Base} {nt : Nat} {cs : List (Nat × Con)}
variable {ρ : Type} {ls : List (Nat × LoopC ρ)} {r : ρ} {tb : Tabs} {st : St L}
theorem run_mapM {α : Type} (f : α → Sem Value) (w : World) : ∀ (l : List α) (us : List Value), us.length = l.length → (∀ (j : Nat) x, l[j]? = some x → ∃ u, us[j]? = some u ∧ (f x).run P w = .ok u w) → (l.mapM f).run P w = .ok us w
  | [], us, hl, _ => by
    have : us = [] := List.eq_nil_of_length_eq_zero (by simpa using hl)
    subst this
    simp
  | x :: l, [], hl, _ => by simp at hl
  | x :: l, u :: us, hl, h => by
    obtain ⟨u', h1, h2⟩ := h 0 x rfl
    simp only [List.getElem?_cons_zero, Option.some.injEq] at h1
    subst h1
    have h3 := run_mapM f w l us (by simpa using hl) fun j y hj => h (j + 1) y (by simpa using hj)
    simp only [List.mapM_cons, Sem.run_bind, h2, Result.andThen_ok, h3, Sem.run_pure]
def resOf (a : Act) : ResultVar → Sem Value
  | .tmp t => pure (a.tmps.getD t undef)
  | .cell x t => do loadVar t (← asAddr (a.tmps.getD x undef))
theorem resK_ok (β : Base) (hT : TabOk P I tb) : ∀ (rs : List ResultVar) (acc : List (AV L)) {f : List (AV L) → Option ρ}, @resK L (Option ρ) (semL cs) (semF ρ) (semR ρ cs ls) tb st rs acc f = some r →
    ∃ xs, f (acc.reverse ++ xs) = some r ∧ xs.length = rs.length ∧ ∀ {nt : Nat} {g : G} {a : Act} {w : World}, RelG P I φ β nt st g a w → ∀ (j : Nat) x rv, xs[j]? = some x → rs[j]? = some rv → ∃ u, (resOf a rv).run P w = .ok u w ∧ ARep P I φ st g w x u
  | [], acc, f, h => by
    simp only [resK] at h
    exact ⟨[], by simpa using h, rfl, fun _ j x rv hj => by simp at hj⟩
  | rv :: rs, acc, f, h => by
    have step : ∀ y, @resK L (Option ρ) (semL cs) (semF ρ) (semR ρ cs ls) tb st rs (y :: acc) f = some r →
        (∀ {nt : Nat} {g : G} {a : Act} {w : World}, RelG P I φ β nt st g a w → ∃ u, (resOf a rv).run P w = .ok u w ∧ ARep P I φ st g w y u) →
        ∃ xs, f (acc.reverse ++ xs) = some r ∧ xs.length = (rv :: rs).length ∧ ∀ {nt : Nat} {g : G} {a : Act} {w : World}, RelG P I φ β nt st g a w → ∀ (j : Nat) x rv', xs[j]? = some x → (rv :: rs)[j]? = some rv' → ∃ u, (resOf a rv').run P w = .ok u w ∧ ARep P I φ st g w x u := by
      intro y h1 hy
      obtain ⟨xs, h2, h3, h4⟩ := resK_ok β hT rs (y :: acc) h1
      refine ⟨y :: xs, by simpa using h2, by simp [h3], fun hR j x rv' hj hk => ?_⟩
      cases j with
      | zero =>
        simp only [List.getElem?_cons_zero, Option.some.injEq] at hj hk
        subst hj; subst hk
        exact hy hR
      | succ j => exact h4 hR j x rv' (by simpa using hj) (by simpa using hk)
    cases rv with
    | tmp s =>
      simp only [resK] at h
      obtain ⟨x, hx, h1⟩ := oCase_some h
      refine step x h1 fun hR => ?_
      obtain ⟨u, hu, hr⟩ := hR.e s x hx
      refine ⟨u, ?_, hr⟩
      simp [resOf, Array.getD_eq_getD_getElem?, hu]
    | cell s t =>
      simp only [resK] at h
      obtain ⟨x, hx, h1⟩ := oCase_some h
      clear h
      obtain ⟨i, hti, h⟩ := oCase_some h1
      clear h1
      have hi := ti_facts (hT t i hti)
      split at h
      · rename_i l
        obtain ⟨y, h2, h3⟩ := loadK_ok (P := P) (I := I) (φ := φ) (β := β) hi h
        refine step y h2 fun hR => ?_
        obtain ⟨u, hu, hr⟩ := hR.e s _ hx
        obtain ⟨z, h4, h5⟩ := h3 (fun c hc => by cases hc) hR.i hr
        refine ⟨z, ?_, h5⟩
        cases hr with
        | pt _ b o hb hh =>
          simp only [resOf, Array.getD_eq_getD_getElem?, hu, Option.getD_some]
          simpa [Instr.loadAt, Instr.sureAddr, asAddr] using h4
      · cases h
def finKeys (s : SH) (n : Nat) : Bool := decide (s.sh.env.map (·.1) = List.range n) && decide (s.h.live = List.range n)
theorem fin1_ok (hf : FnsOk φ cs) {s : SH} {rs : List ResultVar} {k : L → Option ρ} {xs : List (AV L)} (hxl : xs.length = rs.length)
    (hxr : ∀ {nt : Nat} {g : G} {a : Act} {w : World}, RelG P I φ β nt st g a w → ∀ (j : Nat) x rv, xs[j]? = some x → rs[j]? = some rv → ∃ u, (resOf a rv).run P w = .ok u w ∧ ARep P I φ st g w x u)
    (h : @fin1 L (Option ρ) (semL cs) (semF ρ) s st xs k = some r) {g : G} {a : Act} {w : World} (hR : RelG P I φ β nt st g a w) :
    ∃ (us : List Value) (vs : List L) (g' : G), us.length = rs.length ∧ (∀ (j : Nat) rv, rs[j]? = some rv → ∃ u, us[j]? = some u ∧ (resOf a rv).run P w = .ok u w) ∧ k (@tup L (semL cs) vs) = some r ∧ vs.map (·.ty) = leafs s.sh ∧ Inv P I φ β (fill s.sh vs) g' w ∧
      ∀ (j : Nat) x, get (fill s.sh vs).env j = some x → ∃ u, us[j]? = some u ∧ ARep P I φ (fill s.sh vs) g' w x u := by
  have h1 := h
  unfold fin1 at h1
  obtain ⟨ys, h2, hyl, hpl, hys⟩ := selK_some2 _ _ _ h1
  clear h1
  simp only [List.reverse_nil, List.nil_append] at h2
  obtain ⟨h3, h4, h5⟩ := toSh_some h2
  clear h2
  have hu : ∀ j, j < rs.length → ∃ u, ∃ x rv, xs[j]? = some x ∧ rs[j]? = some rv ∧ (resOf a rv).run P w = .ok u w ∧ ARep P I φ st g w x u := by
    intro j hj
    have hx : xs[j]? = some (xs[j]'(by omega)) := List.getElem?_eq_getElem _
    have hv : rs[j]? = some rs[j] := List.getElem?_eq_getElem _
    obtain ⟨u, h6, h7⟩ := hxr hR j _ _ hx hv
    exact ⟨u, _, _, hx, hv, h6, h7⟩
  classical
  let us : List Value := (List.range rs.length).map fun j => if hj : j < rs.length then (hu j hj).choose else undef
  have hus : ∀ j (hj : j < rs.length), us[j]? = some (hu j hj).choose := by
    intro j hj
    simp only [us, List.getElem?_map, List.getElem?_range hj, Option.map_some, dif_pos hj]
  obtain ⟨g1, hp1, hi1, hfr⟩ := frSel_ok hf (patsOf s.sh.env) xs st g hR.i
  have hR2 : RelG P I φ β us.length ⟨zipN 0 ys, [], (frSel st (patsOf s.sh.env) xs).sto⟩ g1 ⟨us.toArray, []⟩ w := by
    refine ⟨rfl, by simp, hi1.env (zipN 0 ys) [], fun sl x hx => ?_, fun sl k b x hx => by simp at hx⟩
    rw [zipN_get] at hx
    simp only [Nat.zero_le, if_true, Nat.sub_zero] at hx
    have hsl : sl < rs.length := by have := lt_of_get hx; omega
    refine ⟨(hu sl hsl).choose, by simp only [List.getElem?_toArray]; exact hus sl hsl, ?_⟩
    obtain ⟨x0, rv, hx0, _, _, har⟩ := (hu sl hsl).choose_spec
    have hp : (patsOf s.sh.env)[sl]? = some ((patsOf s.sh.env)[sl]'(by omega)) := List.getElem?_eq_getElem _
    rcases hys sl x0 x _ hx0 hx hp with ⟨e, _⟩ | ⟨v, e, hpk, hl⟩
    · subst e
      exact (hp1.a _ _ har).env _ _
    · subst e
      exact .lf _ _ (hfr sl x0 _ v _ hx0 hp hl hpk har)
  obtain ⟨g', hR3⟩ := prep_ok (cs := cs) s.h hR2
  rw [← h5] at hR3
  refine ⟨us, _, g', by simp [us], fun j rv hj => ?_, h3, leafs_ty h4, hR3.i, fun j x hx => ?_⟩
  · have hjl := lt_of_get hj
    obtain ⟨x0, rv', _, hv, h6, _⟩ := (hu j hjl).choose_spec
    rw [hj, Option.some.injEq] at hv
    subst hv
    exact ⟨_, hus j hjl, h6⟩
  · obtain ⟨u, hu1, hu2⟩ := hR3.e j x hx
    exact ⟨u, by simpa using hu1, hu2⟩
def finKeys2 (H : Hints) (n : Nat) : Bool := finKeys H.fin n && (match H.fin2 with | none => true | some s => finKeys s n)
theorem finA_ok (hT : TabOk P I tb) (hf : FnsOk φ cs) {H : Hints} {rs : List ResultVar} {sg : Sig} (hout : sg.out = H.fin.sh) (halt : sg.alt = H.fin2.map (·.sh)) {k : L → Option ρ} (h : @finA L (Option ρ) (semL cs) (semF ρ) (semR ρ cs ls) tb H rs st k = some r)
    (hk : finKeys2 H rs.length = true) {g : G} {a : Act} {w : World} (hR : RelG P I φ β nt st g a w) :
    ∃ (us : List Value) (s : SH) (vs : List L) (v : L) (g' : G), us.length = rs.length ∧ (∀ (j : Nat) rv, rs[j]? = some rv → ∃ u, us[j]? = some u ∧ (resOf a rv).run P w = .ok u w) ∧ k v = some r ∧ (∀ c, outs c sg v = some (s.sh, vs)) ∧ finKeys s rs.length = true ∧ vs.map (·.ty) = leafs s.sh ∧ Inv P I φ β (fill s.sh vs) g' w ∧
      ∀ (j : Nat) x, get (fill s.sh vs).env j = some x → ∃ u, us[j]? = some u ∧ ARep P I φ (fill s.sh vs) g' w x u := by
  unfold finA at h
  obtain ⟨xs, h1, hxl, hxr⟩ := resK_ok (P := P) (I := I) (φ := φ) β hT rs [] h
  clear h
  simp only [List.reverse_nil, List.nil_append] at h1
  unfold finKeys2 at hk
  rw [Bool.and_eq_true] at hk
  obtain ⟨hk1, hk2⟩ := hk
  have hun : ∀ (c : List (Nat × Con)) (o : St Ty) (vs : List L), vs.map (·.ty) = leafs o → @untup L (semL c) (leafs o).length (@tup L (semL cs) vs) = some vs := by
    intro c o vs hv
    rw [← hv, List.length_map, tup_sem cs c, untup_tup]
  cases h2 : H.fin2 with
  | none =>
    rw [h2] at h1 halt
    obtain ⟨us, vs, g', h3, h4, h5, h6, h7, h8⟩ := fin1_ok hf hxl hxr h1 hR
    refine ⟨us, H.fin, vs, _, g', h3, h4, h5, fun c => ?_, hk1, h6, h7, h8⟩
    unfold outs
    simp only [halt, Option.map_none, hout]
    rw [hun c _ vs h6]
  | some s2 =>
    rw [h2] at h1 halt hk2
    simp only at h1
    split at h1
    · obtain ⟨us, vs, g', h3, h4, h5, h6, h7, h8⟩ := fin1_ok hf hxl hxr h1 hR
      refine ⟨us, H.fin, vs, _, g', h3, h4, h5, fun c => ?_, hk1, h6, h7, h8⟩
      unfold outs
      simp only [halt, Option.map_some]
      show (match @untup L (semL c) (leafs sg.out).length (⟨(@tup L (semL cs) vs).ty, (@tup L (semL cs) vs).val⟩ : L) with | some rs => some (sg.out, rs) | none => none) = _
      rw [hout]
      have := hun c _ vs h6
      rw [show (⟨(@tup L (semL cs) vs).ty, (@tup L (semL cs) vs).val⟩ : L) = @tup L (semL cs) vs from rfl, this]
    · obtain ⟨us, vs, g', h3, h4, h5, h6, h7, h8⟩ := fin1_ok hf hxl hxr h1 hR
      refine ⟨us, s2, vs, _, g', h3, h4, h5, fun c => ?_, hk2, h6, h7, h8⟩
      unfold outs
      simp only [halt, Option.map_some]
      show (match @untup L (semL c) (leafs s2.sh).length (⟨(@tup L (semL cs) vs).ty, (@tup L (semL cs) vs).val⟩ : L) with | some rs => some (s2.sh, rs) | none => none) = _
      have := hun c _ vs h6
      rw [show (⟨(@tup L (semL cs) vs).ty, (@tup L (semL cs) vs).val⟩ : L) = @tup L (semL cs) vs from rfl, this]
end Go.Y
namespace Go.Y
open Go.Eng (T RepT RepM SRep Kept Base G SameOn VRep Split Live Free kn Owns ownB RootOk ERep HPred)
variable {P : Program} {I : Ids} {φ : FnP} {β : Base} {nt : Nat} {cs : List (Nat × Con)} {tb : Tabs}
def unT : (ts : List Ty) → (tupTy ts).den → List L
  | [], _ => []
  | [t], x => [⟨t, x⟩]
  | t :: t' :: ts, x => ⟨t, x.1⟩ :: unT (t' :: ts) x.2
theorem unT_of : ∀ (vs : List L) (x : (tupTy (vs.map (·.ty))).den), (tupL vs).as (tupTy (vs.map (·.ty))) = some x → unT (vs.map (·.ty)) x = vs
  | [], x, _ => rfl
  | [v], x, h => by
    have := as_some h
    have h : tupL [v] = ⟨v.ty, x⟩ := this
    simp only [tupL] at h
    show [(⟨v.ty, x⟩ : L)] = [v]
    rw [← h]
  | v :: w :: r, x, h => by
    have hty : ∀ (us : List L), (tupL us).ty = tupTy (us.map (·.ty)) := by
      intro us
      induction us with
      | nil => rfl
      | cons u us ih =>
        cases us with
        | nil => rfl
        | cons u2 us => show Ty.pair u.ty (tupL (u2 :: us)).ty = Ty.pair u.ty (tupTy ((u2 :: us).map (·.ty))); rw [ih]
    have hw := hty (w :: r)
    have key : ∀ (B : Ty), (tupL (w :: r)).ty = B → ∀ (x1 : v.ty.den) (x2 : B.den), tupL (v :: w :: r) = ⟨.pair v.ty B, (x1, x2)⟩ → x1 = v.val ∧ (tupL (w :: r)).as B = some x2 := by
      intro B hB x1 x2 he
      subst hB
      have he : (⟨.pair v.ty (tupL (w :: r)).ty, (v.val, (tupL (w :: r)).val)⟩ : L) = ⟨.pair v.ty (tupL (w :: r)).ty, (x1, x2)⟩ := he
      have := eq_of_heq (L.mk.inj he).2
      simp only [Prod.mk.injEq] at this
      exact ⟨this.1.symm, by rw [as_self, this.2]⟩
    obtain ⟨h2, h3⟩ := key _ hw x.1 x.2 (as_some h)
    show (⟨v.ty, x.1⟩ : L) :: unT ((w :: r).map (·.ty)) x.2 = v :: w :: r
    rw [unT_of (w :: r) x.2 h3, h2]
theorem fillE_keys : ∀ (e : List (Nat × AV Ty)) (vs : List L), (fillE e vs).1.map (·.1) = e.map (·.1)
  | [], vs => rfl
  | (k, x) :: e, vs => by simp only [fillE, List.map_cons, fillE_keys e]
theorem get_vals : ∀ (env : List (Nat × AV L)) (m n : Nat), env.map (·.1) = List.range' m n → ∀ j, get env (m + j) = (vals env)[j]?
  | [], m, n, _, j => by simp [get, vals]
  | (k, x) :: env, m, 0, h, j => by simp at h
  | (k, x) :: env, m, n + 1, h, j => by
    simp only [List.map_cons, List.range'_succ, List.cons.injEq] at h
    obtain ⟨rfl, h⟩ := h
    rw [get_cons]
    cases j with
    | zero => simp [vals]
    | succ j =>
      rw [if_neg (by omega)]
      have := get_vals env (k + 1) n h j
      rw [show k + (j + 1) = k + 1 + j by omega, this]
      simp [vals]
structure Fun where
  ts : List Ty
  ins : St Ty
  keep : List Nat
  tb : Tabs
  H : Hints
  cs : List (Nat × Con)
  B : Ty
  F : (tupTy ts).den → Option B.den
  code : Code
  res : List ResultVar
  ls : List (Nat × LoopC B.den)
def Fun.con (q : Fun) : Con := ⟨tupTy q.ts, q.B, q.F⟩
noncomputable def Fun.fin (q : Fun) : St L → (L → Option q.B.den) → Option q.B.den := @finA L (Option q.B.den) (semL q.cs) (semF _) (semR _ q.cs q.ls) q.tb q.H q.res
def Fun.ret (q : Fun) : L → Option q.B.den := fun v => v.as q.B
noncomputable def Fun.run (q : Fun) (st : St L) : Option q.B.den :=
  @yrun L (Option q.B.den) (semL q.cs) (semF _) (semR _ q.cs q.ls) q.tb q.H q.fin q.B q.ret q.code st (fun st => q.fin st q.ret) []
def keepOk (n : Nat) : List Nat → Bool
  | [] => true
  | p :: r => Nat.blt p n && keepOk n r
theorem keepOk_lt {n : Nat} : ∀ {l : List Nat}, keepOk n l = true → ∀ p ∈ l, p < n
  | [], _, p, hp => by simp at hp
  | q :: r, h, p, hp => by
    simp only [keepOk, Bool.and_eq_true] at h
    rcases List.mem_cons.1 hp with rfl | hp
    · have := h.1; rwa [Nat.blt_eq] at this
    · exact keepOk_lt h.2 p hp
theorem resV_zip {keep : List Nat} {env : List (Nat × AV L)} {j : Nat} {y : AV L} (h : (resV keep env)[j]? = some y) : (vals env)[j]? = some y ∧ j < env.length - keep.length := by
  cases keep with
  | nil =>
    have h : (vals env)[j]? = some y := h
    refine ⟨h, ?_⟩
    have := lt_of_get h
    rw [vals_len] at this
    simpa using this
  | cons p ps =>
    simp only [resV, takeL_eq, List.getElem?_take] at h
    split at h
    · exact ⟨h, by assumption⟩
    · cases h
theorem fnOk {f : FuncId} {fn : Func} {q : Fun} {sg : Sig} (hfn : P.funcs[f]? = some fn) (hname : (fn.name == "runtime.NumGoroutine") = false) (hbody : fn.body = some q.code) (hres : fn.results.toList ++ q.keep.map .tmp = q.res)
    (hins : sg.ins = q.ins) (hts : leafs q.ins = q.ts) (hout : sg.out = q.H.fin.sh) (halt : sg.alt = q.H.fin2.map (·.sh)) (hkeep : sg.keep = q.keep) (hmany : sg.many = decide (fn.results.toList.length ≠ 1)) (hB : q.B = altTy q.H.fin.sh (q.H.fin2.map (·.sh)))
    (hT : TabOk P I q.tb) (hf : FnsOk (phi P I) q.cs) (hC : CallsOk P I (phi P I) q.cs q.tb) (hD : ∀ β pins, DrawOk P I (phi P I) β fn.ntmps q.cs q.ls q.tb pins)
    (hL : ∀ body ∈ subLoops q.code, ∀ lh lc, get q.H.loops (codeKey body) = some lh → get q.ls (codeKey body) = some lc → ∃ Fn, LoopOk q.cs q.ls q.tb q.H q.fin q.B lc lh body Fn)
    (hcode : codeOk fn.ntmps q.keep (fun _ => true) q.code = true) (hkeys : finKeys2 q.H q.res.length = true) (hn : q.ins.env.length ≤ fn.ntmps) (hko : keepOk q.ins.env.length q.keep = true)
    (hrun : ∀ x : (tupTy q.ts).den, q.run (fill q.ins (unT q.ts x)) = q.F x) : FnOk P I (phi P I) f sg q.con := by
  refine ⟨⟨fn, hfn, hname, by rw [hbody]; rfl⟩, by unfold resTy; rw [hout, halt]; exact hB, fun x r hF vs hx hty β w g us hinv hus hrep => ?_⟩
  rw [hins] at hty hinv hus hrep
  rw [hts] at hty
  have hin : q.run (fill q.ins (unT q.ts x)) = some r := (hrun x).trans hF
  have hvs : unT q.ts x = vs := by
    have h3 : ∀ (ts : List Ty) (hts : vs.map (·.ty) = ts) (x : (tupTy ts).den), (tupL vs).as (tupTy ts) = some x → unT ts x = vs := by
      intro ts hts x hx
      subst hts
      exact unT_of vs x hx
    exact h3 q.ts hty x hx
  rw [hvs] at hin
  refine calls_of_wp hfn hbody ?_
  have hR : RelG P I (phi P I) β fn.ntmps (fill q.ins vs) g { tmps := us ++ Array.replicate (fn.ntmps - us.size) undef, defers := [] } w := by
    refine ⟨rfl, by simp; omega, hinv, fun s y hy => ?_, fun s k b y hy => by simp [fill] at hy⟩
    obtain ⟨u, hu, hr⟩ := hrep s y hy
    have hsl := (Array.getElem?_eq_some_iff.1 hu).1
    exact ⟨u, by rw [Array.getElem?_append_left hsl]; exact hu, hr⟩
  have hpin0 : ∀ p ∈ q.keep, p < us.size := fun p hp => by rw [hus]; exact keepOk_lt hko p hp
  have hpin : Pin (q.keep.map fun p => (p, us.getD p undef)) { tmps := us ++ Array.replicate (fn.ntmps - us.size) undef, defers := [] } := by
    intro p hp
    obtain ⟨p0, hp0, rfl⟩ := List.mem_map.1 hp
    have := hpin0 p0 hp0
    simp only
    rw [Array.getElem?_append_left this]
    simp [Array.getD_eq_getD_getElem?, this]
  have hend : ∀ (ρ1 : L → Option q.B.den), (∀ v r, ρ1 v = some r → q.ret v = some r) → ∀ st g a w', q.fin st ρ1 = some r → RelG P I (phi P I) β fn.ntmps st g a w' → Pin (q.keep.map fun p => (p, us.getD p undef)) a →
      a.defers = [] ∧ ∃ v, (results fn a.tmps).run P w' = .ok v w' ∧ ∃ u, Ending.returned v = .returned u ∧ Post P I (phi P I) β sg ⟨q.B, r⟩ us u w' := by
    intro ρ1 hρ st g a w' hfin hR' hp'
    refine ⟨hR'.defers, ?_⟩
    obtain ⟨uss, ss, ws, vv, g', h1, h2, h3, hout2, hkeys, h4, h5, h6⟩ := finA_ok hT hf hout halt hfin hkeys hR'
    have h3 := hρ _ _ h3
    have h3 := as_some (show vv.as q.B = some r from h3)
    subst h3
    have hrl : q.res.length = fn.results.toList.length + q.keep.length := by rw [← hres]; simp
    obtain ⟨uu, huu⟩ : ∃ l, l = uss.take fn.results.toList.length := ⟨_, rfl⟩
    have hrv : (results fn a.tmps).run P w' = .ok (if h : uu.toArray.size = 1 then uu.toArray[0] else .tuple uu.toArray) w' := by
      subst huu
      unfold results
      have hm : ∀ f : ResultVar → Sem Value, (∀ rv, f rv = resOf a rv) → (fn.results.mapM f).run P w' = .ok (uss.take fn.results.toList.length).toArray w' := by
        intro f hf
        have : f = resOf a := funext hf
        subst this
        rw [Array.mapM_eq_mapM_toList]
        have := run_mapM (P := P) (resOf a) w' fn.results.toList (uss.take fn.results.toList.length) (by rw [List.length_take, h1, hrl]; omega) (fun j rv hj => by
          have hjl := lt_of_get hj
          obtain ⟨u, h8, h9⟩ := h2 j rv (by rw [← hres, List.getElem?_append_left hjl]; exact hj)
          exact ⟨u, by rw [List.getElem?_take, if_pos hjl]; exact h8, h9⟩)
        simp [this]
      simp only [Sem.run_bind]
      rw [hm _ (fun rv => by cases rv <;> rfl)]
      simp only [Result.andThen_ok]
      split <;> rfl
    unfold finKeys at hkeys
    simp only [Bool.and_eq_true, decide_eq_true_eq] at hkeys
    have hk2 : (fill ss.sh ws).env.map (·.1) = List.range' 0 q.res.length := by
      unfold fill
      rw [fillE_keys, hkeys.1, List.range_eq_range']
    have hg := get_vals _ 0 _ hk2
    simp only [Nat.zero_add] at hg
    have hel : (fill ss.sh ws).env.length = q.res.length := by
      have := congrArg List.length hk2
      simpa using this
    have hw : ∀ (j : Nat) y, (vals (fill ss.sh ws).env)[j]? = some y → ∃ u, uss[j]? = some u ∧ ARep P I (phi P I) (fill ss.sh ws) g' w' y u := fun j y hj => h6 j y (by rw [hg]; exact hj)
    have hw2 : ∀ (j : Nat) y, (resV q.keep (fill ss.sh ws).env)[j]? = some y → ∃ u, uu[j]? = some u ∧ ARep P I (phi P I) (fill ss.sh ws) g' w' y u := by
      intro j y hj
      rw [huu]
      obtain ⟨h7, h8⟩ := resV_zip hj
      obtain ⟨u, h9, h10⟩ := hw j y h7
      refine ⟨u, ?_, h10⟩
      rw [List.getElem?_take, if_pos (by omega)]
      exact h9
    have hrvl : (resV q.keep (fill ss.sh ws).env).length = fn.results.toList.length := by
      cases hkp : q.keep with
      | nil => show (vals _).length = _; rw [vals_len, hel, hrl, hkp]; simp
      | cons p ps => simp only [resV, takeL_eq, List.length_take, vals_len, hel, hrl, hkp]; simp
    have hul : uu.length = fn.results.toList.length := by rw [huu, List.length_take, h1, hrl]; omega
    refine ⟨_, hrv, _, rfl, g', ss.sh, ws, hout2, h5, fun x hx => ?_, fun i p z u hi hz hu => ?_⟩
    · rw [hkeep] at hx
      rw [hmany] at hx
      by_cases h1r : fn.results.toList.length = 1
      · have h1u : uu.length = 1 := by rw [hul, h1r]
        simp only [h1r, ne_eq, not_true_eq_false, decide_false, resA] at hx
        split at hx
        · rename_i y hy
          simp only [Option.some.injEq] at hx
          subst hx
          obtain ⟨u, hu1, hu2⟩ := hw2 0 y (by rw [hy]; rfl)
          rw [dif_pos (by simpa using h1u)]
          have : uu.toArray[0]'(by simp [h1u]) = u := by
            rw [List.getElem?_eq_getElem (by omega), Option.some.injEq] at hu1
            simpa using hu1
          rw [this]
          exact hu2
        · cases hx
      · have h1u : uu.length ≠ 1 := by rw [hul]; exact h1r
        simp only [ne_eq, h1r, not_false_eq_true, decide_true, resA, Option.some.injEq] at hx
        subst hx
        rw [dif_neg (by simpa using h1u)]
        refine .tu _ uu.toArray (fun j => uu.getD j undef) (by simp [hrvl, hul]) (fun j y hj => ?_) fun j y hj => ?_
        · obtain ⟨u, hu1, hu2⟩ := hw2 j y hj
          simp [hu1]
        · obtain ⟨u, hu1, hu2⟩ := hw2 j y hj
          simp only [List.getD_eq_getElem?_getD, hu1, Option.getD_some]
          exact hu2
    · skip
      rw [hkeep] at hi hz
      rw [hel, hrl, Nat.add_sub_cancel] at hz
      obtain ⟨u', hu1, hu2⟩ := hw _ z hz
      have hq : q.res[fn.results.toList.length + i]? = some (.tmp p) := by
        rw [← hres, List.getElem?_append_right (by omega), Nat.add_sub_cancel_left, List.getElem?_map, hi]; rfl
      obtain ⟨u2, hu3, hu4⟩ := h2 _ _ hq
      rw [hu1, Option.some.injEq] at hu3
      subst hu3
      have hp0 := hp' (p, us.getD p undef) (List.mem_map.2 ⟨p, List.mem_of_getElem? hi, rfl⟩)
      have he : u' = u := by
        have h7 : (resOf a (.tmp p)).run P w' = .ok (us.getD p undef) w' := by
          simp only at hp0
          simp [resOf, Array.getD_eq_getD_getElem?, hp0]
        rw [h7] at hu4
        have h8 : us.getD p undef = u := by simp [Array.getD_eq_getD_getElem?, hu]
        rw [h8] at hu4
        simpa using hu4.symm
      subst he
      exact hu2
  refine yrun_ok (pins := q.keep.map fun p => (p, us.getD p undef)) hT (op_ok hT hf hC) (hD _ _) q.code hL q.code q.ret _ _ [] _ (fun _ h => h) (by rw [List.map_map, show ((fun x : Nat × Value => x.1) ∘ fun p => (p, us.getD p undef)) = id from rfl, List.map_id]; exact hcode) hin ?_ (fun id k hk => by simp [get] at hk) ?_ _ _ _ hR hpin
  · intro st g a w' h1 hR' hp
    exact hend q.ret (fun _ _ h => h) st g a w' h1 hR' hp
  · intro _ ρ1 hρ st g a w' h1 hR' hp
    exact hend ρ1 hρ st g a w' h1 hR' hp
end Go.Y
namespace Go.Y
open Go.Eng (T RepT RepM SRep Kept Base G SameOn VRep Split Live Free kn Owns ownB RootOk ERep HPred)
variable {P : Program} {I : Ids} {φ : FnP} {β : Base} {nt : Nat} {cs : List (Nat × Con)} {tb : Tabs}
structure Ag (sl ks : Nat → Prop) (a b : St L) : Prop where
  env : ∀ s, sl s → get a.env s = get b.env s
  gnv : ∀ s, sl s → ∀ e, (s, e) ∈ a.gnv ↔ (s, e) ∈ b.gnv
  sto : ∀ k, ks k → get a.sto k = get b.sto k
def all1 (_ : Nat) : Prop := True
theorem Ag.refl (sl ks : Nat → Prop) (a : St L) : Ag sl ks a a := ⟨fun _ _ => rfl, fun _ _ _ => Iff.rfl, fun _ _ => rfl⟩
theorem Ag.symm {sl ks : Nat → Prop} {a b : St L} (h : Ag sl ks a b) : Ag sl ks b a := ⟨fun s hs => (h.env s hs).symm, fun s hs e => (h.gnv s hs e).symm, fun k hk => (h.sto k hk).symm⟩
theorem Ag.trans {sl ks : Nat → Prop} {a b c : St L} (h : Ag sl ks a b) (h' : Ag sl ks b c) : Ag sl ks a c := ⟨fun s hs => (h.env s hs).trans (h'.env s hs), fun s hs e => (h.gnv s hs e).trans (h'.gnv s hs e), fun k hk => (h.sto k hk).trans (h'.sto k hk)⟩
theorem rootAt_view {a b : St L} (h : ∀ k, get a.sto k = get b.sto k) (l : Loc L) : rootAt a l = rootAt b l := by unfold rootAt; rw [h]
theorem injS_view {a b : St L} (h : ∀ k, get a.sto k = get b.sto k) (k : Nat) : Eng.get (injS I φ a) k = Eng.get (injS I φ b) k := by
  rw [get_injS, get_injS, h]
  cases get b.sto k with
  | none => rfl
  | some r =>
    simp only [Option.map_some, Option.some.injEq, injR, Eng.Root.mk.injEq, true_and]
    refine List.map_congr_left fun c _ => ?_
    cases c.e with
    | rf l => simp only [injE, rootAt_view h]
    | _ => rfl
theorem bnd_view {a b : St L} (h : ∀ k, get a.sto k = get b.sto k) {l : Loc L} (hb : bnd a l) : bnd b l := by
  obtain ⟨r, h1, h2⟩ := hb
  exact ⟨r, by rw [← h]; exact h1, h2⟩
theorem validA_view {a b : St L} (h : ∀ k, get a.sto k = get b.sto k) {l : Loc L} (hb : validA b l) : validA a l := by
  obtain ⟨c, h1, h2⟩ := hb
  exact ⟨c, by unfold cellAt at h1 ⊢; rw [rootAt_view h]; exact h1, h2⟩
theorem arep_view {a b : St L} (h : ∀ k, get a.sto k = get b.sto k) {g : G} {w : World} {x : AV L} {u : Value} (hx : ARep P I φ a g w x u) : ARep P I φ b g w x u := by
  have hs := fun k => (injS_view (I := I) (φ := φ) h k).symm
  induction hx with
  | lf v u h => exact .lf v u h
  | zs e a u h => exact .zs e a u h
  | tl v b n h => exact .tl v b n h
  | ar l u hb h1 =>
    refine .ar l u (bnd_view h hb) fun hv hs0 d e nl xs hat => ?_
    rw [at_congr hs] at hat
    rw [locV_congr hs]
    exact h1 (validA_view h hv) hs0 d e nl xs hat
  | pt l b o hb h1 =>
    refine .pt l b o (bnd_view h hb) fun hv ht => ?_
    rw [there_congr hs] at ht
    rw [locA_congr hs]
    obtain ⟨⟨r, h3⟩, h4⟩ := hv
    exact h1 ⟨⟨r, by rw [rootAt_view h]; exact h3⟩, fun hs => validA_view h (h4 hs)⟩ ht
  | fp v b o us hF hc hr => exact .fp v b o us hF hc hr
  | ag t cs vs us hl hv _ ih => exact .ag t cs vs us hl hv ih
  | tu cs vs us hl hv _ ih => exact .tu cs vs us hl hv ih
  | fn f cs vs us hl hv _ ih => exact .fn f cs vs us hl hv ih
  | u u => exact .u u
theorem inv_view {a b : St L} (h : ∀ k, get a.sto k = get b.sto k) {g : G} {w : World} (hi : Inv P I φ β a g w) : Inv P I φ β b g w := by
  have hs := fun k => (injS_view (I := I) (φ := φ) h k).symm
  exact ⟨srep_congr hs hi.s, kept_congr hs hi.k, fun k r c l hr hc he => by
    obtain ⟨h1, h2⟩ := hi.c k r c l (by rw [h]; exact hr) hc he
    exact ⟨bnd_view h h1, h2⟩, hi.f, (by first | assumption | exact Inv.gl (by assumption) | exact (RelG.i (by assumption)).gl)⟩
theorem relG_view {a b : St L} (h : Ag all1 all1 a b) {g : G} {ac : Act} {w : World} (hR : RelG P I φ β nt a g ac w) : RelG P I φ β nt b g ac w := by
  have hs : ∀ k, get a.sto k = get b.sto k := fun k => h.sto k trivial
  refine ⟨hR.defers, hR.size, inv_view hs hR.i, fun s x hx => ?_, fun s k b x hx => ?_⟩
  · obtain ⟨u, hu, hr⟩ := hR.e s x (by rw [h.env s trivial]; exact hx)
    exact ⟨u, hu, arep_view hs hr⟩
  · obtain ⟨u, hu, hr, hn⟩ := hR.n s k b x ((h.gnv s trivial _).2 hx)
    exact ⟨u, hu, fun hk => arep_view hs (hr hk), hn⟩
theorem mem_keepGnv {sl : List Nat} {e : Nat × (Nat × Bool) × AV L} : ∀ {l : List (Nat × (Nat × Bool) × AV L)}, e ∈ keepGnv sl l ↔ e.1 ∈ sl ∧ e ∈ l
  | [] => by simp [keepGnv]
  | (s, x) :: r => by
    simp only [keepGnv]
    cases hm : memN s sl with
    | true =>
      have hs := memN_iff.1 hm
      simp only [List.mem_cons, mem_keepGnv (l := r)]
      constructor
      · rintro (rfl | ⟨h1, h2⟩)
        · exact ⟨hs, .inl rfl⟩
        · exact ⟨h1, .inr h2⟩
      · rintro ⟨h1, rfl | h2⟩
        · exact .inl rfl
        · exact .inr ⟨h1, h2⟩
    | false =>
      have hs : s ∉ sl := fun h => by rw [memN_iff.2 h] at hm; cases hm
      simp only [List.mem_cons, mem_keepGnv (l := r)]
      constructor
      · rintro ⟨h1, h2⟩; exact ⟨h1, .inr h2⟩
      · rintro ⟨h1, rfl | h2⟩
        · exact absurd h1 hs
        · exact ⟨h1, h2⟩
theorem cutF_ag {f : Fp} {a b : St L} (h : Ag (· ∈ f.sl) (· ∈ f.ks) a b) : Ag all1 all1 (cutF f a) (cutF f b) := by
  refine ⟨fun s _ => ?_, fun s _ e => ?_, fun k _ => ?_⟩
  · simp only [cutF, get_keepEnv]
    split
    · exact h.env s ‹_›
    · rfl
  · simp only [cutF, mem_keepGnv]
    constructor
    · rintro ⟨h1, h2⟩; exact ⟨h1, (h.gnv s h1 e).1 h2⟩
    · rintro ⟨h1, h2⟩; exact ⟨h1, (h.gnv s h1 e).2 h2⟩
  · simp only [cutF, get_keepSto]
    split
    · exact h.sto k ‹_›
    · rfl
end Go.Y
namespace Go.Y
open RF RAlg
variable {cs : List (Nat × Con)} {ρ σ : Type} {ls : List (Nat × LoopC ρ)} {ls2 : List (Nat × LoopC σ)} {f : σ → Option ρ}
section
theorem oCase_nat {α : Type} {o : Option α} {w : String} {k : α → Option ρ} {k2 : α → Option σ} (h : ∀ x, k x = (k2 x).bind f) :
    @oCase (Option ρ) (semF ρ) α o w k = (@oCase (Option σ) (semF σ) α o w k2).bind f := by
  cases o with
  | none => rfl
  | some x => exact h x
theorem oCase_natE {α : Type} {o : Option α} {w : String} {k : α → Option ρ} {k2 : α → Option σ} (h : ∀ x, o = some x → k x = (k2 x).bind f) :
    @oCase (Option ρ) (semF ρ) α o w k = (@oCase (Option σ) (semF σ) α o w k2).bind f := by
  cases o with
  | none => rfl
  | some x => exact h x rfl
theorem check_nat {g : Option L} {c : L} {k : Option ρ} {k2 : Option σ} (h : k = k2.bind f) :
    @RAlg.check L (Option ρ) (semR ρ cs ls) g c k = (@RAlg.check L (Option σ) (semR σ cs ls2) g c k2).bind f := by
  simp only [RAlg.check]
  cases g with
  | none => cases c.bool with
    | none => rfl
    | some b => cases b <;> first | rfl | exact h
  | some g => cases c.bool with
    | none => rfl
    | some b =>
      simp only []
      cases g.bool with
      | none => rfl
      | some gb => cases gb <;> cases b <;> first | rfl | exact h
theorem ite_nat {c : L} {a b : Option ρ} {a2 b2 : Option σ} (h1 : a = a2.bind f) (h2 : b = b2.bind f) : @RAlg.ite L (Option ρ) (semR ρ cs ls) c a b = (@RAlg.ite L (Option σ) (semR σ cs ls2) c a2 b2).bind f := by
  simp only [RAlg.ite]
  cases c.bool with
  | none => rfl
  | some x => cases x <;> first | exact h1 | exact h2
theorem rootG_nat {gd : Option (Gd L)} {a b : Option ρ} {a2 b2 : Option σ} (h1 : a = a2.bind f) (h2 : b = b2.bind f) : @rootG L (Option ρ) (semR ρ cs ls) gd a b = (@rootG L (Option σ) (semR σ cs ls2) gd a2 b2).bind f := by
  cases gd with
  | none => exact h1
  | some g => exact ite_nat h1 h2
theorem bind_nat {α : Type} {o : Option α} {k : α → Option ρ} {k2 : α → Option σ} (h : ∀ x, k x = (k2 x).bind f) : o.bind k = (o.bind k2).bind f := by
  cases o with
  | none => rfl
  | some x => exact h x
theorem idx_nat {g : Option L} {v i : L} {k : L → Option ρ} {k2 : L → Option σ} (h : ∀ x, k x = (k2 x).bind f) :
    @RAlg.idx L (Option ρ) (semR ρ cs ls) g v i k = (@RAlg.idx L (Option σ) (semR σ cs ls2) g v i k2).bind f := by
  simp only [RAlg.idx]
  split
  · split
    · unfold pIdx
      first | exact bind_nat fun _ => h _ | (split <;> first | rfl | exact h _ | exact bind_nat fun _ => h _)
    · split
      · unfold pIdxG
        first | exact bind_nat fun _ => h _ | (split <;> first | rfl | exact h _ | exact bind_nat fun _ => h _)
      · rfl
  · rfl
theorem call_nat {g : Option L} {m : Nat} {B : Ty} {vs : List L} {k : L → Option ρ} {k2 : L → Option σ} (h : ∀ x, k x = (k2 x).bind f) :
    @RAlg.call L (Option ρ) (semR ρ cs ls) m B g vs k = (@RAlg.call L (Option σ) (semR σ cs ls2) m B g vs k2).bind f := by
  simp only [RAlg.call]
  split
  · split
    · split
      · unfold pCall
        exact bind_nat fun _ => h _
      · split
        · unfold pCallG
          first | exact bind_nat fun _ => h _ | (split <;> first | rfl | exact h _ | exact bind_nat fun _ => h _)
        · rfl
    · rfl
  · rfl
theorem callV_nat {fv : L} {g : Option L} {vs : List L} {k : L → Option ρ} {k2 : L → Option σ} (h : ∀ x, k x = (k2 x).bind f) :
    @RAlg.callV L (Option ρ) (semR ρ cs ls) fv g vs k = (@RAlg.callV L (Option σ) (semR σ cs ls2) fv g vs k2).bind f := by
  simp only [RAlg.callV]
  split
  · split
    · split
      · unfold pCall
        exact bind_nat fun _ => h _
      · split
        · unfold pCallG
          first | exact bind_nat fun _ => h _ | (split <;> first | rfl | exact h _ | exact bind_nat fun _ => h _)
        · rfl
    · rfl
  · rfl
theorem letV_nat {v : L} {k : L → Option ρ} {k2 : L → Option σ} (h : ∀ x, k x = (k2 x).bind f) :
    @RAlg.letV L (Option ρ) (semR ρ cs ls) v k = (@RAlg.letV L (Option σ) (semR σ cs ls2) v k2).bind f := by
  simp only [RAlg.letV, pLet]
  exact h _
theorem loadK_nat {st : St L} {g : Option L} {agg : Bool} {t : Ty} {n : Nat} {l : Loc L} {k : AV L → Option ρ} {k2 : AV L → Option σ} (h : ∀ x, k x = (k2 x).bind f) :
    @loadK L (Option ρ) (semL cs) (semF ρ) (semR ρ cs ls) st g agg t n l k = (@loadK L (Option σ) (semL cs) (semF σ) (semR σ cs ls2) st g agg t n l k2).bind f := by
  unfold loadK
  repeat' first | rfl | exact h _ | assumption | (refine oCase_nat fun _ => ?_) | (refine check_nat ?_) | (refine idx_nat fun _ => ?_) | (refine call_nat fun _ => ?_) | (refine callV_nat fun _ => ?_) | (refine letV_nat fun _ => ?_) | (split <;> simp only [*]) | split
theorem peekL_nat {st : St L} : ∀ {xs : List (AV L)} {acc : List L} {k : List L → Option ρ} {k2 : List L → Option σ} (h : ∀ x, k x = (k2 x).bind f),
    @peekK.peekL L (Option ρ) (semL cs) (semF ρ) st xs acc k = (@peekK.peekL L (Option σ) (semL cs) (semF σ) st xs acc k2).bind f
  | [], acc, k, k2, h => h _
  | c :: xs, acc, k, k2, h => by
    unfold peekK.peekL
    split
    · exact peekL_nat h
    · exact peekL_nat h
    · exact peekL_nat h
    · exact oCase_nat fun _ => peekL_nat h
    · rfl
theorem peekK_nat {st : St L} {g : Option L} {x : AV L} {k : L → Option ρ} {k2 : L → Option σ} (h : ∀ x, k x = (k2 x).bind f) :
    @peekK L (Option ρ) (semL cs) (semF ρ) st g x k = (@peekK L (Option σ) (semL cs) (semF σ) st g x k2).bind f := by
  unfold peekK
  split
  · exact h _
  · exact h _
  · exact h _
  · exact oCase_nat h
  · split
    · exact peekL_nat fun _ => oCase_nat h
    · rfl
  · exact oCase_nat h
  · rfl
theorem peekAll_nat {st : St L} {g : Option L} : ∀ {xs : List (AV L)} {acc : List L} {k : List L → Option ρ} {k2 : List L → Option σ} (h : ∀ x, k x = (k2 x).bind f),
    @peekAll L (Option ρ) (semL cs) (semF ρ) st g xs acc k = (@peekAll L (Option σ) (semL cs) (semF σ) st g xs acc k2).bind f
  | [], acc, k, k2, h => h _
  | c :: xs, acc, k, k2, h => peekK_nat fun _ => peekAll_nat h
theorem selK_nat {st : St L} {g : Option L} : ∀ {ps : List (AV Ty)} {xs acc : List (AV L)} {k : List (AV L) → Option ρ} {k2 : List (AV L) → Option σ} (h : ∀ x, k x = (k2 x).bind f),
    @selK L (Option ρ) (semL cs) (semF ρ) st g ps xs acc k = (@selK L (Option σ) (semL cs) (semF σ) st g ps xs acc k2).bind f
  | [], [], acc, k, k2, h => h _
  | [], _ :: _, acc, k, k2, h => rfl
  | _ :: _, [], acc, k, k2, h => rfl
  | p :: ps, x :: xs, acc, k, k2, h => by
    unfold selK
    split
    · exact peekK_nat fun _ => selK_nat h
    · exact selK_nat h
theorem storeK_nat {st : St L} {l : Loc L} {x : AV L} {n : Nat} {k : St L → Option ρ} {k2 : St L → Option σ} (h : ∀ x, k x = (k2 x).bind f) :
    @storeK L (Option ρ) (semL cs) (semF ρ) (semR ρ cs ls) st l x n k = (@storeK L (Option σ) (semL cs) (semF σ) (semR σ cs ls2) st l x n k2).bind f := by
  unfold storeK
  repeat' first | rfl | exact h _ | assumption | (refine peekK_nat fun _ => ?_) | (refine oCase_nat fun _ => ?_) | (refine check_nat ?_) | (refine idx_nat fun _ => ?_) | (refine call_nat fun _ => ?_) | (refine callV_nat fun _ => ?_) | (refine letV_nat fun _ => ?_) | (split <;> simp only [*]) | split
theorem checkIdx_nat {g : Option L} {n hi : L} {k : Option ρ} {k2 : Option σ} (h : k = k2.bind f) :
    @checkIdx L (Option ρ) (semL cs) (semF ρ) (semR ρ cs ls) g n hi k = (@checkIdx L (Option σ) (semL cs) (semF σ) (semR σ cs ls2) g n hi k2).bind f :=
  oCase_nat fun _ => oCase_nat fun _ => oCase_nat fun _ => check_nat h
theorem toSh_nat {s : SH} {w : String} {st : St L} {k : List L → Option ρ} {k2 : List L → Option σ} (h : ∀ x, k x = (k2 x).bind f) :
    @toSh L (Option ρ) (semL cs) (semF ρ) s w k st = (@toSh L (Option σ) (semL cs) (semF σ) s w k2 st).bind f := by
  unfold toSh
  simp only []
  split
  · exact h _
  · rfl
theorem altK_nat {sg : Sig} {v : L} {K : St Ty → L → Option ρ} {K2 : St Ty → L → Option σ} (h : ∀ o x, o = sg.out ∨ sg.alt.isSome = true → K o x = (K2 o x).bind f) :
    @altK L (Option ρ) (semL cs) (semF ρ) (semR ρ cs ls) sg v K = (@altK L (Option σ) (semL cs) (semF σ) (semR σ cs ls2) sg v K2).bind f := by
  unfold altK
  cases ha : sg.alt with
  | none => exact h _ _ (.inl rfl)
  | some a =>
    refine oCase_nat fun t => oCase_nat fun q => oCase_nat fun x => oCase_nat fun y => ?_
    simp only [RAlg.ite]
    split
    · unfold pIf
      split
      · exact h _ _ (.inl rfl)
      · exact h _ _ (.inr (by rw [ha]; rfl))
    · rfl
theorem callP_nat {st1 : St L} {d : Option Nat} {sg : Sig} {ys : List (AV L)} {v : L} {k : St L → Option ρ} {k2 : St L → Option σ} (h : ∀ x, k x = (k2 x).bind f) :
    @callP L (Option ρ) (semL cs) (semF ρ) st1 d sg ys k v = (@callP L (Option σ) (semL cs) (semF σ) st1 d sg ys k2 v).bind f := by
  unfold callP
  simp only []
  split
  · rfl
  · refine oCase_nat fun rs => ?_
    split
    · rfl
    · refine oCase_nat fun x => ?_
      split
      · exact h _
      · exact h _
theorem callR_nat {st : St L} {d : Option Nat} {fn : Nat} {sg : Sig} {args : List (AV L)} {k : St L → Option ρ} {k2 : St L → Option σ} (h : ∀ x, k x = (k2 x).bind f) :
    @callR L (Option ρ) (semL cs) (semF ρ) (semR ρ cs ls) st d fn sg args k = (@callR L (Option σ) (semL cs) (semF σ) (semR σ cs ls2) st d fn sg args k2).bind f := by
  unfold callR
  refine selK_nat fun ys => ?_
  simp only []
  exact toSh_nat fun vs => call_nat fun r => altK_nat fun o x _ => callP_nat h
theorem call1P_nat {st : St L} {gd : Option (Gd L)} {d : Nat} {sg : Sig} {args : List (AV L)} {v : L} {k : St L → Option ρ} {k2 : St L → Option σ}
    (hr : ∀ x, k (putE st gd d x) = (k2 (putE st gd d x)).bind f) (h : keepB sg = false → ∀ x, k x = (k2 x).bind f) :
    @call1P L (Option ρ) (semL cs) (semF ρ) st gd d sg args k v = (@call1P L (Option σ) (semL cs) (semF σ) st gd d sg args k2 v).bind f := by
  unfold call1P
  refine oCase_nat fun rs => ?_
  simp only []
  split
  · split
    · exact oCase_nat fun x => hr x
    · rfl
  · rename_i hkb
    have h := h hkb
    split
    · exact oCase_nat fun x => h _
    · split
      · exact oCase_nat fun x => h _
      · rfl
    · rfl
theorem call2_nat {st : St L} {gd : Option (Gd L)} {d : Option Nat} {rts : Bool} {key : Nat} {sg : Sig} {args : List (AV L)} {k : St L → Option ρ} {k2 : St L → Option σ}
    (hr : ∀ e x, d = some e → k (putE st gd e x) = (k2 (putE st gd e x)).bind f) (h : (keepB sg && sg.alt.isNone) = false → ∀ x, k x = (k2 x).bind f) :
    @call2 L (Option ρ) (semL cs) (semF ρ) (semR ρ cs ls) st gd d rts key sg args k = (@call2 L (Option σ) (semL cs) (semF σ) (semR σ cs ls2) st gd d rts key sg args k2).bind f := by
  unfold call2
  split
  · rename_i hins
    have h := h (by unfold keepB; rw [hins]; simp)
    split
    · split
      · exact callR_nat h
      · split
        · refine oCase_nat fun z => ?_
          simp only [RAlg.ite]
          split
          · unfold pIf
            split
            · exact callR_nat h
            · exact h _
          · rfl
        · rfl
    · rfl
  · refine selK_nat fun ys => ?_
    split
    · rfl
    · refine oCase_nat fun vs => call_nat fun r => ?_
      split
      · rfl
      · rename_i d0
        refine altK_nat fun o x ho => call1P_nat (fun x => hr d0 x rfl) fun hk => h ?_
        rcases ho with rfl | ho
        · have hk : keepB sg = false := hk
          rw [hk]; rfl
        · cases ha : sg.alt with
          | none => rw [ha] at ho; cases ho
          | some a => simp
theorem call1_nat {tb : Tabs} {st : St L} {gd : Option (Gd L)} {d : Option Nat} {rts : Bool} {fn : Nat} {args : List (AV L)} {k : St L → Option ρ} {k2 : St L → Option σ}
    (hr : ∀ e x, d = some e → k (putE st gd e x) = (k2 (putE st gd e x)).bind f) (h : (∃ key sg, get tb.sigs key = some sg ∧ fnOf key = fnOf fn ∧ (keepB sg && sg.alt.isNone) = false) → ∀ x, k x = (k2 x).bind f) :
    @call1 L (Option ρ) (semL cs) (semF ρ) (semR ρ cs ls) tb st gd d rts fn args k = (@call1 L (Option σ) (semL cs) (semF σ) (semR σ cs ls2) tb st gd d rts fn args k2).bind f := by
  unfold call1
  split
  · rfl
  · refine oCase_natE fun p hp => ?_
    obtain ⟨h1, h2⟩ := pickSig_some hp
    exact call2_nat hr fun hk => h ⟨_, _, h1, h2, hk⟩
theorem cmpK_nat {tb : Tabs} {t : TypeId} {A : Ty} {k : Option ρ} {k2 : Option σ} (h : k = k2.bind f) : @cmpK (Option ρ) (semF ρ) tb t A k = (@cmpK (Option σ) (semF σ) tb t A k2).bind f := by
  unfold cmpK
  refine oCase_nat fun i => ?_
  split
  · exact h
  · rfl
theorem eqK_nat {tb : Tabs} {t : TypeId} {y : Operand} {A : Ty} {k : Option ρ} {k2 : Option σ} (h : k = k2.bind f) : @eqK (Option ρ) (semF ρ) tb t y A k = (@eqK (Option σ) (semF σ) tb t y A k2).bind f := by
  unfold eqK
  split
  · exact h
  · exact h
  · split
    · refine oCase_nat fun i => ?_
      split
      · exact h
      · rfl
    · rfl
  · refine oCase_nat fun i => ?_
    split
    · exact h
    · rfl
  · exact cmpK_nat h
theorem evs_nat {tb : Tabs} {st : St L} {gd : Option (Gd L)} : ∀ {xs : List (TypeId × Operand)} {acc : List (AV L)} {k : List (AV L) → Option ρ} {k2 : List (AV L) → Option σ} (h : ∀ x, k x = (k2 x).bind f),
    @opK.evs L (Option ρ) (semL cs) (semF ρ) tb st gd xs acc k = (@opK.evs L (Option σ) (semL cs) (semF σ) tb st gd xs acc k2).bind f
  | [], acc, k, k2, h => h _
  | (t, x) :: r, acc, k, k2, h => oCase_nat fun _ => evs_nat h
theorem buildG_nat {tb : Tabs} {st : St L} {gd : Option (Gd L)} {fs : List (Nat × TypeId)} : ∀ {ps : List (Nat × Operand)} {cells : List (AV L)} {k : List (AV L) → Option ρ} {k2 : List (AV L) → Option σ} (h : ∀ x, k x = (k2 x).bind f),
    @opK.buildG L (Option ρ) (semL cs) (semF ρ) tb st gd fs ps cells k = (@opK.buildG L (Option σ) (semL cs) (semF σ) tb st gd fs ps cells k2).bind f
  | [], acc, k, k2, h => h _
  | (i, x) :: r, acc, k, k2, h => by
    unfold opK.buildG
    split
    · refine oCase_nat fun _ => oCase_nat fun _ => oCase_nat fun _ => ?_
      split
      · exact buildG_nat h
      · rfl
    · rfl
end
end Go.Y
namespace Go.Y
open RF RAlg
variable {cs : List (Nat × Con)} {ρ σ : Type} {ls : List (Nat × LoopC ρ)} {ls2 : List (Nat × LoopC σ)} {f : σ → Option ρ}
def retK {ρ : Type} (st : St L) (gd : Option (Gd L)) (dst : Option Nat) (k : St L → Option ρ) (x : AV L) : Option ρ :=
  match dst with
  | some d => k (putE st gd d x)
  | none => k st
def sliceK {ρ : Type} (st : St L) (gd : Option (Gd L)) (dst : Option Nat) (k : St L → Option ρ) (x : AV L) (w : L) : Option ρ :=
  match dst with
  | some d => k (putE (freezeA st x) gd d (.lf w))
  | none => k st
theorem keepAll_false {f : Nat} : ∀ {sigs : List (Nat × Sig)} {key : Nat} {sg : Sig}, get sigs key = some sg → fnOf key = fnOf f → (keepB sg && sg.alt.isNone) = false → readOnly.keepAll f sigs = false
  | [], key, sg, h, _, _ => by simp [get] at h
  | (k, s) :: r, key, sg, h, hf, hk => by
    simp only [readOnly.keepAll, Bool.and_eq_false_iff]
    rw [get_cons] at h
    split at h
    · rename_i hj
      obtain rfl := Option.some.inj h
      subst hj
      left
      rw [hk, hf, Nat.beq_refl]
      rfl
    · exact .inr (keepAll_false h hf hk)
theorem opK_nat {tb : Tabs} {st : St L} {gd : Option (Gd L)} {dst : Option Nat} {rt : TypeId} {o : Op} {k : St L → Option ρ} {k2 : St L → Option σ}
    (hret : ∀ x : AV L, retK st gd dst k x = (retK st gd dst k2 x).bind f) (h : readOnly tb o = false → ∀ x, k x = (k2 x).bind f) :
    @opK L (Option ρ) (semL cs) (semF ρ) (semR ρ cs ls) tb st gd dst rt o k = (@opK L (Option σ) (semL cs) (semF σ) (semR σ cs ls2) tb st gd dst rt o k2).bind f := by
  cases o with
  | move x => simp only [opK]; exact oCase_nat hret
  | assign x => simp only [opK]; exact oCase_nat hret
  | pick c a b =>
    simp only [opK]
    split
    · refine oCase_nat fun _ => oCase_nat fun _ => oCase_nat fun _ => ?_
      split
      · exact oCase_nat fun _ => letV_nat fun _ => hret _
      · rfl
    · rfl
  | extract x i =>
    simp only [opK]
    refine oCase_nat fun _ => ?_
    split
    · exact oCase_nat hret
    · rfl
  | nilCheck x =>
    simp only [opK]
    refine oCase_nat fun _ => ?_
    split
    · exact hret _
    · exact hret _
    · rfl
    · rfl
  | unOp op t x =>
    simp only [opK]
    refine oCase_nat fun _ => ?_
    split
    · exact oCase_nat fun _ => hret _
    · rfl
  | makeInterface t x =>
    simp only [opK]
    refine oCase_nat fun _ => oCase_nat fun _ => ?_
    split
    · split
      · split
        · rfl
        · exact oCase_nat fun _ => hret _
      · rfl
    · rfl
  | binOp op t x y0 u =>
    simp only [opK]
    refine oCase_nat fun _ => oCase_nat fun _ => ?_
    split
    · rename_i a b
      have hgo : ∀ w, @oCase (Option ρ) (semF ρ) _ (@LAlg.bin L (semL cs) op a b) w (fun v => retK st gd dst k (.lf v)) = (@oCase (Option σ) (semF σ) _ (@LAlg.bin L (semL cs) op a b) w (fun v => retK st gd dst k2 (.lf v))).bind f := fun w => oCase_nat fun _ => hret _
      split
      · exact eqK_nat (hgo _)
      · exact eqK_nat (hgo _)
      · split
        · exact hgo _
        · exact hgo _
        · split
          · exact oCase_nat fun _ => check_nat (hgo _)
          · rfl
      · split
        · exact hgo _
        · exact hgo _
        · split
          · exact oCase_nat fun _ => check_nat (hgo _)
          · rfl
      · split
        · exact oCase_nat fun _ => oCase_nat fun _ => oCase_nat fun _ => check_nat (hret _)
        · exact hgo _
      · split
        · exact hgo _
        · rfl
        · split
          · exact oCase_nat fun _ => check_nat (hgo _)
          · rfl
      · split
        · exact hgo _
        · rfl
        · split
          · exact oCase_nat fun _ => check_nat (hgo _)
          · rfl
      · exact hgo _
    · split
      · refine oCase_nat fun i => ?_
        split
        · exact hret _
        · rfl
      · refine peekK_nat fun _ => peekK_nat fun _ => ?_
        split
        · exact cmpK_nat (oCase_nat fun _ => hret _)
        · exact cmpK_nat (oCase_nat fun _ => hret _)
        · rfl
  | convert s t x =>
    simp only [opK]
    refine oCase_nat fun _ => oCase_nat fun _ => oCase_nat fun _ => ?_
    split
    · split
      · split
        · exact oCase_nat fun _ => hret _
        · rfl
      · rfl
    · refine peekK_nat fun _ => ?_
      split
      · exact hret _
      · split
        · exact oCase_nat fun _ => hret _
        · rfl
    · split
      · split
        · split
          · refine oCase_nat fun _ => ?_
            cases dst with
            | none => rfl
            | some d => exact hret _
          · rfl
        · rfl
      · cases gd with
        | some g => rfl
        | none =>
          simp only []
          split
          · rename_i hst _
            replace h := h (by simp only [readOnly, hst]; rfl)
            split
            · exact oCase_nat fun _ => oCase_nat fun _ => check_nat (h _)
            · rfl
          · rfl
      · rfl
    · rfl
  | alloc e =>
    replace h := h rfl
    cases gd with
    | some g => simp only [opK]; rfl
    | none =>
      simp only [opK]
      refine oCase_nat fun _ => ?_
      split
      · rfl
      · refine oCase_nat fun _ => ?_
        cases dst with
        | none => rfl
        | some d => exact h _
  | box e x =>
    replace h := h rfl
    cases gd with
    | some g => simp only [opK]; rfl
    | none =>
      simp only [opK]
      refine oCase_nat fun _ => oCase_nat fun _ => ?_
      split
      · refine peekK_nat fun _ => ?_
        split
        · exact h _
        · rfl
      · refine oCase_nat fun _ => oCase_nat fun _ => ?_
        cases dst with
        | none => rfl
        | some d =>
          simp only []
          split
          · exact h _
          · rfl
  | build t ps =>
    simp only [opK]
    refine oCase_nat fun _ => ?_
    split
    · split
      · rfl
      · refine oCase_nat fun _ => ?_
        split
        · rfl
        · exact oCase_nat fun _ => buildG_nat fun _ => hret _
    · exact oCase_nat fun _ => buildG_nat fun _ => hret _
  | buildSlice t n ps =>
    replace h := h rfl
    simp only [opK]
    refine oCase_nat fun _ => ?_
    split
    · split
      · rfl
      · split
        · cases dst with
          | none => rfl
          | some d => exact h _
        · refine oCase_nat fun _ => ?_
          split
          · rfl
          · refine evs_nat fun _ => peekAll_nat fun _ => oCase_nat fun _ => ?_
            cases dst with
            | none => rfl
            | some d =>
              simp only []
              split
              · exact h _
              · exact rootG_nat (h _) (h _)
    · rfl
  | makeSlice t n c =>
    replace h := h rfl
    cases gd with
    | some g => simp only [opK]; rfl
    | none =>
      simp only [opK]
      refine oCase_nat fun _ => oCase_nat fun _ => oCase_nat fun _ => ?_
      split
      · refine oCase_nat fun _ => ?_
        split
        · rfl
        · refine checkIdx_nat (oCase_nat fun _ => check_nat (oCase_nat fun _ => ?_))
          cases dst with
          | none => rfl
          | some d => exact h _
      · rfl
  | load t x =>
    simp only [opK]
    refine oCase_nat fun _ => oCase_nat fun _ => ?_
    split
    · exact loadK_nat hret
    · split
      · exact hret _
      · rfl
    · rfl
  | store t a x =>
    replace h := h rfl
    cases gd with
    | some g => simp only [opK]; rfl
    | none =>
      simp only [opK]
      refine oCase_nat fun _ => oCase_nat fun _ => oCase_nat fun _ => ?_
      split
      · cases dst with
        | none => exact storeK_nat h
        | some d => rfl
      · rfl
  | fieldAddr t x i =>
    simp only [opK]
    refine oCase_nat fun _ => oCase_nat fun _ => oCase_nat fun _ => oCase_nat fun _ => ?_
    split
    · rfl
    · split
      · exact hret _
      · split
        · exact oCase_nat fun _ => hret _
        · rfl
      · rfl
  | field t x i =>
    simp only [opK]
    refine oCase_nat fun _ => oCase_nat fun _ => ?_
    split
    · split
      · exact oCase_nat fun _ => oCase_nat fun _ => hret _
      · rfl
    · refine oCase_nat fun _ => oCase_nat fun _ => ?_
      split
      · exact hret _
      · split
        · exact hret _
        · rfl
    · rfl
  | indexAddr t x i =>
    simp only [opK]
    refine oCase_nat fun _ => oCase_nat fun _ => oCase_nat fun _ => ?_
    split
    · split
      · refine oCase_nat fun _ => ?_
        split
        · split
          · split
            · exact idx_nat fun _ => hret _
            · exact oCase_nat fun _ => oCase_nat fun _ => oCase_nat fun _ => oCase_nat fun _ => check_nat (hret _)
          · rfl
        · rfl
      · split
        · exact idx_nat fun _ => hret _
        · rfl
      · split
        · exact idx_nat fun _ => hret _
        · rfl
      · split
        · rfl
        · exact idx_nat fun _ => hret _
        · rfl
      · rfl
    · rfl
  | index t x i =>
    simp only [opK]
    refine oCase_nat fun _ => oCase_nat fun _ => ?_
    split
    · split
      · refine oCase_nat fun _ => ?_
        split
        · exact oCase_nat fun _ => idx_nat fun _ => hret _
        · rfl
      · refine oCase_nat fun _ => ?_
        split
        · rfl
        · refine oCase_nat fun _ => ?_
          split
          · rfl
          · exact oCase_nat fun _ => oCase_nat fun _ => idx_nat fun _ => hret _
      · rfl
    · rfl
  | slice t x lo hi mx =>
    replace h := h rfl
    simp only [opK]
    refine oCase_nat fun y => oCase_nat fun _ => ?_
    split
    · split
      · split
        · split
          · exact hret _
          · rfl
        · refine peekK_nat fun _ => ?_
          split
          · split
            · exact hret _
            · rfl
          · rfl
      · rfl
    · refine peekK_nat fun v => ?_
      split
      · rfl
      · refine oCase_nat fun n => ?_
        have hw : ∀ w : L, sliceK st gd dst k y w = (sliceK st gd dst k2 y w).bind f := by
          intro w
          cases dst <;> exact h _
        cases lo with
        | none => cases hi with
          | none => exact checkIdx_nat (checkIdx_nat (oCase_nat hw))
          | some h =>
            refine oCase_nat fun h => ?_
            cases h with
            | lf h => exact checkIdx_nat (checkIdx_nat (oCase_nat hw))
            | _ => rfl
        | some l =>
          refine oCase_nat fun l => ?_
          cases l with
          | lf l => cases hi with
            | none => exact checkIdx_nat (checkIdx_nat (oCase_nat hw))
            | some h =>
              refine oCase_nat fun h => ?_
              cases h with
              | lf h => exact checkIdx_nat (checkIdx_nat (oCase_nat hw))
              | _ => rfl
          | _ => rfl
  | makeFunc fn r cap =>
    cases fn with
    | func fi =>
      obtain ⟨rl⟩ := r
      cases rl with
      | nil => simp only [opK]; exact evs_nat fun _ => hret _
      | cons a b => simp only [opK]; rfl
    | _ => simp only [opK]; rfl
  | call c =>
    simp only [opK]
    split
    · split
      · refine oCase_nat fun _ => oCase_nat fun _ => peekK_nat fun _ => ?_
        split
        · exact oCase_nat fun _ => hret _
        · rfl
      · rfl
    · split
      · refine oCase_nat fun _ => oCase_nat fun _ => ?_
        split
        · exact oCase_nat fun _ => hret _
        · rfl
      · refine oCase_nat fun _ => oCase_nat fun _ => oCase_nat fun _ => ?_
        split
        · exact oCase_nat fun _ => oCase_nat fun _ => hret _
        · rfl
      · rfl
    · split
      · refine oCase_nat fun _ => oCase_nat fun _ => ?_
        split
        · exact oCase_nat fun _ => hret _
        · rfl
      · rfl
    · rename_i hc
      replace h := h (by simp only [readOnly, hc])
      refine rootG_nat ?_ ?_
      · split
        · refine oCase_nat fun _ => oCase_nat fun _ => oCase_nat fun _ => oCase_nat fun _ => ?_
          split
          · refine oCase_nat fun _ => ?_
            split
            · rfl
            · refine peekK_nat fun ys => ?_
              split
              · split
                · exact oCase_nat fun _ => oCase_nat fun _ => oCase_nat fun _ => check_nat (h _)
                · rfl
              · split
                · split
                  · exact oCase_nat fun _ => oCase_nat fun _ => oCase_nat fun _ => check_nat (h _)
                  · rfl
                · rfl
              · rfl
          · rfl
        · rfl
      · split
        · refine oCase_nat fun _ => ?_
          split
          · exact h _
          · rfl
        · rfl
    · rename_i xf hc
      split
      · rfl
      · by_cases hxf : ∃ fi, xf = .func fi
        · obtain ⟨fi, rfl⟩ := hxf
          refine oCase_natE fun x hx => ?_
          simp only [evalO, Option.some.injEq] at hx
          subst hx
          refine evs_nat fun _ => call1_nat (fun e x he => ?_) fun hk => h ?_
          · have := hret x
            simpa only [retK, he] using this
          · simp only [readOnly, hc]
            obtain ⟨key, sg, h1, h2, h3⟩ := hk
            exact keepAll_false h1 h2 h3
        · replace h := h (by
            simp only [readOnly, hc]
            cases xf <;> first | rfl | exact absurd ⟨_, rfl⟩ hxf)
          refine oCase_nat fun _ => ?_
          split
          · exact evs_nat fun _ => call1_nat (fun _ _ _ => h _) fun _ => h
          · split
            · refine evs_nat fun _ => peekAll_nat fun _ => callV_nat fun _ => ?_
              cases dst with
              | none => rfl
              | some d => exact h _
            · rfl
          · rfl
    · rfl
  | _ => simp only [opK]; rfl
noncomputable def opS (cs : List (Nat × Con)) (tb : Tabs) (st : St L) (gd : Option (Gd L)) (o : Oper) : Option (St L) := @opK L (Option (St L)) (semL cs) (semF (St L)) (semR (St L) cs []) tb st gd o.dst o.type o.op some
theorem opK_opS {tb : Tabs} {st : St L} {gd : Option (Gd L)} {o : Oper} {k : St L → Option ρ} : @opK L (Option ρ) (semL cs) (semF ρ) (semR ρ cs ls) tb st gd o.dst o.type o.op k = (opS cs tb st gd o).bind k :=
  opK_nat (fun x => by cases o.dst <;> rfl) fun _ x => rfl
open Classical in
theorem opS_readOnly {tb : Tabs} {st st' : St L} {gd : Option (Gd L)} {o : Oper} (hro : readOnly tb o.op = true) (h : opS cs tb st gd o = some st') : st'.sto = st.sto := by
  have h1 := opK_nat (cs := cs) (ρ := St L) (σ := St L) (ls := []) (ls2 := []) (f := some) (tb := tb) (st := st) (gd := gd) (dst := o.dst) (rt := o.type) (o := o.op) (k := some) (k2 := fun x => if x.sto = st.sto then some x else none)
    (fun x => by
      cases o.dst with
      | none => simp [retK]
      | some d => simp [retK, putE_sto]) (fun h => by rw [hro] at h; cases h)
  unfold opS at h
  rw [h] at h1
  have h2 := h1.symm
  rw [Option.bind_eq_some_iff] at h2
  obtain ⟨x, h3, h4⟩ := h2
  cases h4
  have h5 := opK_opS (cs := cs) (ρ := St L) (ls := []) (tb := tb) (st := st) (gd := gd) (o := o) (k := fun x => if x.sto = st.sto then some x else none)
  rw [h3] at h5
  have h6 := h5.symm
  rw [Option.bind_eq_some_iff] at h6
  obtain ⟨y, _, h8⟩ := h6
  split at h8
  · cases h8; assumption
  · cases h8
end Go.Y
namespace Go.Y
open Go.Eng (T RepT RepM SRep Kept Base G SameOn VRep Split Live Free kn Owns ownB RootOk ERep HPred)
variable {P : Program} {I : Ids} {φ : FnP} {β : Base} {nt : Nat} {cs : List (Nat × Con)} {tb : Tabs}
theorem noKey_some {d : Nat} {gnv : List (Nat × (Nat × Bool) × AV L)} : noKey (some d) gnv = true ↔ ∀ e ∈ gnv, e.2.1.1 ≠ d := by
  simp only [noKey, List.all_eq_true, Bool.not_eq_true']
  constructor
  · intro h e he hd
    have := h e he
    rw [hd, Nat.beq_refl] at this
    cases this
  · intro h e he
    cases hb : Nat.beq e.2.1.1 d with
    | false => rfl
    | true => exact absurd (Nat.eq_of_beq_eq_true hb) (h e he)
theorem mem_scrubG_iff {d : Nat} {e : Nat × (Nat × Bool) × AV L} : ∀ {l : List (Nat × (Nat × Bool) × AV L)}, (∀ e ∈ l, e.2.1.1 ≠ d) → (e ∈ scrubG d l ↔ e ∈ l ∧ e.1 ≠ d)
  | [], _ => by simp [scrubG]
  | (s, (k, b), x) :: l, h => by
    have hk : k ≠ d := h (s, (k, b), x) (by simp)
    rw [scrubG_cons]
    have ih := mem_scrubG_iff (e := e) (d := d) (l := l) fun e he => h e (by simp [he])
    by_cases hs : s = d
    · rw [if_pos (.inl hs), ih, List.mem_cons]
      constructor
      · rintro ⟨h1, h2⟩; exact ⟨.inr h1, h2⟩
      · rintro ⟨rfl | h1, h2⟩
        · exact absurd hs h2
        · exact ⟨h1, h2⟩
    · rw [if_neg (fun h => h.elim hs hk), List.mem_cons, List.mem_cons, ih]
      constructor
      · rintro (rfl | ⟨h1, h2⟩)
        · exact ⟨.inl rfl, hs⟩
        · exact ⟨.inr h1, h2⟩
      · rintro ⟨rfl | h1, h2⟩
        · exact .inl rfl
        · exact .inr ⟨h1, h2⟩
structure Mg (f : Fp) (σ st' σ' : St L) : Prop where
  env : ∀ s, get σ'.env s = if f.dst = some s then get st'.env s else get σ.env s
  gnv : ∀ s e, (s, e) ∈ σ'.gnv ↔ if f.dst = some s then (get st'.env s = none ∧ get st'.gnv s = some e) else (s, e) ∈ σ.gnv
  sto : ∀ k, get σ'.sto k = if k ∈ f.wks then get st'.sto k else get σ.sto k
theorem mergeF_mg {f : Fp} {σ st' : St L} (hin : stoIn f.ks st'.sto = true) (hn : ∀ d, f.dst = some d → ∀ e ∈ σ.gnv, e.2.1.1 ≠ d) : Mg f σ st' (mergeF f σ st') := by
  have hs : ∀ k, get (match f.wr with | true => mergeSto f.ks σ.sto st'.sto | false => σ.sto) k = if k ∈ f.wks then get st'.sto k else get σ.sto k := by
    intro k
    unfold Fp.wks
    cases f.wr with
    | false => simp
    | true => exact get_merge (stoIn_get hin) k
  unfold mergeF
  cases hd : f.dst with
  | none => exact ⟨fun s => by simp [hd], fun s e => by simp [hd], fun k => hs k⟩
  | some d =>
    have hn := hn d hd
    simp only []
    split
    · rename_i x hx
      refine ⟨fun s => ?_, fun s e => ?_, fun k => hs k⟩
      · simp only [get_put, hd, Option.some.injEq]
        split
        · rename_i h; subst h; rw [if_pos rfl, hx]
        · rename_i h; rw [if_neg (Ne.symm h)]
      · simp only [mem_scrubG_iff hn, hd, Option.some.injEq]
        split
        · rename_i h; subst h; simp [hx]
        · rename_i h; simp [Ne.symm h]
    · rename_i hx
      split
      · rename_i kx hk
        refine ⟨fun s => ?_, fun s e => ?_, fun k => hs k⟩
        · simp only [get_del, hd, Option.some.injEq]
          split
          · rename_i h; subst h; rw [if_pos rfl, hx]
          · rename_i h; rw [if_neg (Ne.symm h)]
        · simp only [List.mem_cons, mem_scrubG_iff hn, hd, Option.some.injEq, Prod.mk.injEq]
          split
          · rename_i h; subst h; simp [hx, hk, eq_comm]
          · rename_i h; simp [Ne.symm h]
      · rename_i hk
        refine ⟨fun s => ?_, fun s e => ?_, fun k => hs k⟩
        · simp only [get_del, hd, Option.some.injEq]
          split
          · rename_i h; subst h; rw [if_pos rfl, hx]
          · rename_i h; rw [if_neg (Ne.symm h)]
        · simp only [mem_scrubG_iff hn, hd, Option.some.injEq]
          split
          · rename_i h; subst h; simp [hk]
          · rename_i h; simp [Ne.symm h]
theorem rootsL_iff {k : Nat} : ∀ {cs : List (AV L)}, k ∈ AV.roots.rootsL cs ↔ ∃ c ∈ cs, k ∈ c.roots
  | [] => by simp [AV.roots.rootsL]
  | c :: r => by simp [AV.roots.rootsL, rootsL_iff (cs := r)]
theorem arep_part {ks : List Nat} {st : St L} (hc : Closed ks st) {g : G} {w : World} {x : AV L} {u : Value} (h : ARep P I φ st g w x u) : (∀ r ∈ x.roots, r ∈ ks) → ARep P I φ (cutSt ks st) g w x u := by
  induction h with
  | lf v u h => intro _; exact .lf v u h
  | zs e a u h => intro _; exact .zs e a u h
  | tl v b n h => intro _; exact .tl v b n h
  | ar l u hb h1 => intro hr; exact (arep_cut hc (hr _ (by simp [AV.roots]))).1 u (.ar l u hb h1)
  | pt l b o hb h1 => intro hr; exact (arep_cut hc (hr _ (by simp [AV.roots]))).2 _ (.pt l b o hb h1)
  | fp v b o us hF hc hr => intro _; exact .fp v b o us hF hc hr
  | ag t cs vs us hl hv _ ih => intro hr; exact .ag t cs vs us hl hv fun i c hc => ih i c hc fun r h => hr r (by simp only [AV.roots]; exact rootsL_iff.2 ⟨c, List.mem_of_getElem? hc, h⟩)
  | tu cs vs us hl hv _ ih => intro hr; exact .tu cs vs us hl hv fun i c hc => ih i c hc fun r h => hr r (by simp only [AV.roots]; exact rootsL_iff.2 ⟨c, List.mem_of_getElem? hc, h⟩)
  | fn f cs vs us hl hv _ ih => intro hr; exact .fn f cs vs us hl hv fun i c hc => ih i c hc fun r h => hr r (by simp only [AV.roots]; exact rootsL_iff.2 ⟨c, List.mem_of_getElem? hc, h⟩)
  | u u => intro _; exact .u u
def RootsIn (f : Fp) (σ : St L) : Prop := ∀ s ∈ f.sl, ∀ x : AV L, (get σ.env s = some x ∨ ∃ k, (s, k, x) ∈ σ.gnv) → ∀ r ∈ x.roots, r ∈ f.ks
theorem relG_part {f : Fp} {σ : St L} {g : G} {a : Act} {w : World} (hR : RelG P I φ β nt σ g a w) (hc : Closed f.ks σ) (hr : RootsIn f σ) : RelG P I φ (cutBase f.ks σ g w) nt (cutF f σ) g a w := by
  refine ⟨hR.defers, hR.size, (inv_cut hR.i hc).env _ _, fun s x hx => ?_, fun s k b x hx => ?_⟩
  · simp only [cutF, get_keepEnv] at hx
    split at hx
    · rename_i hs
      obtain ⟨u, hu, h⟩ := hR.e s x hx
      exact ⟨u, hu, (arep_part hc h (hr s hs x (.inl hx))).env _ _⟩
    · cases hx
  · simp only [cutF, mem_keepGnv] at hx
    obtain ⟨u, hu, h, hn⟩ := hR.n s k b x hx.2
    exact ⟨u, hu, fun hk => (arep_part hc (h hk) (hr s hx.1 x (.inr ⟨(k, b), hx.2⟩))).env _ _, hn⟩
theorem relG_merge {f : Fp} {σ st' σ' : St L} {g g' : G} {a a' : Act} {w w' : World} (hR : RelG P I φ β nt σ g a w) (hc : Closed f.ks σ)
    (hp : Pass P I φ (cutSt f.ks σ) g w st' g' w') (hR' : RelG P I φ (cutBase f.ks σ g w) nt st' g' a' w') (hin : stoIn f.ks st'.sto = true)
    (hn : ∀ d, f.dst = some d → ∀ e ∈ σ.gnv, e.2.1.1 ≠ d) (ha : ∀ s, f.dst ≠ some s → a'.tmps[s]? = a.tmps[s]?)
    (hm : Mg f σ st' σ') (hro : f.wr = false → ∀ k ∈ f.ks, get st'.sto k = get σ.sto k) : ∃ g'', Pass P I φ σ g w σ' g'' w' ∧ RelG P I φ β nt σ' g'' a' w' := by
  have hin' := stoIn_get hin
  obtain ⟨hP, hI⟩ := merge_ok hR.i hc hp hR'.i hin'
  have hv : ∀ k, get (mergeSt f.ks σ st').sto k = get σ'.sto k := by
    intro k
    rw [get_merge hin', hm.sto]
    unfold Fp.wks
    cases hw : f.wr with
    | true => rfl
    | false =>
      simp only [List.not_mem_nil, if_false]
      split
      · exact hro hw k ‹_›
      · rfl
  have hA : ∀ x u, ARep P I φ σ g w x u → ARep P I φ σ' (mergeG f.ks g g') w' x u := fun x u h => arep_view hv (hP.a x u h)
  have hA' : ∀ x u, ARep P I φ st' g' w' x u → ARep P I φ σ' (mergeG f.ks g g') w' x u := fun x u h => arep_view hv (arep_merge hin' hR'.i.c h)
  refine ⟨mergeG f.ks g g', ⟨hA, hP.F, hP.same, hP.size⟩, hR'.defers, hR'.size, inv_view hv hI, fun s x hx => ?_, fun s k b x hx => ?_⟩
  · rw [hm.env] at hx
    split at hx
    · obtain ⟨u, hu, h⟩ := hR'.e s x hx
      exact ⟨u, hu, hA' x u h⟩
    · rename_i hs
      obtain ⟨u, hu, h⟩ := hR.e s x hx
      exact ⟨u, by rw [ha s hs]; exact hu, hA x u h⟩
  · rw [hm.gnv] at hx
    split at hx
    · obtain ⟨u, hu, h, h2⟩ := hR'.n s k b x (mem_of_get hx.2)
      exact ⟨u, hu, fun hk => hA' x u (h hk), h2⟩
    · rename_i hs
      obtain ⟨u, hu, h, h2⟩ := hR.n s k b x hx
      have hk : f.dst ≠ some k := fun e => hn k e _ hx rfl
      exact ⟨u, by rw [ha s hs]; exact hu, fun hb => hA x u (h (by rw [← ha k hk]; exact hb)), fun hb => h2 (by rw [← ha k hk]; exact hb)⟩
end Go.Y
namespace Go.Y
open Go.Eng (T RepT RepM SRep Kept Base G SameOn VRep Split Live Free kn Owns ownB RootOk ERep HPred)
variable {P : Program} {I : Ids} {φ : FnP} {β : Base} {nt : Nat} {cs : List (Nat × Con)} {tb : Tabs}
variable {ρ : Type} {ls : List (Nat × LoopC ρ)} {r : ρ}
def lastW (p : Rec L → Bool) : List (Rec L) → Option (Rec L)
  | [] => none
  | R :: r => match lastW p r with
    | some x => some x
    | none => if p R = true then some R else none
theorem lastW_mem {p : Rec L → Bool} {R : Rec L} : ∀ {rs : List (Rec L)}, lastW p rs = some R → R ∈ rs ∧ p R = true
  | [], h => by cases h
  | x :: rs, h => by
    simp only [lastW] at h
    split at h
    · rename_i y hy
      cases h
      obtain ⟨h1, h2⟩ := lastW_mem hy
      exact ⟨by simp [h1], h2⟩
    · split at h
      · cases h; exact ⟨by simp, ‹_›⟩
      · cases h
theorem lastW_none {p : Rec L → Bool} : ∀ {rs : List (Rec L)}, (∀ R ∈ rs, p R = false) → lastW p rs = none
  | [], _ => rfl
  | x :: rs, h => by
    have ih := lastW_none (p := p) (rs := rs) fun R hR => h R (by simp [hR])
    simp [lastW, ih, h x (by simp)]
theorem lastW_congr {p q : Rec L → Bool} : ∀ {rs : List (Rec L)}, (∀ R ∈ rs, p R = q R) → lastW p rs = lastW q rs
  | [], _ => rfl
  | x :: rs, h => by
    have ih := lastW_congr (p := p) (q := q) (rs := rs) fun R hR => h R (by simp [hR])
    simp [lastW, ih, h x (by simp)]
theorem lastW_append {p : Rec L → Bool} {b : List (Rec L)} : ∀ {a : List (Rec L)}, lastW p (a ++ b) = match lastW p b with | some x => some x | none => lastW p a
  | [] => by simp only [List.nil_append, lastW]; cases lastW p b <;> rfl
  | x :: a => by
    simp only [List.cons_append, lastW, lastW_append (a := a)]
    cases lastW p b <;> rfl
def wsl (s : Nat) (R : Rec L) : Bool := decide (R.f.dst = some s)
def wks (k : Nat) (R : Rec L) : Bool := memN k R.f.wks
structure Sp (rs : List (Rec L)) (st : St L) (S : Rec L → Bool) (σ : St L) : Prop where
  env : ∀ s, get σ.env s = match lastW (fun R => S R && wsl s R) rs with | some R => get R.st.env s | none => get st.env s
  gnv : ∀ s e, (s, e) ∈ σ.gnv ↔ match lastW (fun R => S R && wsl s R) rs with | some R => get R.st.env s = none ∧ get R.st.gnv s = some e | none => (s, e) ∈ st.gnv
  sto : ∀ k, get σ.sto k = match lastW (fun R => S R && wks k R) rs with | some R => get R.st.sto k | none => get st.sto k
theorem Sp.start (rs : List (Rec L)) (st : St L) : Sp rs st (fun _ => false) st := by
  have h : ∀ p : Rec L → Bool, lastW (fun R => false && p R) rs = none := fun p => lastW_none fun R _ => rfl
  exact ⟨fun s => by rw [h], fun s e => by rw [h], fun k => by rw [h]⟩
theorem Sp.ag {rs : List (Rec L)} {st σ σ' : St L} {S : Rec L → Bool} (h : Sp rs st S σ) (h' : Sp rs st S σ') : Ag all1 all1 σ σ' :=
  ⟨fun s _ => by rw [h.env, h'.env], fun s _ e => by rw [h.gnv, h'.gnv], fun k _ => by rw [h.sto, h'.sto]⟩
theorem Sp.congr {rs : List (Rec L)} {st σ : St L} {S S' : Rec L → Bool} (h : Sp rs st S σ) (he : ∀ R ∈ rs, S R = S' R) : Sp rs st S' σ := by
  have h1 : ∀ q : Rec L → Bool, lastW (fun R => S R && q R) rs = lastW (fun R => S' R && q R) rs := fun q => lastW_congr fun R hR => by rw [he R hR]
  exact ⟨fun s => by rw [← h1]; exact h.env s, fun s e => by rw [← h1]; exact h.gnv s e, fun k => by rw [← h1]; exact h.sto k⟩
def foldM : List (Rec L) → St L → St L
  | [], σ => σ
  | R :: r, σ => foldM r (mergeF R.f σ R.st)
theorem foldM_append : ∀ (a b : List (Rec L)) (σ : St L), foldM (a ++ b) σ = foldM b (foldM a σ)
  | [], _, _ => rfl
  | R :: a, b, σ => foldM_append a b _
structure Good (cs : List (Nat × Con)) (tb : Tabs) (all : List Oper) (ah : List (List Nat)) (fs : List (Rec L)) (σ : St L) (R : Rec L) (o : Oper) (ahd : List Nat) (gd : Option (Gd L)) : Prop where
  op : getL all R.i = some o
  ahead : getL ah R.i = some ahd
  fp : R.f = fpOf tb all σ o
  apart : apartAll R.f (softW tb o.op) ahd fs = true
  closed : Go.Y.closed R.f.ks σ.sto = true
  guard : @guardV L (semL cs) all (cutF R.f σ) o.guard = some gd
  self : selfOk gd o.dst = true
  run : opS cs tb (cutF R.f σ) gd o = some R.st
  sin : stoIn R.f.ks R.st.sto = true
  key : keyIn R.f R.st = true
  soft : R.soft = @softR L (semL cs) tb (cutF R.f σ) (gdKeys gd) o.op
  mv : R.mv = softN o.op
theorem drawGo_some {all : List Oper} {ah : List (List Nat)} {n : St L → Option ρ} : ∀ (l : List Nat) (fs : List (Rec L)) (st : St L), @drawGo L (Option ρ) (semL cs) (semF ρ) (semR ρ cs ls) tb all ah l fs st n = some r →
    ∃ rs : List (Rec L), rs.map (·.i) = l ∧ n (foldM rs st) = some r ∧ ∀ a R b, rs = a ++ R :: b → ∃ o ahd gd, Good cs tb all ah (fs ++ a) (foldM a st) R o ahd gd
  | [], fs, st, h => ⟨[], rfl, h, fun a R b e => by simp at e⟩
  | i :: l, fs, st, h => by
    simp only [drawGo] at h
    obtain ⟨o, ho, h⟩ := oCase_some h
    obtain ⟨ahd, ha, h⟩ := oCase_some h
    split at h
    · cases h
    · rename_i h1
      rw [Bool.and_eq_true] at h1
      obtain ⟨gd, hg, h⟩ := oCase_some h
      split at h
      · rename_i h2
        rw [opK_opS, Option.bind_eq_some_iff] at h
        obtain ⟨st', h3, h⟩ := h
        split at h
        · rename_i h4
          rw [Bool.and_eq_true] at h4
          obtain ⟨rs, h5, h6, h7⟩ := drawGo_some l _ _ h
          refine ⟨⟨i, fpOf tb all st o, st', @softR L (semL cs) tb (cutF (fpOf tb all st o) st) (gdKeys gd) o.op, softN o.op⟩ :: rs, by simp [h5], h6, fun a R b e => ?_⟩
          cases a with
          | nil =>
            simp only [List.nil_append, List.cons.injEq] at e
            obtain ⟨rfl, rfl⟩ := e
            exact ⟨o, ahd, gd, ho, ha, rfl, by simpa using h1.1, h1.2, hg, h2, h3, h4.1, h4.2, rfl, rfl⟩
          | cons R0 a =>
            simp only [List.cons_append, List.cons.injEq] at e
            obtain ⟨rfl, e⟩ := e
            obtain ⟨o', ahd', gd', hG⟩ := h7 a R b e
            refine ⟨o', ahd', gd', ?_⟩
            simpa [foldM] using hG
        · cases h
      · cases h
theorem meet_false : ∀ {a b : List Nat}, meet a b = false → ∀ k ∈ a, k ∉ b
  | [], _, _, k, hk => by simp at hk
  | x :: a, b, h, k, hk => by
    simp only [meet, Bool.or_eq_false_iff] at h
    rcases List.mem_cons.1 hk with rfl | hk
    · intro hb; rw [memN_iff.2 hb] at h; cases h.1
    · exact meet_false h.2 k hk
theorem mem_wsl {f : Fp} {s : Nat} : s ∈ f.wsl ↔ f.dst = some s := by
  unfold Fp.wsl
  cases f.dst <;> simp [eq_comm]
theorem wks_ks {f : Fp} {k : Nat} (h : k ∈ f.wks) : k ∈ f.ks := by
  unfold Fp.wks at h
  cases hw : f.wr <;> rw [hw] at h
  · simp at h
  · exact h
structure SlotsApart (f g : Fp) : Prop where
  a : ∀ s, f.dst = some s → s ∉ g.sl
  b : ∀ s, f.dst = some s → g.dst ≠ some s
  c : ∀ s, g.dst = some s → s ∉ f.sl
theorem apart_spec {f g : Fp} (h : apart f g = true) : SlotsApart f g ∧ (∀ k ∈ f.wks, k ∉ g.ks) ∧ ∀ k ∈ g.wks, k ∉ f.ks := by
  simp only [apart, Bool.not_eq_true', Bool.or_eq_false_iff] at h
  obtain ⟨h1, h2, h3, h4, h5⟩ := h
  exact ⟨⟨fun s hs => meet_false h1 s (mem_wsl.2 hs), fun s hs hg => meet_false h2 s (mem_wsl.2 hs) (mem_wsl.2 hg), fun s hs => meet_false h3 s (mem_wsl.2 hs)⟩, meet_false h4, meet_false h5⟩
theorem apartS_spec {f g : Fp} (h : apartS f g = true) : SlotsApart f g ∧ ∀ s, g.dst = some s → s ∉ f.ks := by
  simp only [apartS, Bool.not_eq_true', Bool.or_eq_false_iff] at h
  obtain ⟨h1, h2, h3, h4⟩ := h
  exact ⟨⟨fun s hs => meet_false h1 s (mem_wsl.2 hs), fun s hs hg => meet_false h2 s (mem_wsl.2 hs) (mem_wsl.2 hg), fun s hs => meet_false h3 s (mem_wsl.2 hs)⟩, fun s hs => meet_false h4 s (mem_wsl.2 hs)⟩
theorem apartAll_mem {f : Fp} {sw : Bool} {a : List Nat} : ∀ {fs : List (Rec L)}, apartAll f sw a fs = true → ∀ g ∈ fs,
    (g.i ∈ a ∨ apart g.f f = true ∨ (g.soft = true ∧ (sw = true ∨ g.mv = true) ∧ apartS g.f f = true)) ∧ noKey f.dst g.st.gnv = true
  | [], _, g, hg => by simp at hg
  | x :: fs, h, g, hg => by
    simp only [apartAll, Bool.and_eq_true, Bool.or_eq_true] at h
    rcases List.mem_cons.1 hg with rfl | hg
    · refine ⟨?_, h.2.1⟩
      rcases h.1 with h1 | h1 | h1
      · exact .inl (memN_iff.1 h1)
      · exact .inr (.inl h1)
      · exact .inr (.inr ⟨h1.1, h1.2.1, h1.2.2⟩)
    · exact apartAll_mem h.2.2 g hg
theorem noKeys_mem {gnv : List (Nat × (Nat × Bool) × AV L)} : ∀ {ops : List Oper}, noKeys gnv ops = true → ∀ o ∈ ops, noKey o.dst gnv = true
  | [], _, o, ho => by simp at ho
  | x :: ops, h, o, ho => by
    simp only [noKeys, Bool.and_eq_true] at h
    rcases List.mem_cons.1 ho with rfl | ho
    · exact h.1
    · exact noKeys_mem h.2 o ho
theorem softR_ro {st : St L} {ks : List (Nat × Bool)} {o : Op} (h : @softR L (semL cs) tb st ks o = true) : readOnly tb o = true := by
  cases o <;> first | rfl | (simp [softR] at h)
end Go.Y
namespace Go.Y
open Go.Eng (T RepT RepM SRep Kept Base G SameOn VRep Split Live Free kn Owns ownB RootOk ERep HPred)
variable {P : Program} {I : Ids} {φ : FnP} {β : Base} {nt : Nat} {cs : List (Nat × Con)} {tb : Tabs}
variable {all : List Oper} {ah : List (List Nat)} {rs : List (Rec L)} {st : St L}
structure DRun (cs : List (Nat × Con)) (tb : Tabs) (all : List Oper) (ah : List (List Nat)) (rs : List (Rec L)) (st : St L) : Prop where
  good : ∀ a R b, rs = a ++ R :: b → ∃ o ahd gd, Good cs tb all ah a (foldM a st) R o ahd gd
  nodup : (rs.map (·.i)).Nodup
  keys : noKeys st.gnv all = true
def Down (ah : List (List Nat)) (S : Nat → Bool) : Prop := ∀ i, S i = true → ∀ ahd, getL ah i = some ahd → ∀ j ∈ ahd, S j = true
theorem DRun.inj (h : DRun cs tb all ah rs st) {R R' : Rec L} (h1 : R ∈ rs) (h2 : R' ∈ rs) (hi : R.i = R'.i) : R = R' := by
  have hn := h.nodup
  clear h
  induction rs with
  | nil => simp at h1
  | cons x rs ih =>
    simp only [List.map_cons, List.nodup_cons] at hn
    rcases List.mem_cons.1 h1 with e1 | m1
    · rcases List.mem_cons.1 h2 with e2 | m2
      · rw [e1, e2]
      · rw [← e1] at hn
        exact absurd (List.mem_map.2 ⟨R', m2, hi.symm⟩) hn.1
    · rcases List.mem_cons.1 h2 with e2 | m2
      · rw [← e2] at hn
        exact absurd (List.mem_map.2 ⟨R, m1, hi⟩) hn.1
      · exact ih m1 m2 hn.2
theorem Good.dst {fs : List (Rec L)} {σ : St L} {R : Rec L} {o : Oper} {ahd : List Nat} {gd : Option (Gd L)} (h : Good cs tb all ah fs σ R o ahd gd) : R.f.dst = o.dst := by rw [h.fp]; rfl
theorem Good.mem {fs : List (Rec L)} {σ : St L} {R : Rec L} {o : Oper} {ahd : List Nat} {gd : Option (Gd L)} (h : Good cs tb all ah fs σ R o ahd gd) : o ∈ all := by
  have := h.op
  rw [getL_eq] at this
  exact List.mem_of_getElem? this
theorem Good.soft_wks {fs : List (Rec L)} {σ : St L} {R : Rec L} {o : Oper} {ahd : List Nat} {gd : Option (Gd L)} (h : Good cs tb all ah fs σ R o ahd gd) (hs : R.soft = true) : R.f.wks = [] := by
  have h1 := softR_ro (h.soft ▸ hs)
  have : R.f.wr = false := by rw [h.fp]; simp [fpOf, h1]
  simp [Fp.wks, this]
section
variable {a b : List (Rec L)} {R : Rec L} {S : Nat → Bool}
theorem DRun.later (h : DRun cs tb all ah rs st) (he : rs = a ++ R :: b) (hd : Down ah S) (hS : S R.i = false) {R' : Rec L} (hm : R' ∈ b) (hS' : S R'.i = true) :
    apart R.f R'.f = true ∨ (R.soft = true ∧ apartS R.f R'.f = true ∧ (R.mv = true ∨ ∃ a' o ahd gd, Good cs tb all ah a' (foldM a' st) R' o ahd gd ∧ softW tb o.op = true)) := by
  obtain ⟨b1, b2, rfl⟩ := List.append_of_mem hm
  obtain ⟨o, ahd, gd, hG⟩ := h.good (a ++ R :: b1) R' b2 (by rw [he]; simp)
  rcases (apartAll_mem hG.apart R (by simp)).1 with h1 | h1 | h1
  · have := hd _ hS' ahd hG.ahead R.i h1
    rw [hS] at this; cases this
  · exact .inl h1
  · exact .inr ⟨h1.1, h1.2.2, h1.2.1.elim (fun h2 => .inr ⟨_, o, ahd, gd, hG, h2⟩) .inl⟩
theorem later_slots {R' : Rec L} {X : Prop} (h : apart R.f R'.f = true ∨ (R.soft = true ∧ apartS R.f R'.f = true ∧ X)) : SlotsApart R.f R'.f := by
  rcases h with h | h
  · exact (apart_spec h).1
  · exact (apartS_spec h.2.1).1
theorem DRun.earlier (h : DRun cs tb all ah rs st) {o : Oper} {ahd : List Nat} {gd : Option (Gd L)} {σ : St L} (hG : Good cs tb all ah a σ R o ahd gd) (hd : ∀ j ∈ ahd, S j = true) {R' : Rec L} (hm : R' ∈ a) (hS' : S R'.i = false) :
    apart R'.f R.f = true ∨ (R'.soft = true ∧ (softW tb o.op = true ∨ R'.mv = true) ∧ apartS R'.f R.f = true) := by
  rcases (apartAll_mem hG.apart R' hm).1 with h1 | h1
  · have := hd _ h1
    rw [hS'] at this; cases this
  · exact h1
theorem lastW_at {p : Rec L → Bool} (he : rs = a ++ R :: b) (h1 : p R = true) (h2 : ∀ R' ∈ b, p R' = false) : lastW p rs = some R := by
  have hb := lastW_none h2
  rw [he, lastW_append]
  simp [lastW, hb, h1]
def ins (S : Nat → Bool) (i : Nat) : Nat → Bool := fun j => S j || Nat.beq j i
theorem DRun.notin (h : DRun cs tb all ah rs st) (he : rs = a ++ R :: b) : (∀ R' ∈ a, R'.i ≠ R.i) ∧ ∀ R' ∈ b, R'.i ≠ R.i := by
  have hn := h.nodup
  rw [he, List.map_append, List.map_cons, List.nodup_append] at hn
  obtain ⟨_, h2, h3⟩ := hn
  rw [List.nodup_cons] at h2
  refine ⟨fun R' hR' hi => h3 _ (List.mem_map.2 ⟨R', hR', rfl⟩) R.i (by simp) hi, fun R' hR' hi => h2.1 (List.mem_map.2 ⟨R', hR', hi⟩)⟩
theorem DRun.step (h : DRun cs tb all ah rs st) (he : rs = a ++ R :: b) {σ σ' : St L} (hS : Sp rs st (fun R => S R.i) σ) (hm : Mg R.f σ R.st σ')
    (h1 : ∀ R' ∈ b, S R'.i = true → ∀ s, R.f.dst = some s → R'.f.dst ≠ some s) (h2 : ∀ R' ∈ b, S R'.i = true → ∀ k ∈ R.f.wks, k ∉ R'.f.wks) : Sp rs st (fun R' => ins S R.i R'.i) σ' := by
  obtain ⟨hna, hnb⟩ := h.notin he
  have hR : R ∈ rs := by rw [he]; simp
  have hself : ins S R.i R.i = true := by simp [ins]
  have hoth : ∀ R' : Rec L, R'.i ≠ R.i → ins S R.i R'.i = S R'.i := by
    intro R' hi
    unfold ins
    have : Nat.beq R'.i R.i = false := by
      cases hb : Nat.beq R'.i R.i with
      | false => rfl
      | true => exact absurd (Nat.eq_of_beq_eq_true hb) hi
    rw [this, Bool.or_false]
  have hsame : ∀ q : Rec L → Bool, q R = false → lastW (fun R' => ins S R.i R'.i && q R') rs = lastW (fun R' => S R'.i && q R') rs := by
    intro q hq
    refine lastW_congr fun R' hR' => ?_
    by_cases hi : R'.i = R.i
    · have := h.inj hR' hR hi
      subst this
      simp [hq]
    · rw [hoth R' hi]
  have hnew : ∀ q : Rec L → Bool, q R = true → (∀ R' ∈ b, S R'.i = true → q R' = false) → lastW (fun R' => ins S R.i R'.i && q R') rs = some R := by
    intro q hq hb
    refine lastW_at he (by simp [hself, hq]) fun R' hR' => ?_
    rw [hoth R' (hnb R' hR')]
    cases hS' : S R'.i with
    | false => rfl
    | true => simp [hb R' hR' hS']
  refine ⟨fun s => ?_, fun s e => ?_, fun k => ?_⟩
  · rw [hm.env]
    split
    · rename_i hd
      rw [hnew (wsl s) (by simp [wsl, hd]) fun R' hR' hS' => by simp [wsl, h1 R' hR' hS' s hd]]
    · rename_i hd
      rw [hsame (wsl s) (by simp [wsl, hd])]
      exact hS.env s
  · rw [hm.gnv]
    split
    · rename_i hd
      rw [hnew (wsl s) (by simp [wsl, hd]) fun R' hR' hS' => by simp [wsl, h1 R' hR' hS' s hd]]
    · rename_i hd
      rw [hsame (wsl s) (by simp [wsl, hd])]
      exact hS.gnv s e
  · rw [hm.sto]
    split
    · rename_i hd
      rw [hnew (wks k) (memN_iff.2 hd) fun R' hR' hS' => by
        cases hb : wks k R' with
        | false => rfl
        | true => exact absurd (memN_iff.1 hb) (h2 R' hR' hS' k hd)]
    · rename_i hd
      rw [hsame (wks k) (by
        cases hb : wks k R with
        | false => rfl
        | true => exact absurd (memN_iff.1 hb) hd)]
      exact hS.sto k
theorem DRun.keys_ok (h : DRun cs tb all ah rs st) (he : rs = a ++ R :: b) {σ : St L} (hS : Sp rs st (fun R => S R.i) σ) (hS0 : S R.i = false)
    (hl : ∀ R' ∈ b, S R'.i = true → SlotsApart R.f R'.f) : ∀ d, R.f.dst = some d → ∀ e ∈ σ.gnv, e.2.1.1 ≠ d := by
  rintro d hd ⟨s, e⟩ he'
  obtain ⟨o, ahd, gd, hG⟩ := h.good a R b he
  rw [hS.gnv] at he'
  split at he'
  · rename_i R' hR'
    obtain ⟨h1, h2⟩ := lastW_mem hR'
    simp only [Bool.and_eq_true, wsl, decide_eq_true_eq] at h2
    rw [he, List.mem_append, List.mem_cons] at h1
    rcases h1 with h1 | rfl | h1
    · have := (apartAll_mem hG.apart R' h1).2
      rw [hd] at this
      exact noKey_some.1 this _ (mem_of_get he'.2)
    · rw [h2.1] at hS0; cases hS0
    · intro hk
      obtain ⟨b1, b2, rfl⟩ := List.append_of_mem h1
      obtain ⟨o', ahd', gd', hG'⟩ := h.good (a ++ R :: b1) R' b2 (by rw [he]; simp)
      have hk' := hG'.key
      obtain ⟨⟨k, kb⟩, x⟩ := e
      simp only [keyIn, h2.2, he'.2] at hk'
      exact (hl R' h1 h2.1).a d hd (by simp only at hk; rw [← hk]; exact memN_iff.1 hk')
  · have := noKeys_mem h.keys o hG.mem
    rw [← hG.dst, hd] at this
    exact noKey_some.1 this _ he'
theorem DRun.canon (h : DRun cs tb all ah rs st) : ∀ (a b : List (Rec L)), rs = a ++ b → Sp rs st (fun R => memN R.i (a.map (·.i))) (foldM a st) := by
  intro a
  induction hn : a.length generalizing a with
  | zero =>
    intro b _
    have : a = [] := List.eq_nil_of_length_eq_zero hn
    subst this
    exact Sp.start rs st
  | succ n ih =>
    intro b he
    rcases List.eq_nil_or_concat a with rfl | ⟨a', R, hcc⟩
    · simp at hn
    · rw [List.concat_eq_append] at hcc
      subst hcc
      have he' : rs = a' ++ R :: b := by rw [he]; simp
      obtain ⟨hna, hnb⟩ := h.notin he'
      have h1 := ih a' (by simpa using hn) (R :: b) he'
      have hnS : ∀ R' ∈ b, memN R'.i (a'.map (·.i)) = true → False := by
        intro R' hR' hm
        obtain ⟨R0, h2, h3⟩ := List.mem_map.1 (memN_iff.1 hm)
        have := h.inj (R := R0) (R' := R') (by rw [he']; simp [h2]) (by rw [he']; simp [hR']) h3
        subst this
        have hnd := h.nodup
        rw [he', List.map_append, List.nodup_append] at hnd
        exact hnd.2.2 _ (List.mem_map.2 ⟨R0, h2, rfl⟩) _ (List.mem_map.2 ⟨R0, by simp [hR'], rfl⟩) rfl
      have hS0 : memN R.i (a'.map (·.i)) = false := by
        cases hm : memN R.i (a'.map (·.i)) with
        | false => rfl
        | true =>
          obtain ⟨R0, h2, h3⟩ := List.mem_map.1 (memN_iff.1 hm)
          exact absurd h3 (hna R0 h2)
      have hk := h.keys_ok (S := fun i => memN i (a'.map (·.i))) he' h1 hS0 fun R' hR' hm => (hnS R' hR' hm).elim
      obtain ⟨o, ahd, gd, hG⟩ := h.good a' R b he'
      have h2 := h.step (S := fun i => memN i (a'.map (·.i))) he' h1 (mergeF_mg hG.sin hk) (fun R' hR' hm => (hnS R' hR' hm).elim) (fun R' hR' hm => (hnS R' hR' hm).elim)
      rw [foldM_append]
      refine h2.congr fun R' _ => ?_
      rw [Bool.eq_iff_iff]
      simp only [ins, Bool.or_eq_true, memN_iff, List.map_append, List.map_cons, List.map_nil, List.mem_append, List.mem_singleton, Nat.beq_eq]
end
end Go.Y
namespace Go.Y
open Go.Eng (T RepT RepM SRep Kept Base G SameOn VRep Split Live Free kn Owns ownB RootOk ERep HPred)
variable {P : Program} {I : Ids} {φ : FnP} {β : Base} {nt : Nat} {cs : List (Nat × Con)} {tb : Tabs}
variable {all : List Oper} {ah : List (List Nat)} {rs : List (Rec L)} {st : St L}
section
variable {a b : List (Rec L)} {R : Rec L} {S : Nat → Bool} {o : Oper} {ahd : List Nat} {gd : Option (Gd L)} {σ : St L}
theorem DRun.inA (h : DRun cs tb all ah rs st) (he : rs = a ++ R :: b) : (∀ R' ∈ a, memN R'.i (a.map (·.i)) = true) ∧ memN R.i (a.map (·.i)) = false ∧ ∀ R' ∈ b, memN R'.i (a.map (·.i)) = false := by
  refine ⟨fun R' hR' => memN_iff.2 (List.mem_map.2 ⟨R', hR', rfl⟩), ?_, fun R' hR' => ?_⟩
  · cases hm : memN R.i (a.map (·.i)) with
    | false => rfl
    | true =>
      obtain ⟨R0, h2, h3⟩ := List.mem_map.1 (memN_iff.1 hm)
      exact absurd h3 ((h.notin he).1 R0 h2)
  · cases hm : memN R'.i (a.map (·.i)) with
    | false => rfl
    | true =>
      obtain ⟨R0, h2, h3⟩ := List.mem_map.1 (memN_iff.1 hm)
      have := h.inj (R := R0) (R' := R') (by rw [he]; simp [h2]) (by rw [he]; simp [hR']) h3
      subst this
      have hnd := h.nodup
      rw [he, List.map_append, List.nodup_append] at hnd
      exact absurd rfl (hnd.2.2 _ (List.mem_map.2 ⟨R0, h2, rfl⟩) _ (List.mem_map.2 ⟨R0, by simp [hR'], rfl⟩))
theorem DRun.lw_slots (h : DRun cs tb all ah rs st) (he : rs = a ++ R :: b) (hG : Good cs tb all ah a (foldM a st) R o ahd gd) (hd : Down ah S) (hS0 : S R.i = false) (hah : ∀ j ∈ ahd, S j = true) {s : Nat} (hs : s ∈ R.f.sl) :
    lastW (fun R => S R.i && wsl s R) rs = lastW (fun R => memN R.i (a.map (·.i)) && wsl s R) rs := by
  obtain ⟨h1, h2, h3⟩ := h.inA he
  refine lastW_congr fun R' hR' => ?_
  rw [he, List.mem_append, List.mem_cons] at hR'
  rcases hR' with hR' | rfl | hR'
  · rw [h1 R' hR']
    cases hS' : S R'.i with
    | true => rfl
    | false =>
      cases hw : wsl s R' with
      | false => rfl
      | true =>
        simp only [wsl, decide_eq_true_eq] at hw
        have hsa : SlotsApart R'.f R.f := by
          rcases h.earlier hG hah hR' hS' with h4 | h4
          · exact (apart_spec h4).1
          · exact (apartS_spec h4.2.2).1
        exact absurd hs (hsa.a s hw)
  · rw [hS0, h2]
  · rw [h3 R' hR']
    cases hS' : S R'.i with
    | false => rfl
    | true =>
      cases hw : wsl s R' with
      | false => rfl
      | true =>
        simp only [wsl, decide_eq_true_eq] at hw
        exact absurd hs ((later_slots (h.later he hd hS0 hR' hS')).c s hw)
theorem DRun.lw_roots (h : DRun cs tb all ah rs st) (he : rs = a ++ R :: b) (hG : Good cs tb all ah a (foldM a st) R o ahd gd) (hah : ∀ j ∈ ahd, S j = true) {k : Nat} (hk : k ∈ R.f.ks) :
    lastW (fun R => (S R.i && memN R.i (a.map (·.i))) && wks k R) rs = lastW (fun R => memN R.i (a.map (·.i)) && wks k R) rs := by
  obtain ⟨h1, h2, h3⟩ := h.inA he
  refine lastW_congr fun R' hR' => ?_
  rw [he, List.mem_append, List.mem_cons] at hR'
  rcases hR' with hR' | rfl | hR'
  · rw [h1 R' hR']
    cases hS' : S R'.i with
    | true => rfl
    | false =>
      cases hw : wks k R' with
      | false => rfl
      | true =>
        have hw' := memN_iff.1 hw
        rcases h.earlier hG hah hR' hS' with h4 | h4
        · exact absurd hk ((apart_spec h4).2.1 k hw')
        · obtain ⟨a1, a2, ha⟩ := List.append_of_mem hR'
          obtain ⟨o', ahd', gd', hG'⟩ := h.good a1 R' (a2 ++ R :: b) (by rw [he, ha]; simp)
          rw [hG'.soft_wks h4.1] at hw'
          simp at hw'
  · rw [h2]; simp
  · rw [h3 R' hR']; simp
theorem DRun.ag (h : DRun cs tb all ah rs st) (he : rs = a ++ R :: b) (hG : Good cs tb all ah a (foldM a st) R o ahd gd) (hd : Down ah S) (hS0 : S R.i = false) (hah : ∀ j ∈ ahd, S j = true)
    (hS : Sp rs st (fun R => S R.i) σ) (hns : R.soft = false) : Ag (· ∈ R.f.sl) (· ∈ R.f.ks) σ (foldM a st) := by
  have hc := h.canon a (R :: b) he
  refine ⟨fun s hs => ?_, fun s hs e => ?_, fun k hk => ?_⟩
  · rw [hS.env, hc.env, h.lw_slots he hG hd hS0 hah hs]
  · rw [hS.gnv, hc.gnv, h.lw_slots he hG hd hS0 hah hs]
  · rw [hS.sto, hc.sto, ← h.lw_roots he hG hah hk]
    rw [lastW_congr (q := fun R => (S R.i && memN R.i (a.map (·.i))) && wks k R)]
    intro R' hR'
    obtain ⟨h1, h2, h3⟩ := h.inA he
    rw [he, List.mem_append, List.mem_cons] at hR'
    rcases hR' with hR' | rfl | hR'
    · rw [h1 R' hR']; simp
    · rw [hS0]; simp
    · rw [h3 R' hR']
      cases hS' : S R'.i with
      | false => rfl
      | true =>
        cases hw : wks k R' with
        | false => rfl
        | true =>
          rcases h.later he hd hS0 hR' hS' with h4 | h4
          · exact absurd hk ((apart_spec h4).2.2 k (memN_iff.1 hw))
          · rw [hns] at h4; cases h4.1
end
theorem mem_envRoots {k s : Nat} {x : AV L} : ∀ {env : List (Nat × AV L)}, (s, x) ∈ env → k ∈ x.roots → k ∈ envRoots env
  | [], h, _ => by simp at h
  | (s', y) :: env, h, hk => by
    simp only [envRoots, List.mem_append]
    rcases List.mem_cons.1 h with h | h
    · cases h; exact .inl hk
    · exact .inr (mem_envRoots h hk)
theorem mem_gnvRoots {k s : Nat} {kk : Nat × Bool} {x : AV L} : ∀ {gnv : List (Nat × (Nat × Bool) × AV L)}, (s, kk, x) ∈ gnv → k ∈ x.roots → k ∈ gnvRoots gnv
  | [], h, _ => by simp at h
  | (s', kk', y) :: env, h, hk => by
    simp only [gnvRoots, List.mem_append]
    rcases List.mem_cons.1 h with h | h
    · cases h; exact .inl hk
    · exact .inr (mem_gnvRoots h hk)
theorem fp_roots (all : List Oper) (σ : St L) (o : Oper) : RootsIn (fpOf tb all σ o) σ := by
  intro s hs x hx k hk
  simp only [fpOf] at hs ⊢
  refine List.mem_append_left _ (List.mem_append_left _ ?_)
  rcases hx with hx | ⟨kk, hx⟩
  · refine List.mem_append_left _ (List.mem_append_right _ (mem_envRoots (s := s) ?_ hk))
    refine mem_of_get ?_
    rw [get_keepEnv, if_pos hs]
    exact hx
  · exact List.mem_append_right _ (mem_gnvRoots (s := s) (kk := kk) (mem_keepGnv.2 ⟨hs, hx⟩) hk)
end Go.Y
namespace Go.Y
open Go.Eng (T RepT RepM SRep Kept Base G SameOn VRep Split Live Free kn Owns ownB RootOk ERep HPred)
variable {P : Program} {I : Ids} {φ : FnP} {β : Base} {nt : Nat} {cs : List (Nat × Con)} {tb : Tabs}
variable {all : List Oper} {ah : List (List Nat)} {rs : List (Rec L)} {st : St L}
def SoftC (c c' : Cell L) : Prop := c' = c ∨ ∃ d v, c.e = .o (d + 1) v ∧ ((c.stamp < c'.stamp ∧ ∃ e a, v.ty = .sl e a) ∨ c' = ⟨c.stamp, .o 0 v⟩)
structure SoftR (r r' : Root L) : Prop where
  gen : r'.gen = r.gen
  mem : r'.mem = r.mem
  len : r'.cells.length = r.cells.length
  cell : ∀ (j : Nat) c, r.cells[j]? = some c → ∃ c', r'.cells[j]? = some c' ∧ SoftC c c'
theorem SoftC.refl (c : Cell L) : SoftC c c := .inl rfl
theorem SoftR.refl (r : Root L) : SoftR r r := ⟨rfl, rfl, rfl, fun _ c h => ⟨c, h, .refl c⟩⟩
theorem SoftC.trans {c c' c'' : Cell L} (h : SoftC c c') (h' : SoftC c' c'') : SoftC c c'' := by
  rcases h with rfl | ⟨d, v, h1, h2⟩
  · exact h'
  · rcases h' with rfl | ⟨d', v', h3, h4⟩
    · exact .inr ⟨d, v, h1, h2⟩
    · rcases h2 with ⟨h2, h5⟩ | rfl
      · refine .inr ⟨d, v, h1, .inl ⟨?_, h5⟩⟩
        rcases h4 with ⟨h4, _⟩ | rfl
        · omega
        · exact h2
      · cases h3
theorem SoftR.trans {r r' r'' : Root L} (h : SoftR r r') (h' : SoftR r' r'') : SoftR r r'' :=
  ⟨h'.gen.trans h.gen, h'.mem.trans h.mem, h'.len.trans h.len, fun j c hc => by
    obtain ⟨c', h1, h2⟩ := h.cell j c hc
    obtain ⟨c'', h3, h4⟩ := h'.cell j c' h1
    exact ⟨c'', h3, h2.trans h4⟩⟩
def SoftS (sto sto' : List (Nat × Root L)) : Prop := ∀ k r, get sto k = some r → ∃ r', get sto' k = some r' ∧ SoftR r r'
def SoftOk (P : Program) (I : Ids) (φ : FnP) (nt : Nat) (cs : List (Nat × Con)) (tb : Tabs) : Prop :=
  ∀ (o : Oper) (gd : Option (Gd L)) (stc st' : St L) (sto' : List (Nat × Root L)), (∀ d, o.dst = some d → d < nt) → selfOk gd o.dst = true → @softR L (semL cs) tb stc (gdKeys gd) o.op = true →
    opS cs tb stc gd o = some st' → (softN o.op = true ∨ SoftS stc.sto sto') → ∃ st'', st''.sto = sto' ∧ (∀ d, o.dst = some d → get st''.env d = get st'.env d ∧ get st''.gnv d = get st'.gnv d) ∧ ∀ β, Does P I φ β nt o ⟨stc.env, stc.gnv, sto'⟩ gd st''
def SoftWr (cs : List (Nat × Con)) (tb : Tabs) : Prop :=
  ∀ (o : Oper) (gd : Option (Gd L)) (stc st' : St L), softW tb o.op = true → opS cs tb stc gd o = some st' → ∀ k r, o.dst ≠ some k → get stc.sto k = some r → ∃ r', get st'.sto k = some r' ∧ SoftR r r'
def StaysOk (cs : List (Nat × Con)) (tb : Tabs) : Prop :=
  ∀ (o : Oper) (gd : Option (Gd L)) (stc st' : St L), stays stc o.op = true → opS cs tb stc gd o = some st' → ∀ k, get st'.sto k = get stc.sto k
theorem stays_cut {f : Fp} {σ : St L} {o : Op} (h : stays σ o = true) (hs : ∀ s, s ∈ slotsOf o.operands.toList → s ∈ f.sl) (hr : RootsIn f σ) : stays (cutF f σ) o = true := by
  cases o <;> try (simp [stays] at h; done)
  rename_i t x lo hi mx
  cases x with
  | tmp s =>
    have hsl : s ∈ f.sl := hs s (by
      have : ∃ l, (Op.operands (.slice t (.tmp s) lo hi mx)).toList = .tmp s :: l := by
        simp [Op.operands]
      obtain ⟨l, hl⟩ := this
      rw [hl]
      simp [slotsOf])
    simp only [stays, cutF, get_keepEnv, if_pos hsl] at h ⊢
    cases hx : get σ.env s with
    | none => rw [hx] at h; cases h
    | some x =>
      rw [hx] at h
      cases x with
      | ar l =>
        have hl : l.root ∈ f.ks := hr s hsl _ (.inl hx) l.root (by simp [AV.roots])
        simp only at h ⊢
        have : cellAt ⟨keepEnv f.sl σ.env, keepGnv f.sl σ.gnv, keepSto f.ks σ.sto⟩ l = cellAt σ l := by
          unfold cellAt rootAt
          simp only [get_keepSto, if_pos hl]
        rw [this]
        exact h
      | lf v => rfl
      | zs e a => rfl
      | _ => simp at h
  | _ => simp [stays] at h
end Go.Y
namespace Go.Y
open Go.Eng (T RepT RepM SRep Kept Base G SameOn VRep Split Live Free kn Owns ownB RootOk ERep HPred)
variable {P : Program} {I : Ids} {φ : FnP} {β : Base} {nt : Nat} {cs : List (Nat × Con)} {tb : Tabs}
variable {all : List Oper} {ah : List (List Nat)} {rs : List (Rec L)} {st : St L}
variable {a b : List (Rec L)} {R : Rec L} {S : Nat → Bool} {o : Oper} {ahd : List Nat} {gd : Option (Gd L)} {σ : St L}
theorem does_of (hop : ∀ β, OpOk P I φ β nt cs ([] : List (Nat × LoopC (St L))) tb) {stc st' : St L} (hd : ∀ d, o.dst = some d → d < nt) (hself : selfOk gd o.dst = true) (h : opS cs tb stc gd o = some st') : ∀ β, Does P I φ β nt o stc gd st' := by
  intro β
  obtain ⟨x, h1, h2⟩ := hop β o stc gd some st' hd hself h
  cases h1
  exact h2
theorem chain_sub {gnv : List (Nat × (Nat × Bool) × AV L)} : ∀ (n : Nat) {l : List Nat} {s : Nat}, s ∈ l → s ∈ chain gnv n l
  | 0, _, _, h => h
  | n + 1, l, s, h => by simp only [chain, List.mem_append]; exact .inl h
theorem fp_slots (all : List Oper) (σ : St L) (o : Oper) {s : Nat} (h : s ∈ slotsOf o.op.operands.toList) : s ∈ (fpOf tb all σ o).sl := chain_sub 8 (List.mem_append_left _ h)
def valS (rs : List (Rec L)) (st : St L) (S : Rec L → Bool) (k : Nat) : Option (Root L) :=
  match lastW (fun R => S R && wks k R) rs with | some R => get R.st.sto k | none => get st.sto k
theorem valS_congr {S S' : Rec L → Bool} {k : Nat} (h : ∀ R ∈ rs, (S R && wks k R) = (S' R && wks k R)) : valS rs st S k = valS rs st S' k := by
  unfold valS; rw [lastW_congr h]
theorem DRun.soft_roots (h : DRun cs tb all ah rs st) (hsw : SoftWr cs tb) (he : rs = a ++ R :: b) (hG : Good cs tb all ah a (foldM a st) R o ahd gd) (hd : Down ah S) (hS0 : S R.i = false) (hah : ∀ j ∈ ahd, S j = true)
    (hS : Sp rs st (fun R => S R.i) σ) (hmv : R.mv = false) {k : Nat} (hk : k ∈ R.f.ks) {r : Root L} (hr : get (foldM a st).sto k = some r) : ∃ r', get σ.sto k = some r' ∧ SoftR r r' := by
  have claim : ∀ (n : Nat) (b1 b2 : List (Rec L)), b1.length = n → b = b1 ++ b2 → ∃ r', valS rs st (fun R' => S R'.i && memN R'.i ((a ++ R :: b1).map (·.i))) k = some r' ∧ SoftR r r' := by
    intro n
    induction n with
    | zero =>
      intro b1 b2 hn hb
      have : b1 = [] := List.eq_nil_of_length_eq_zero hn
      subst this
      refine ⟨r, ?_, .refl r⟩
      rw [valS_congr (S' := fun R' => S R'.i && memN R'.i (a.map (·.i)))]
      · unfold valS
        rw [h.lw_roots he hG hah hk]
        have := (h.canon a (R :: b) he).sto k
        rw [hr] at this
        exact this.symm
      · intro R' hR'
        by_cases hi : R'.i = R.i
        · rw [hi, hS0]; rfl
        · have : memN R'.i ((a ++ [R]).map (·.i)) = memN R'.i (a.map (·.i)) := by
            rw [Bool.eq_iff_iff]
            simp only [memN_iff, List.map_append, List.map_cons, List.map_nil, List.mem_append, List.mem_singleton, hi, or_false]
          simp only [this]
    | succ n ih =>
      intro b1 b2 hn hb
      rcases List.eq_nil_or_concat b1 with rfl | ⟨b1', R', hcc⟩
      · simp at hn
      · rw [List.concat_eq_append] at hcc
        subst hcc
        obtain ⟨r1, h1, h2⟩ := ih b1' (R' :: b2) (by simpa using hn) (by rw [hb]; simp)
        have he' : rs = (a ++ R :: b1') ++ R' :: b2 := by rw [he, hb]; simp
        obtain ⟨hA1, hA2, hA3⟩ := h.inA he'
        have hmem : ∀ R0 : Rec L, R0.i ≠ R'.i → memN R0.i ((a ++ R :: (b1' ++ [R'])).map (·.i)) = memN R0.i ((a ++ R :: b1').map (·.i)) := by
          intro R0 hi
          rw [Bool.eq_iff_iff]
          simp only [memN_iff, List.map_append, List.map_cons, List.map_nil, List.mem_append, List.mem_cons, List.mem_singleton, hi]
          simp
        have hmem' : memN R'.i ((a ++ R :: (b1' ++ [R'])).map (·.i)) = true := memN_iff.2 (List.mem_map.2 ⟨R', by simp, rfl⟩)
        by_cases hw : S R'.i = true ∧ wks k R' = true
        · obtain ⟨hS', hw⟩ := hw
          have hkw := memN_iff.1 hw
          obtain ⟨o', ahd', gd', hG'⟩ := h.good _ R' b2 he'
          have h3 : get (foldM (a ++ R :: b1') st).sto k = some r1 := by
            rw [(h.canon _ (R' :: b2) he').sto, ← h.lw_roots he' hG' (hd _ hS' ahd' hG'.ahead) (wks_ks hkw)]
            exact h1
          have hbR : R' ∈ b := by rw [hb]; simp
          rcases h.later he hd hS0 hbR hS' with h4 | ⟨h4, h5, h40 | ⟨a', o2, ahd2, gd2, hG2, h6⟩⟩
          · exact absurd hk ((apart_spec h4).2.2 k hkw)
          · rw [hmv] at h40; cases h40
          · have ho : o2 = o' := by have := hG2.op; rw [hG'.op] at this; cases this; rfl
            subst ho
            have hdst : o2.dst ≠ some k := fun e => (apartS_spec h5).2 k (by rw [hG'.dst]; exact e) hk
            obtain ⟨r2, h7, h8⟩ := hsw o2 gd' _ _ h6 hG'.run k r1 hdst (by simp only [cutF, get_keepSto, if_pos (wks_ks hkw)]; exact h3)
            refine ⟨r2, ?_, h2.trans h8⟩
            unfold valS
            rw [lastW_at he' (by simp only [hS', hmem', hw, Bool.and_self]) fun R0 hR0 => ?_]
            · exact h7
            · show ((S R0.i && memN R0.i ((a ++ R :: (b1' ++ [R'])).map (·.i))) && wks k R0) = false
              rw [hmem R0 ((h.notin he').2 R0 hR0), hA3 R0 hR0]; simp
        · refine ⟨r1, ?_, h2⟩
          rw [← h1]
          refine valS_congr fun R0 hR0 => ?_
          by_cases hi : R0.i = R'.i
          · have := h.inj hR0 (by rw [he']; simp) hi
            subst this
            rw [hA2, hmem']
            cases hS' : S R0.i with
            | false => rfl
            | true =>
              cases hw' : wks k R0 with
              | false => rfl
              | true => exact absurd ⟨hS', hw'⟩ hw
          · rw [hmem R0 hi]
  obtain ⟨r', h1, h2⟩ := claim b.length b [] rfl (by simp)
  refine ⟨r', ?_, h2⟩
  rw [hS.sto, ← h1]
  change valS rs st (fun R => S R.i) k = _
  refine valS_congr fun R0 hR0 => ?_
  have : memN R0.i ((a ++ R :: b).map (·.i)) = true := memN_iff.2 (List.mem_map.2 ⟨R0, by rw [← he]; exact hR0, rfl⟩)
  simp only [this, Bool.and_true]
end Go.Y
namespace Go.Y
open Go.Eng (T RepT RepM SRep Kept Base G SameOn VRep Split Live Free kn Owns ownB RootOk ERep HPred)
variable {P : Program} {I : Ids} {φ : FnP} {β : Base} {nt : Nat} {cs : List (Nat × Con)} {tb : Tabs}
variable {ah : List (List Nat)} {rs : List (Rec L)} {st : St L} {ops : Array Oper}
variable {a b : List (Rec L)} {R : Rec L} {S : Nat → Bool} {o : Oper} {ahd : List Nat} {gd : Option (Gd L)} {σ : St L}
theorem relG_less {f : Fp} {g : G} {ac : Act} {w : World} (hR : RelG P I φ β nt σ g ac w) : RelG P I φ β nt ⟨keepEnv f.sl σ.env, keepGnv f.sl σ.gnv, σ.sto⟩ g ac w := by
  refine ⟨hR.defers, hR.size, hR.i.env _ _, fun s x hx => ?_, fun s k b x hx => ?_⟩
  · simp only [get_keepEnv] at hx
    split at hx
    · obtain ⟨u, hu, h⟩ := hR.e s x hx
      exact ⟨u, hu, h.env _ _⟩
    · cases hx
  · rw [mem_keepGnv] at hx
    obtain ⟨u, hu, h, hn⟩ := hR.n s k b x hx.2
    exact ⟨u, hu, fun hk => (h hk).env _ _, hn⟩
theorem wp_of_does {pins : List (Nat × Value)} {Q : Exit → Act → World → Prop} {K : Act → World → Prop} {i : Nat} {stc st' : St L} {g : G} {ac : Act} {w : World}
    (ho : ops[i]? = some o) (hdst : dstOk nt (pins.map (·.1)) o = true) (hR : RelG P I φ β nt stc g ac w) (hp : Pin pins ac) (hg : @guardV L (semL cs) ops.toList stc o.guard = some gd)
    (hD : Does P I φ β nt o stc gd st')
    (hK : ∀ g' ac' w', Pass P I φ stc g w st' g' w' → RelG P I φ β nt st' g' ac' w' → (∀ s, o.dst ≠ some s → ac'.tmps[s]? = ac.tmps[s]?) → Pin pins ac' → K ac' w') : wpOp P ops Q i K ac w := by
  obtain ⟨h2, h3, h4⟩ := wanted_ok hR hg
  unfold wpOp
  rw [ho]
  simp only
  split
  · rename_i hw
    exact .inl (hD.run ac w g hR h2 (h3 hw) _ _ fun ac' w' g' hpass hR' ht => hK g' ac' w' hpass hR' ht (dstOk_pin hdst ht hp))
  · rename_i hw
    obtain ⟨gd', hgd, hoff⟩ := h4 (by simpa using hw)
    obtain ⟨g', hpass, hR'⟩ := hD.skip ac w g gd' hgd hR h2 hoff
    exact hK g' _ w hpass hR' (fun s hs => put_ne ac undef hs) (dstOk_pin hdst (fun s hs => put_ne ac undef hs) hp)
theorem DRun.run_op (hop : ∀ β, OpOk P I φ β nt cs ([] : List (Nat × LoopC (St L))) tb) (hsr : SoftOk P I φ nt cs tb) (hsw : SoftWr cs tb) (hst : StaysOk cs tb)
    {pins : List (Nat × Value)} (hdst : ∀ o ∈ ops.toList, dstOk nt (pins.map (·.1)) o = true) (h : DRun cs tb ops.toList ah rs st) (he : rs = a ++ R :: b) (hG : Good cs tb ops.toList ah a (foldM a st) R o ahd gd)
    (hd : Down ah S) (hS0 : S R.i = false) (hah : ∀ j ∈ ahd, S j = true) (hS : Sp rs st (fun R => S R.i) σ) {g : G} {ac : Act} {w : World} (hR : RelG P I φ β nt σ g ac w) (hp : Pin pins ac)
    {Q : Exit → Act → World → Prop} {K : Act → World → Prop}
    (hK : ∀ σ' g' ac' w', Sp rs st (fun R' => ins S R.i R'.i) σ' → RelG P I φ β nt σ' g' ac' w' → Pin pins ac' → K ac' w') : wpOp P ops Q R.i K ac w := by
  have hl : ∀ R' ∈ b, S R'.i = true → SlotsApart R.f R'.f := fun R' hR' hS' => later_slots (h.later he hd hS0 hR' hS')
  have hkey := h.keys_ok he hS hS0 hl
  have hmg := mergeF_mg hG.sin hkey
  have hstep := h.step he hS hmg (fun R' hR' hS' s hs => (hl R' hR' hS').b s hs) (fun R' hR' hS' k hk hk' => by
    rcases h.later he hd hS0 hR' hS' with h4 | h4
    · exact (apart_spec h4).2.1 k hk (wks_ks hk')
    · rw [hG.soft_wks h4.1] at hk; simp at hk)
  have hop' : ops[R.i]? = some o := by
    have := hG.op
    rw [getL_eq] at this
    rw [← Array.getElem?_toList]
    exact this
  have hdo := hdst o hG.mem
  have hdd := hG.dst
  have hrin : RootsIn R.f (foldM a st) := by rw [hG.fp]; exact fp_roots _ _ _
  have hcl := closed_iff hG.closed
  cases hsoft : R.soft with
  | false =>
    have hAg := h.ag he hG hd hS0 hah hS hsoft
    have hclσ : Closed R.f.ks σ := fun k r c l hk hr hc hcl' => hcl k r c l hk (by rw [← hAg.sto k hk]; exact hr) hc hcl'
    have hrinσ : RootsIn R.f σ := by
      intro s hs x hx k hk
      refine hrin s hs x ?_ k hk
      rcases hx with hx | ⟨kk, hx⟩
      · exact .inl (by rw [← hAg.env s hs]; exact hx)
      · exact .inr ⟨kk, (hAg.gnv s hs (kk, x)).1 hx⟩
    have hcut := cutF_ag hAg
    have hRc := relG_view hcut (relG_part hR hclσ hrinσ)
    refine wp_of_does hop' hdo hRc hp hG.guard (does_of hop (dstOk_lt hdo) hG.self hG.run _) fun g' ac' w' hpass hR' ht hp' => ?_
    obtain ⟨g'', _, h9⟩ := relG_merge hR hclσ (st' := R.st) (g' := g') (a' := ac') (w' := w')
      ⟨fun x u hx => hpass.a x u (arep_view (fun k => hcut.sto k trivial) (hx.env _ _)), hpass.F, hpass.same, hpass.size⟩ hR' hG.sin hkey (fun s hs => ht s (by rw [← hdd]; exact hs)) hmg (fun hw k hk => by
        have h10 : readOnly tb o.op = true ∨ stays (foldM a st) o.op = true := by
          rw [hG.fp] at hw
          simp only [fpOf, Bool.not_eq_false', Bool.or_eq_true] at hw
          exact hw
        have h11 : get R.st.sto k = get (cutF R.f (foldM a st)).sto k := by
          rcases h10 with h10 | h10
          · rw [opS_readOnly h10 hG.run]
          · exact hst o gd _ _ (stays_cut h10 (fun s hs => by rw [hG.fp]; exact fp_slots _ _ _ hs) hrin) hG.run k
        rw [h11, hAg.sto k hk]
        simp only [cutF, get_keepSto, if_pos hk])
    exact hK _ g'' ac' w' hstep h9 hp'
  | true =>
    have hwk := hG.soft_wks hsoft
    have hslot : ∀ s ∈ R.f.sl, get σ.env s = get (foldM a st).env s ∧ ∀ e, (s, e) ∈ σ.gnv ↔ (s, e) ∈ (foldM a st).gnv := by
      intro s hs
      have hc := h.canon a (R :: b) he
      exact ⟨by rw [hS.env, hc.env, h.lw_slots he hG hd hS0 hah hs], fun e => by rw [hS.gnv, hc.gnv, h.lw_slots he hG hd hS0 hah hs]⟩
    have hRl : RelG P I φ β nt ⟨(cutF R.f (foldM a st)).env, (cutF R.f (foldM a st)).gnv, σ.sto⟩ g ac w := by
      have hRl0 := relG_less (f := R.f) hR
      have hag : Ag all1 all1 (⟨keepEnv R.f.sl σ.env, keepGnv R.f.sl σ.gnv, σ.sto⟩ : St L) ⟨(cutF R.f (foldM a st)).env, (cutF R.f (foldM a st)).gnv, σ.sto⟩ := by
        refine ⟨fun s _ => ?_, fun s _ e => ?_, fun k _ => rfl⟩
        · simp only [cutF, get_keepEnv]
          split
          · exact (hslot s ‹_›).1
          · rfl
        · simp only [cutF, mem_keepGnv]
          constructor
          · rintro ⟨h1, h2⟩; exact ⟨h1, ((hslot s h1).2 e).1 h2⟩
          · rintro ⟨h1, h2⟩; exact ⟨h1, ((hslot s h1).2 e).2 h2⟩
      exact relG_view hag hRl0
    have hsoR : softN o.op = true ∨ SoftS (cutF R.f (foldM a st)).sto σ.sto := by
      cases hmv : R.mv with
      | true => exact .inl (by rw [← hG.mv]; exact hmv)
      | false =>
        refine .inr fun k r hr => ?_
        simp only [cutF, get_keepSto] at hr
        split at hr
        · exact h.soft_roots hsw he hG hd hS0 hah hS hmv ‹_› hr
        · cases hr
    obtain ⟨st2, h5, h6, h7⟩ := hsr o gd _ R.st σ.sto (dstOk_lt hdo) hG.self (by rw [← hG.soft]; exact hsoft) hG.run hsoR
    have hguard : @guardV L (semL cs) ops.toList ⟨(cutF R.f (foldM a st)).env, (cutF R.f (foldM a st)).gnv, σ.sto⟩ o.guard = some gd := by
      have : ∀ (n d : Nat) (wt : Bool), @guardG L (semL cs) ⟨(cutF R.f (foldM a st)).env, (cutF R.f (foldM a st)).gnv, σ.sto⟩ n d wt = @guardG L (semL cs) (cutF R.f (foldM a st)) n d wt := by
        intro n
        induction n with
        | zero => intro d wt; rfl
        | succ n ih => intro d wt; simp only [guardG, ih]
      rw [← hG.guard]
      unfold guardV
      simp only [this]
    refine wp_of_does hop' hdo hRl hp hguard (h7 β) fun g' ac' w' hpass hR' ht hp' => ?_
    have hv : ∀ k, get st2.sto k = get (mergeF R.f σ R.st).sto k := fun k => by rw [hmg.sto, hwk, h5]; simp
    refine hK _ g' ac' w' hstep ⟨hR'.defers, hR'.size, inv_view hv hR'.i, fun s x hx => ?_, fun s k kb x hx => ?_⟩ hp'
    · rw [hmg.env] at hx
      split at hx
      · rename_i hds
        rw [hdd] at hds
        obtain ⟨u, hu, h8⟩ := hR'.e s x (by rw [(h6 s hds).1]; exact hx)
        exact ⟨u, hu, arep_view hv h8⟩
      · rename_i hds
        obtain ⟨u, hu, h8⟩ := hR.e s x hx
        exact ⟨u, by rw [ht s (by rw [← hdd]; exact hds)]; exact hu, arep_view hv (hpass.a x u (h8.env _ _))⟩
    · rw [hmg.gnv] at hx
      split at hx
      · rename_i hds
        rw [hdd] at hds
        obtain ⟨u, hu, h8, h9⟩ := hR'.n s k kb x (mem_of_get (by rw [(h6 s hds).2]; exact hx.2))
        exact ⟨u, hu, fun hk => arep_view hv (h8 hk), h9⟩
      · rename_i hds
        obtain ⟨u, hu, h8, h9⟩ := hR.n s k kb x hx
        have hk : o.dst ≠ some k := fun e => hkey k (by rw [hdd]; exact e) _ hx rfl
        exact ⟨u, by rw [ht s (by rw [← hdd]; exact hds)]; exact hu, fun hb => arep_view hv (hpass.a x u ((h8 (by rw [← ht k hk]; exact hb)).env _ _)), fun hb => h9 (by rw [← ht k hk]; exact hb)⟩
end Go.Y
namespace Go.Y
open Go.Eng (T RepT RepM SRep Kept Base G SameOn VRep Split Live Free kn Owns ownB RootOk ERep HPred)
variable {P : Program} {I : Ids} {φ : FnP} {β : Base} {nt : Nat} {cs : List (Nat × Con)} {tb : Tabs}
theorem allIn_iff {m : List Nat} : ∀ {l : List Nat}, allIn l m = true ↔ ∀ k ∈ l, k ∈ m
  | [] => by simp [allIn]
  | k :: l => by simp [allIn, allIn_iff (l := l), memN_iff]
theorem mem_addN {j k : Nat} {l : List Nat} : j ∈ addN k l ↔ j ∈ l ∨ j = k := by
  unfold addN
  split
  · rename_i h
    constructor
    · exact .inl
    · rintro (h1 | rfl)
      · exact h1
      · exact memN_iff.1 h
  · simp
theorem mem_unionN {j : Nat} : ∀ {l m : List Nat}, j ∈ unionN l m ↔ j ∈ l ∨ j ∈ m
  | [], m => by simp [unionN]
  | k :: l, m => by
    simp only [unionN, mem_unionN (l := l), mem_addN, List.mem_cons]
    constructor
    · rintro (h | h | h)
      · exact .inl (.inr h)
      · exact .inr h
      · exact .inl (.inl h)
    · rintro ((h | h) | h)
      · exact .inr (.inr h)
      · exact .inl h
      · exact .inr (.inl h)
theorem mem_aheadS {acc : List (List Nat)} {j : Nat} : ∀ {l : List Nat}, j ∈ aheadS acc l ↔ ∃ d ∈ l, j = d ∨ ∃ m, getL acc d = some m ∧ j ∈ m
  | [] => by simp [aheadS]
  | d :: l => by
    simp only [aheadS, mem_addN, mem_unionN, mem_aheadS (l := l), List.mem_cons]
    constructor
    · rintro ((h | ⟨d', h1, h2⟩) | rfl)
      · cases hg : getL acc d with
        | none => rw [hg] at h; simp at h
        | some m => rw [hg] at h; exact ⟨d, .inl rfl, .inr ⟨m, hg, h⟩⟩
      · exact ⟨d', .inr h1, h2⟩
      · exact ⟨j, .inl rfl, .inl rfl⟩
    · rintro ⟨d', rfl | h1, h2⟩
      · rcases h2 with rfl | ⟨m, h3, h4⟩
        · exact .inr rfl
        · exact .inl (.inl (by rw [h3]; exact h4))
      · exact .inl (.inr ⟨d', h1, h2⟩)
def directs (o : Oper) : List Nat := (o.after.toList.filter fun e => Region.binds .any e).map (·.on)
theorem aheadOf_spec : ∀ (ops : List Oper) (acc : List (List Nat)), (∀ i, i < acc.length → (aheadOf acc ops)[i]? = acc[i]?) ∧
    ∀ (i : Nat) o, ops[i]? = some o → ∃ ahd, (aheadOf acc ops)[acc.length + i]? = some ahd ∧ (∀ d ∈ directs o, d ∈ ahd) ∧ ∀ j ∈ ahd, ∃ d ∈ directs o, j = d ∨ ∃ m, (aheadOf acc ops)[d]? = some m ∧ j ∈ m
  | [], acc => ⟨fun i _ => rfl, fun i o h => by simp at h⟩
  | o0 :: ops, acc => by
    have hd : (List.filter (fun e => Region.binds Region.Mode.any e) o0.after.toList).map (·.on) = directs o0 := rfl
    obtain ⟨h1, h2⟩ := aheadOf_spec ops (acc ++ [aheadS acc (directs o0)])
    have hpre : ∀ i, i < acc.length → (aheadOf acc (o0 :: ops))[i]? = acc[i]? := by
      intro i hi
      simp only [aheadOf]
      rw [hd, h1 i (by simp; omega), List.getElem?_append_left hi]
    refine ⟨hpre, fun i o ho => ?_⟩
    cases i with
    | zero =>
      simp only [List.getElem?_cons_zero, Option.some.injEq] at ho
      subst ho
      refine ⟨aheadS acc (directs o0), ?_, fun d hd' => mem_aheadS.2 ⟨d, hd', .inl rfl⟩, fun j hj => ?_⟩
      · simp only [aheadOf]
        rw [hd, h1 _ (by simp)]
        simp
      · obtain ⟨d, h3, h4⟩ := mem_aheadS.1 hj
        refine ⟨d, h3, h4.imp id fun ⟨m, h5, h6⟩ => ⟨m, ?_, h6⟩⟩
        rw [getL_eq] at h5
        rw [hpre d (List.getElem?_eq_some_iff.1 h5).1]
        exact h5
    | succ i =>
      obtain ⟨ahd, h3, h4, h5⟩ := h2 i o (by simpa using ho)
      refine ⟨ahd, ?_, h4, h5⟩
      simp only [aheadOf]
      rw [hd, ← h3]
      congr 1
      simp
      omega
theorem orderOk_spec {ah : List (List Nat)} {n : Nat} : ∀ (l done : List Nat), orderOk ah n l done = true → l.Nodup ∧ (∀ x ∈ l, x ∉ done) ∧
    (∀ a i b, l = a ++ i :: b → ∀ ahd, getL ah i = some ahd → ∀ j ∈ ahd, j ∈ a ∨ j ∈ done) ∧ ∀ i, i < n → i ∈ l ∨ i ∈ done
  | [], done, h => ⟨List.nodup_nil, fun x hx => by simp at hx, fun a i b e => by simp at e, fun i hi => .inr (allIn_iff.1 h i (List.mem_range.2 hi))⟩
  | i :: l, done, h => by
    simp only [orderOk, Bool.and_eq_true, Bool.not_eq_true'] at h
    obtain ⟨h1, h2, h3⟩ := h
    have hi : i ∉ done := fun hm => by rw [memN_iff.2 hm] at h1; cases h1
    obtain ⟨h4, h5, h6, h7⟩ := orderOk_spec l (i :: done) h3
    refine ⟨List.nodup_cons.2 ⟨fun hm => h5 i hm (by simp), h4⟩, fun x hx => ?_, fun a i' b e ahd ha j hj => ?_, fun k hk => ?_⟩
    · rcases List.mem_cons.1 hx with rfl | hx
      · exact hi
      · exact fun hm => h5 x hx (by simp [hm])
    · cases a with
      | nil =>
        simp only [List.nil_append, List.cons.injEq] at e
        obtain ⟨rfl, rfl⟩ := e
        rw [ha] at h2
        exact .inr (allIn_iff.1 h2 j hj)
      | cons x a =>
        simp only [List.cons_append, List.cons.injEq] at e
        obtain ⟨rfl, e⟩ := e
        rcases h6 a i' b e ahd ha j hj with h8 | h8
        · exact .inl (by simp [h8])
        · rcases List.mem_cons.1 h8 with rfl | h8
          · exact .inl (by simp)
          · exact .inr h8
    · rcases h7 k hk with h8 | h8
      · exact .inl (by simp [h8])
      · rcases List.mem_cons.1 h8 with rfl | h8
        · exact .inl (by simp)
        · exact .inr h8
theorem first_not {p : Rec L → Bool} : ∀ {rs : List (Rec L)}, (∀ R ∈ rs, p R = true) ∨ ∃ a R b, rs = a ++ R :: b ∧ (∀ R' ∈ a, p R' = true) ∧ p R = false
  | [] => .inl fun R h => by simp at h
  | R :: rs => by
    cases hp : p R with
    | false => exact .inr ⟨[], R, rs, rfl, fun R' h => by simp at h, hp⟩
    | true =>
      rcases first_not (p := p) (rs := rs) with h | ⟨a, R', b, h1, h2, h3⟩
      · left
        intro R' h'
        rcases List.mem_cons.1 h' with rfl | h'
        · exact hp
        · exact h R' h'
      · refine .inr ⟨R :: a, R', b, by rw [h1]; rfl, ?_, h3⟩
        intro R2 h'
        rcases List.mem_cons.1 h' with rfl | h'
        · exact hp
        · exact h2 R2 h'
def lst (listed : Array Bool) (i : Nat) : Bool := listed.getD i false
theorem lst_set {listed : Array Bool} {i : Nat} (hi : i < listed.size) (j : Nat) : lst (listed.setIfInBounds i true) j = ins (lst listed) i j := by
  unfold lst ins
  simp only [Array.getD_eq_getD_getElem?, Array.getElem?_setIfInBounds]
  by_cases h : i = j
  · subst h; simp [hi]
  · have : Nat.beq j i = false := by
      cases hb : Nat.beq j i with
      | false => rfl
      | true => exact absurd (Nat.eq_of_beq_eq_true hb).symm h
    simp [h, this]
theorem mem_ready {ops : Array Oper} {listed : Array Bool} {i : Nat} (hs : listed.size = ops.size) : i ∈ Region.ready .any ops listed ↔ i < ops.size ∧ lst listed i = false ∧ ∃ o, ops[i]? = some o ∧ ∀ d ∈ directs o, lst listed d = true := by
  unfold Region.ready
  rw [List.mem_filter, List.mem_range]
  constructor
  · rintro ⟨h1, h2⟩
    rw [Bool.and_eq_true] at h2
    have ho : ops[i]? = some ops[i] := Array.getElem?_eq_getElem h1
    refine ⟨h1, ?_, _, ho, fun d hd => ?_⟩
    · have h3 := h2.1
      unfold lst
      simp only [Array.getD_eq_getD_getElem?, Array.getElem?_eq_getElem (show i < listed.size by omega), Option.getD_some, Bool.not_eq_true'] at h3 ⊢
      exact h3
    · have h3 := h2.2
      rw [ho] at h3
      simp only [Option.map_some, Option.getD_some, Array.all_eq_true'] at h3
      obtain ⟨e, he, rfl⟩ := List.mem_map.1 hd
      rw [List.mem_filter] at he
      have := h3 e (by simpa using he.1)
      rw [he.2] at this
      simpa [lst] using this
  · rintro ⟨h1, h2, o, ho, h3⟩
    refine ⟨h1, ?_⟩
    rw [Bool.and_eq_true]
    refine ⟨?_, ?_⟩
    · unfold lst at h2
      simp only [Array.getD_eq_getD_getElem?, Array.getElem?_eq_getElem (show i < listed.size by omega), Option.getD_some, Bool.not_eq_true'] at h2 ⊢
      exact h2
    · rw [ho]
      simp only [Option.map_some, Option.getD_some, Array.all_eq_true']
      intro e he
      cases hb : Region.binds .any e with
      | false => rfl
      | true => exact h3 e.on (List.mem_map.2 ⟨e, List.mem_filter.2 ⟨by simpa using he, hb⟩, rfl⟩)
end Go.Y
namespace Go.Y
open Go.Eng (T RepT RepM SRep Kept Base G SameOn VRep Split Live Free kn Owns ownB RootOk ERep HPred)
variable {P : Program} {I : Ids} {φ : FnP} {β : Base} {nt : Nat} {cs : List (Nat × Con)} {tb : Tabs}
variable {ρ : Type} {ls : List (Nat × LoopC ρ)} {r : ρ} {rs : List (Rec L)} {st : St L} {ops : Array Oper} {pins : List (Nat × Value)}
def todo (listed : Array Bool) : Nat := listed.toList.count false
theorem todo_set {listed : Array Bool} {i : Nat} (hi : i < listed.size) (h : lst listed i = false) : todo (listed.setIfInBounds i true) + 1 = todo listed := by
  have hi' : i < listed.toList.length := by simpa using hi
  have hv : listed.toList[i] = false := by
    unfold lst at h
    simp only [Array.getD_eq_getD_getElem?, Array.getElem?_eq_getElem hi, Option.getD_some] at h
    simpa using h
  unfold todo
  rw [Array.toList_setIfInBounds, List.count_set hi']
  have hpos : 0 < listed.toList.count false := List.count_pos_iff.2 (hv ▸ List.getElem_mem hi')
  rw [hv, if_pos (show (false == false) = true from rfl), if_neg (show ¬ (true == false) = true by decide)]
  omega
theorem any_ok (hop : ∀ β, OpOk P I φ β nt cs ([] : List (Nat × LoopC (St L))) tb) (hsr : SoftOk P I φ nt cs tb) (hsw : SoftWr cs tb) (hst : StaysOk cs tb)
    (hdst : ∀ o ∈ ops.toList, dstOk nt (pins.map (·.1)) o = true) (h : DRun cs tb ops.toList (aheadOf [] ops.toList) rs st) (hord : orderOk (aheadOf [] ops.toList) ops.toList.length (rs.map (·.i)) [] = true)
    {Q : Exit → Act → World → Prop} (hQ : ∀ g ac w, RelG P I φ β nt (foldM rs st) g ac w → Pin pins ac → Q .normal ac w) :
    ∀ (fuel : Nat) (listed : Array Bool) (σ : St L), listed.size = ops.size → todo listed ≤ fuel → Down (aheadOf [] ops.toList) (lst listed) → Sp rs st (fun R => lst listed R.i) σ →
    ∀ g ac w, RelG P I φ β nt σ g ac w → Pin pins ac → wpAny P .any ops Q fuel listed ac w := by
  obtain ⟨_, _, ho3, ho4⟩ := orderOk_spec _ _ hord
  have hsp := (aheadOf_spec ops.toList []).2
  have hlt : ∀ R ∈ rs, R.i < ops.size := by
    intro R hR
    obtain ⟨a, b, he⟩ := List.append_of_mem hR
    obtain ⟨o, ahd, gd, hG⟩ := h.good a R b he
    have := hG.op
    rw [getL_eq, List.getElem?_eq_some_iff] at this
    simpa using this.1
  have hall : ∀ (listed : Array Bool) (σ : St L), (∀ R ∈ rs, lst listed R.i = true) → Sp rs st (fun R => lst listed R.i) σ → ∀ g ac w, RelG P I φ β nt σ g ac w → Pin pins ac → Q .normal ac w := by
    intro listed σ hl hS g ac w hR hp
    have hc := h.canon rs [] (by simp)
    have hS' : Sp rs st (fun R => memN R.i (rs.map (·.i))) σ := hS.congr fun R hR => by
      rw [hl R hR, memN_iff.2 (List.mem_map.2 ⟨R, hR, rfl⟩)]
    exact hQ g ac w (relG_view (hS'.ag hc) hR) hp
  have hnone : ∀ (listed : Array Bool), listed.size = ops.size → Region.ready .any ops listed = [] → ∀ R ∈ rs, lst listed R.i = true := by
    intro listed hs hr
    rcases first_not (p := fun R => lst listed R.i) (rs := rs) with h1 | ⟨a, R, b, he, h1, h2⟩
    · exact h1
    · exfalso
      obtain ⟨o, ahd, gd, hG⟩ := h.good a R b he
      have hRi := hlt R (by rw [he]; simp)
      have hop' : ops.toList[R.i]? = some o := by have := hG.op; rwa [getL_eq] at this
      have hm : R.i ∈ Region.ready .any ops listed := by
        refine (mem_ready hs).2 ⟨hRi, h2, o, by rw [← Array.getElem?_toList]; exact hop', fun d hd => ?_⟩
        obtain ⟨ahd', h3, h4, _⟩ := hsp R.i o hop'
        simp only [List.length_nil, Nat.zero_add] at h3
        have hda := h4 d hd
        rcases ho3 (a.map (·.i)) R.i (b.map (·.i)) (by rw [he]; simp) ahd' (by rw [getL_eq]; exact h3) d hda with h5 | h5
        · obtain ⟨R0, h6, rfl⟩ := List.mem_map.1 h5
          exact h1 R0 h6
        · simp at h5
      rw [hr] at hm
      simp at hm
  intro fuel
  induction fuel with
  | zero =>
    intro listed σ hs ht hd hS g ac w hR hp
    have hl : ∀ i, i < ops.size → lst listed i = true := by
      intro i hi
      cases hb : lst listed i with
      | true => rfl
      | false =>
        have := todo_set (by omega) hb
        omega
    refine ⟨?_, hall listed σ (fun R hR' => hl R.i (hlt R hR')) hS g ac w hR hp⟩
    cases hr : Region.ready .any ops listed with
    | nil => rfl
    | cons i l =>
      have hm : i ∈ Region.ready .any ops listed := by rw [hr]; simp
      obtain ⟨h1, h2, _⟩ := (mem_ready hs).1 hm
      rw [hl i h1] at h2
      cases h2
  | succ fuel ih =>
    intro listed σ hs ht hd hS g ac w hR hp
    refine ⟨fun hr => hall listed σ (hnone listed hs hr) hS g ac w hR hp, fun i hi => ?_⟩
    obtain ⟨h1, h2, o, ho, h3⟩ := (mem_ready hs).1 hi
    have hmem : i ∈ rs.map (·.i) := by
      rcases ho4 i (by simpa using h1) with h4 | h4
      · exact h4
      · simp at h4
    obtain ⟨R, hRm, rfl⟩ := List.mem_map.1 hmem
    obtain ⟨a, b, he⟩ := List.append_of_mem hRm
    obtain ⟨o', ahd, gd, hG⟩ := h.good a R b he
    have hah : ∀ j ∈ ahd, lst listed j = true := by
      intro j hj
      have hop' : ops.toList[R.i]? = some o := by rw [Array.getElem?_toList]; exact ho
      obtain ⟨ahd', h4, _, h5⟩ := hsp R.i o hop'
      simp only [List.length_nil, Nat.zero_add] at h4
      have : ahd' = ahd := by
        have := hG.ahead
        rw [getL_eq, h4] at this
        cases this; rfl
      subst this
      obtain ⟨d, hdd, rfl | ⟨m, h6, h7⟩⟩ := h5 j hj
      · exact h3 _ hdd
      · exact hd d (h3 d hdd) m (by rw [getL_eq]; exact h6) j h7
    have hsz : R.i < listed.size := by omega
    refine h.run_op hop hsr hsw hst hdst he hG hd h2 hah hS hR hp fun σ' g' ac' w' hS' hR' hp' => ?_
    have hls := lst_set hsz
    refine ih _ σ' (by simp [hs]) (by have := todo_set hsz h2; omega) ?_ (hS'.congr fun R0 _ => (hls R0.i).symm) g' ac' w' hR' hp'
    intro i hi ahd2 ha2 j hj
    rw [hls] at hi ⊢
    unfold ins at hi ⊢
    rw [Bool.or_eq_true] at hi ⊢
    rcases hi with hi | hi
    · exact .inl (hd i hi ahd2 ha2 j hj)
    · have := Nat.eq_of_beq_eq_true hi
      subst this
      have h8 := hG.ahead
      rw [ha2] at h8
      cases h8
      exact .inl (hah j hj)
def FreezeOk (P : Program) (I : Ids) (φ : FnP) (β : Base) (nt : Nat) : Prop :=
  ∀ (l : Loc L) (st : St L) g ac w, RelG P I φ β nt st g ac w → ∃ g', RelG P I φ β nt (freezeA st (.ar l)) g' ac w
theorem preFreeze_ok (hfr : FreezeOk P I φ β nt) (all : List Oper) : ∀ (l : List Oper) (st : St L) g ac w, RelG P I φ β nt st g ac w → ∃ g', RelG P I φ β nt (preFreeze all st l) g' ac w
  | [], st, g, ac, w, h => ⟨g, h⟩
  | o :: l, st, g, ac, w, h => by
    unfold preFreeze
    split
    · split
      · obtain ⟨g', h'⟩ := hfr _ st g ac w h
        exact preFreeze_ok hfr all l _ g' ac w h'
      · exact preFreeze_ok hfr all l _ g ac w h
    · exact preFreeze_ok hfr all l _ g ac w h
theorem RelG.drawn {σ : St L} {g : G} {ac : Act} {w : World} (h : RelG P I φ β nt σ g ac w) (n : Nat) (hw : ∀ {σ : St L} {g : G} {w : World}, Inv P I φ β σ g w → Inv P I φ β σ g { w with drawn := n })
    (ha : ∀ {σ : St L} {g : G} {w : World} {x : AV L} {u : Value}, ARep P I φ σ g w x u → ARep P I φ σ g { w with drawn := n } x u) : RelG P I φ β nt σ g ac { w with drawn := n } :=
  ⟨h.defers, h.size, hw h.i, fun s x hx => by obtain ⟨u, h1, h2⟩ := h.e s x hx; exact ⟨u, h1, ha h2⟩, fun s k b x hx => by obtain ⟨u, h1, h2, h3⟩ := h.n s k b x hx; exact ⟨u, h1, fun hk => ha (h2 hk), h3⟩⟩
end Go.Y
namespace Go.Y
open Go.Eng (T RepT RepM SRep Kept Base G SameOn VRep Split Live Free kn Owns ownB RootOk ERep HPred)
variable {P : Program} {I : Ids} {φ : FnP} {β : Base} {nt : Nat} {cs : List (Nat × Con)} {tb : Tabs}
theorem same_drawn (S : Nat → Prop) (w : World) (n : Nat) : SameOn S w { w with drawn := n } := fun b _ _ => rfl
theorem inv_drawn {σ : St L} {g : G} {w : World} (n : Nat) (h : Inv P I φ β σ g w) : Inv P I φ β σ g { w with drawn := n } :=
  ⟨Eng.srep_same (same_drawn _ w n) (Nat.le_refl _) h.s, ⟨h.k.os, h.k.tape, h.k.output, h.k.size, h.k.block, h.k.F, h.k.F', h.k.B⟩, h.c, h.f, (by first | assumption | exact Inv.gl (by assumption) | exact (RelG.i (by assumption)).gl)⟩
theorem arep_drawn {σ : St L} {g : G} {w : World} (n : Nat) (hi : Inv P I φ β σ g w) {x : AV L} {u : Value} (h : ARep P I φ σ g w x u) : ARep P I φ σ g { w with drawn := n } x u := by
  induction h with
  | lf v u h => exact .lf v u (h.mono (same_drawn _ w n) fun _ h => h)
  | zs e a u h => exact .zs e a u h
  | tl v b n' h => exact .tl v b n' (h.mono (same_drawn _ w n) fun _ h => h)
  | ar l u hb h1 => exact .ar l u hb fun hv hs0 d e nl xs hat => by rw [Eng.locV_same (same_drawn _ w n) hi.s _ hat]; exact h1 hv hs0 d e nl xs hat
  | pt l b o hb h1 => exact .pt l b o hb fun hv ht => by rw [Eng.locA_same (same_drawn _ w n) hi.s _ ht]; exact h1 hv ht
  | fp v b o us hF hc hr => exact .fp v b o us hF (fun j t hj => hc j t hj) fun j t hj => (hr j t hj).mono (same_drawn _ w n) fun _ h => h
  | ag t cs vs us hl hv _ ih => exact .ag t cs vs us hl hv ih
  | tu cs vs us hl hv _ ih => exact .tu cs vs us hl hv ih
  | fn f cs vs us hl hv _ ih => exact .fn f cs vs us hl hv ih
  | u u => exact .u u
theorem relG_drawn {σ : St L} {g : G} {ac : Act} {w : World} (n : Nat) (h : RelG P I φ β nt σ g ac w) : RelG P I φ β nt σ g ac { w with drawn := n } :=
  ⟨h.defers, h.size, inv_drawn n h.i, fun s x hx => by obtain ⟨u, h1, h2⟩ := h.e s x hx; exact ⟨u, h1, arep_drawn n h.i h2⟩,
    fun s k b x hx => by obtain ⟨u, h1, h2, h3⟩ := h.n s k b x hx; exact ⟨u, h1, fun hk => arep_drawn n h.i (h2 hk), h3⟩⟩
theorem freeze_ok (hf : FnsOk φ cs) : FreezeOk P I φ β nt := by
  intro l st g ac w h
  obtain ⟨g', hp, hi, _⟩ := freezeA_ok hf h.i (.ar l)
  have he := freezeA_env (st := st) (.ar l : AV L)
  refine ⟨g', h.defers, h.size, hi, fun s x hx => ?_, fun s k b x hx => ?_⟩
  · rw [he.1] at hx
    obtain ⟨u, h1, h2⟩ := h.e s x hx
    exact ⟨u, h1, hp.a x u h2⟩
  · rw [he.2] at hx
    obtain ⟨u, h1, h2, h3⟩ := h.n s k b x hx
    exact ⟨u, h1, fun hk => hp.a x u (h2 hk), h3⟩
end Go.Y
namespace Go.Y
open Go.Eng (T RepT RepM SRep Kept Base G SameOn VRep Split Live Free kn Owns ownB RootOk ERep HPred)
variable {P : Program} {I : Ids} {φ : FnP} {β : Base} {nt : Nat} {cs : List (Nat × Con)} {tb : Tabs} {ρ : Type} {ls : List (Nat × LoopC ρ)} {pins : List (Nat × Value)}
theorem lst_none (n i : Nat) : lst (Array.replicate n false) i = false := by
  unfold lst
  simp only [Array.getD_eq_getD_getElem?, Array.getElem?_replicate]
  split <;> rfl
theorem draw_ok (hf : FnsOk φ cs) (hmix : P.follows .mixedOrders = true) (hop : ∀ β, OpOk P I φ β nt cs ([] : List (Nat × LoopC (St L))) tb) (hsr : SoftOk P I φ nt cs tb) (hsw : SoftWr cs tb) (hst : StaysOk cs tb) : DrawOk P I φ β nt cs ls tb pins := by
  intro id ops st n r Q hdst hn h g a w hR hp
  simp only [drawK] at h
  split at h
  · rename_i hc
    rw [Bool.and_eq_true] at hc
    obtain ⟨rs, h1, h2, h3⟩ := drawGo_some _ _ _ h
    obtain ⟨g1, hR1⟩ := preFreeze_ok (freeze_ok hf) ops.toList ops.toList st g a w hR
    have hR2 := relG_drawn (w.drawn + 1) hR1
    have hord : orderOk (aheadOf [] ops.toList) ops.toList.length (rs.map (·.i)) [] = true := by rw [h1]; exact hc.1
    have hrun : DRun cs tb ops.toList (aheadOf [] ops.toList) rs (preFreeze ops.toList st ops.toList) := ⟨fun a R b e => by simpa using h3 a R b e, (orderOk_spec _ _ hord).1, hc.2⟩
    refine wp_region_any hmix (any_ok hop hsr hsw hst hdst hrun hord (fun g ac w hR hp => hn _ g ac w h2 hR hp) ops.size _ (preFreeze ops.toList st ops.toList) (by simp) ?_ ?_ ?_ g1 a _ hR2 hp)
    · unfold todo
      simp
    · intro i hi
      rw [lst_none] at hi
      cases hi
    · exact (Sp.start rs _).congr fun R _ => (lst_none _ _).symm
  · cases h
end Go.Y
namespace Go.Y
open RF RAlg
variable {cs : List (Nat × Con)} {ρ σ : Type} {ls : List (Nat × LoopC ρ)} {ls2 : List (Nat × LoopC σ)} {f : σ → Option ρ} {tb : Tabs}
theorem slice_nat {st : St L} {gd : Option (Gd L)} {dst : Option Nat} {rt : TypeId} {t : TypeId} {x : Operand} {lo hi mx : Option Operand} {k : St L → Option ρ} {k2 : St L → Option σ}
    (hret : ∀ x : AV L, retK st gd dst k x = (retK st gd dst k2 x).bind f) (h : ∀ y : AV L, @evalO L (semL cs) tb st (gdKeys gd) t x = some y → ∀ w, sliceK st gd dst k y w = (sliceK st gd dst k2 y w).bind f) :
    @opK L (Option ρ) (semL cs) (semF ρ) (semR ρ cs ls) tb st gd dst rt (.slice t x lo hi mx) k = (@opK L (Option σ) (semL cs) (semF σ) (semR σ cs ls2) tb st gd dst rt (.slice t x lo hi mx) k2).bind f := by
  simp only [opK]
  refine oCase_natE fun y hy => oCase_nat fun _ => ?_
  split
  · split
    · split
      · split
        · exact hret _
        · rfl
      · refine peekK_nat fun _ => ?_
        split
        · split
          · exact hret _
          · rfl
        · rfl
    · rfl
  · refine peekK_nat fun v => ?_
    split
    · rfl
    · refine oCase_nat fun n => ?_
      have hw := h y hy
      cases lo with
      | none => cases hi with
        | none => exact checkIdx_nat (checkIdx_nat (oCase_nat hw))
        | some h =>
          refine oCase_nat fun h => ?_
          cases h with
          | lf h => exact checkIdx_nat (checkIdx_nat (oCase_nat hw))
          | _ => rfl
      | some l =>
        refine oCase_nat fun l => ?_
        cases l with
        | lf l => cases hi with
          | none => exact checkIdx_nat (checkIdx_nat (oCase_nat hw))
          | some h =>
            refine oCase_nat fun h => ?_
            cases h with
            | lf h => exact checkIdx_nat (checkIdx_nat (oCase_nat hw))
            | _ => rfl
        | _ => rfl
theorem get_setSelf {st : St L} {l : Loc L} {c : Cell L} (h : cellAt st l = some c) : ∀ k, get (setCell st l.root l.off c).sto k = get st.sto k := by
  intro k
  obtain ⟨r, hr, _, hc⟩ := cellAt_iff.1 h
  rw [get_setCell st _ _ c r hr]
  split
  · rename_i hk
    subst hk
    rw [hr]
    congr 1
    have : r.cells.set l.off c = r.cells := by
      refine List.ext_getElem? fun j => ?_
      rw [List.getElem?_set]
      split
      · rename_i hj
        subst hj
        split
        · exact hc.symm
        · rename_i hl
          rw [List.getElem?_eq_some_iff] at hc
          exact absurd hc.1 hl
      · rfl
    rw [this]
  · rfl
open Classical in
theorem stays_ok : StaysOk cs tb := by
  intro o gd st st' hs h
  obtain ⟨ot, hot⟩ : ∃ x, x = o.op := ⟨_, rfl⟩
  cases hop : o.op <;> rw [hop] at hs <;> try (simp [stays] at hs; done)
  rename_i t x lo hi mx
  have hfz : ∀ y : AV L, @evalO L (semL cs) tb st (gdKeys gd) t x = some y → ∀ k, get (freezeA st y).sto k = get st.sto k := by
    intro y hy k
    cases x with
    | tmp s =>
      simp only [stays] at hs
      simp only [evalO] at hy
      cases hx : get st.env s with
      | none => rw [hx] at hs; cases hs
      | some x =>
        rw [hx] at hs hy
        simp only [Option.some.injEq] at hy
        subst hy
        cases x with
        | lf v => rfl
        | zs e a => rfl
        | ar l =>
          simp only at hs
          split at hs
          · rename_i s0 v0 hst hc
            simp only [freezeA, freezeL, hc]
            exact get_setSelf hc k
          · cases hs
        | _ => simp at hs
    | _ => simp [stays] at hs
  have hput : ∀ (a : St L) d x, (∀ k, get a.sto k = get st.sto k) → ∀ k, get (putE a gd d x).sto k = get st.sto k := fun a d x h k => by rw [putE_sto]; exact h k
  have h1 := slice_nat (cs := cs) (ρ := St L) (σ := St L) (ls := []) (ls2 := []) (f := some) (tb := tb) (st := st) (gd := gd) (dst := o.dst) (rt := o.type) (t := t) (x := x) (lo := lo) (hi := hi) (mx := mx) (k := some) (k2 := fun x => if ∀ k, get x.sto k = get st.sto k then some x else none)
    (fun x => by
      cases o.dst with
      | none => simp [retK]
      | some d => simp only [retK]; rw [if_pos (hput st d x fun _ => rfl)]; rfl)
    (fun y hy w => by
      cases o.dst with
      | none => simp [sliceK]
      | some d => simp only [sliceK]; rw [if_pos (hput _ d _ (hfz y hy))]; rfl)
  unfold opS at h
  rw [hop, h1, Option.bind_eq_some_iff] at h
  obtain ⟨x', h3, h4⟩ := h
  cases h4
  have h5 := opK_opS (cs := cs) (ρ := St L) (ls := []) (tb := tb) (st := st) (gd := gd) (o := o) (k := fun x => if ∀ k, get x.sto k = get st.sto k then some x else none)
  rw [hop, h3] at h5
  have h6 := h5.symm
  rw [Option.bind_eq_some_iff] at h6
  obtain ⟨y, _, h8⟩ := h6
  split at h8
  · cases h8; assumption
  · cases h8
end Go.Y
namespace Go.Y
open RF RAlg
variable {cs : List (Nat × Con)} {ρ σ : Type} {ls : List (Nat × LoopC ρ)} {ls2 : List (Nat × LoopC σ)} {f : σ → Option ρ} {tb : Tabs}
def SoftP (d : Option Nat) (st x : St L) : Prop := ∀ k r, d ≠ some k → get st.sto k = some r → ∃ r', get x.sto k = some r' ∧ SoftR r r'
theorem SoftP.refl (d : Option Nat) (st : St L) : SoftP d st st := fun k r _ h => ⟨r, h, .refl r⟩
theorem SoftP.trans {d : Option Nat} {a b c : St L} (h : SoftP d a b) (h' : SoftP d b c) : SoftP d a c := fun k r hd hr => by
  obtain ⟨r1, h1, h2⟩ := h k r hd hr
  obtain ⟨r2, h3, h4⟩ := h' k r1 hd h1
  exact ⟨r2, h3, h2.trans h4⟩
theorem SoftP.putE {d : Option Nat} {a b : St L} (h : SoftP d a b) (gd : Option (Gd L)) (e : Nat) (x : AV L) : SoftP d a (putE b gd e x) := fun k r hd hr => by
  rw [putE_sto]; exact h k r hd hr
theorem softP_set {d : Option Nat} {st : St L} {l : Loc L} {c c' : Cell L} (hc : cellAt st l = some c) (h : SoftC c c') : SoftP d st (setCell st l.root l.off c') := by
  intro k r _ hr
  obtain ⟨r0, h1, _, h3⟩ := cellAt_iff.1 hc
  rw [get_setCell st _ _ c' r0 h1]
  split
  · rename_i hk
    subst hk
    rw [h1] at hr
    cases hr
    refine ⟨_, rfl, rfl, rfl, by simp, fun j x hj => ?_⟩
    simp only [List.getElem?_set]
    split
    · rename_i hj'
      subst hj'
      rw [h3] at hj
      cases hj
      have := (List.getElem?_eq_some_iff.1 h3).1
      exact ⟨c', by simp [this], h⟩
    · exact ⟨x, hj, .refl x⟩
  · exact ⟨r, hr, .refl r⟩
theorem softP_freezeL (d : Option Nat) (st : St L) (l : Loc L) : SoftP d st (freezeL st l) := by
  unfold freezeL
  split
  · rename_i s e v hc
    refine softP_set hc ?_
    cases e with
    | zero => exact .inl rfl
    | succ e => exact .inr ⟨e, v, rfl, .inr rfl⟩
  · exact .refl d st
theorem softP_frL (d : Option Nat) : ∀ (xs : List (AV L)) (st : St L), SoftP d st (frL st xs)
  | [], st => .refl d st
  | x :: xs, st => by
    unfold frL
    refine SoftP.trans ?_ (softP_frL d xs _)
    unfold frP
    split
    · exact softP_freezeL d st _
    · exact .refl d st
theorem softP_freezeA (d : Option Nat) (st : St L) (x : AV L) : SoftP d st (freezeA st x) := by
  unfold freezeA
  split
  · exact softP_freezeL d st _
  · exact softP_frL d _ st
  · exact .refl d st
theorem softP_freezeAll (d : Option Nat) : ∀ (xs : List (AV L)) (st : St L), SoftP d st (freezeAll st xs)
  | [], st => .refl d st
  | x :: xs, st => (softP_freezeA d st x).trans (softP_freezeAll d xs _)
theorem softP_new (d : Nat) (st : St L) (mem : Option TypeId) (es : List (E L)) : SoftP (some d) st (newRoot st d mem es).1 := by
  intro k r hd hr
  refine ⟨r, ?_, .refl r⟩
  simp only [newRoot, get_put]
  rw [if_neg fun e => hd (by rw [e])]
  exact hr
theorem softP_putAll {d : Option Nat} {st : St L} {l : List (Nat × Root L)} (h : keysFree st.sto l = true) : SoftP d st { st with sto := putAll l st.sto } := by
  intro k r _ hr
  refine ⟨r, ?_, .refl r⟩
  simp only [get_putAll]
  cases hl : get l k with
  | none => exact hr
  | some r' =>
    rw [keysFree_get h k r' hl] at hr
    cases hr
end Go.Y
namespace Go.Y
open RF RAlg
variable {cs : List (Nat × Con)} {ρ σ : Type} {ls : List (Nat × LoopC ρ)} {ls2 : List (Nat × LoopC σ)} {f : σ → Option ρ} {tb : Tabs}
theorem softP_keepY (d : Option Nat) (st : St L) (a : Ty) (x : AV L) : SoftP d st (keepY st a x) := by
  unfold keepY
  split
  · exact SoftP.refl _ _
  · exact softP_freezeA _ _ _
theorem call1P_soft {st : St L} {gd : Option (Gd L)} {d : Nat} {sg : Sig} {args : List (AV L)} {v : L} {k : St L → Option ρ} {k2 : St L → Option σ} (h : ∀ x, SoftP (some d) st x → k x = (k2 x).bind f) :
    @call1P L (Option ρ) (semL cs) (semF ρ) st gd d sg args k v = (@call1P L (Option σ) (semL cs) (semF σ) st gd d sg args k2 v).bind f := by
  unfold call1P
  refine oCase_nat fun rs => ?_
  simp only []
  split
  · split
    · exact oCase_nat fun x => h _ ((SoftP.refl _ _).putE _ _ _)
    · rfl
  · split
    · exact oCase_nat fun x => h _ ((softP_freezeAll _ _ _).putE _ _ _)
    · split
      · rename_i hc
        rw [Bool.and_eq_true] at hc
        have hp : ∀ dd, SoftP dd st (match keepO sg && @sameSt L (semL cs) (fill sg.out rs) sg.out with | true => st | false => freezeAll st args) := by
          intro dd
          cases keepO sg && @sameSt L (semL cs) (fill sg.out rs) sg.out with
          | true => exact SoftP.refl _ _
          | false => exact softP_freezeAll _ _ _
        exact oCase_nat fun x => h _ (((hp _).trans (softP_putAll hc.1)).putE _ _ _)
      · rfl
    · rfl
theorem call1_soft {tb : Tabs} {st : St L} {gd : Option (Gd L)} {d : Option Nat} {rts : Bool} {fn : Nat} {args : List (AV L)} {k : St L → Option ρ} {k2 : St L → Option σ}
    (hr : rts = true → ∀ key sg, get tb.sigs key = some sg → fnOf key = fnOf fn → sg.ins.sto = []) (h : ∀ x, SoftP d st x → k x = (k2 x).bind f) :
    @call1 L (Option ρ) (semL cs) (semF ρ) (semR ρ cs ls) tb st gd d rts fn args k = (@call1 L (Option σ) (semL cs) (semF σ) (semR σ cs ls2) tb st gd d rts fn args k2).bind f := by
  unfold call1
  split
  · rfl
  refine oCase_natE fun p hp => ?_
  obtain ⟨hsg, hkf⟩ := pickSig_some hp
  unfold call2
  split
  · rename_i hins
    split
    · have := hr rfl _ _ hsg hkf
      rw [hins] at this
      cases this
    · rfl
  · refine selK_nat fun ys => ?_
    split
    · rfl
    · refine oCase_nat fun vs => call_nat fun r => ?_
      split
      · rfl
      · exact altK_nat fun o x _ => call1P_soft h
theorem softAll_get {f : Nat} : ∀ {sigs : List (Nat × Sig)}, softW.softAll f sigs = true → ∀ key sg, get sigs key = some sg → fnOf key = fnOf f → sg.ins.sto = []
  | [], _, key, sg, h, _ => by simp [get] at h
  | (k, s) :: r, h, key, sg, hg, hf => by
    simp only [softW.softAll, Bool.and_eq_true] at h
    rw [get_cons] at hg
    split at hg
    · rename_i hj
      obtain rfl := Option.some.inj hg
      subst hj
      have h1 := h.1
      rw [hf, Nat.beq_refl] at h1
      simpa using h1
    · exact softAll_get h.2 key sg hg hf
theorem call_soft {st : St L} {gd : Option (Gd L)} {dst : Option Nat} {rt : TypeId} {c : Go.Call} {k : St L → Option ρ} {k2 : St L → Option σ} (hs : softW tb (.call c) = true) (h : ∀ x, SoftP dst st x → k x = (k2 x).bind f) :
    @opK L (Option ρ) (semL cs) (semF ρ) (semR ρ cs ls) tb st gd dst rt (.call c) k = (@opK L (Option σ) (semL cs) (semF σ) (semR σ cs ls2) tb st gd dst rt (.call c) k2).bind f := by
  have hret : ∀ x : AV L, retK st gd dst k x = (retK st gd dst k2 x).bind f := by
    intro x
    cases dst with
    | none => exact h _ (.refl _ _)
    | some d => exact h _ ((SoftP.refl _ _).putE _ _ _)
  simp only [opK]
  split
  · split
    · refine oCase_nat fun _ => oCase_nat fun _ => peekK_nat fun _ => ?_
      split
      · exact oCase_nat fun _ => hret _
      · rfl
    · rfl
  · split
    · refine oCase_nat fun _ => oCase_nat fun _ => ?_
      split
      · exact oCase_nat fun _ => hret _
      · rfl
    · refine oCase_nat fun _ => oCase_nat fun _ => oCase_nat fun _ => ?_
      split
      · exact oCase_nat fun _ => oCase_nat fun _ => hret _
      · rfl
    · rfl
  · split
    · refine oCase_nat fun _ => oCase_nat fun _ => ?_
      split
      · exact oCase_nat fun _ => hret _
      · rfl
    · rfl
  · rename_i hc
    refine rootG_nat ?_ ?_
    · split
      · refine oCase_nat fun _ => oCase_nat fun _ => oCase_nat fun _ => oCase_nat fun _ => ?_
        split
        · refine oCase_nat fun _ => ?_
          split
          · rfl
          · refine peekK_nat fun ys => ?_
            split
            · split
              · exact oCase_nat fun _ => oCase_nat fun _ => oCase_nat fun _ => check_nat (h _ (((softP_keepY _ _ _ _).trans (softP_new _ _ _ _)).putE _ _ _))
              · rfl
            · split
              · split
                · exact oCase_nat fun _ => oCase_nat fun _ => oCase_nat fun _ => check_nat (h _ ((((softP_keepY _ _ _ _).trans (softP_set ‹_› (.inr ⟨_, _, rfl, .inl ⟨Nat.lt_succ_self _, _, _, of_decide_eq_true (Bool.and_eq_true_iff.1 ‹_›).2⟩⟩))).trans (softP_new _ _ _ _)).putE _ _ _))
                · rfl
              · rfl
            · rfl
        · rfl
      · rfl
    · split
      · refine oCase_nat fun _ => ?_
        split
        · exact h _ ((SoftP.refl _ _).putE _ _ _)
        · rfl
      · rfl
  · rename_i xf hcal
    split
    · rfl
    · refine oCase_natE fun x hx => ?_
      split
      · rename_i f0 cap
        refine evs_nat fun _ => call1_soft (fun hfn key sg hsg => ?_) h
        cases xf <;> simp only [isFn, Bool.false_eq_true] at hfn
        rename_i f1
        have hx : (some (AV.fn f1 []) : Option (AV L)) = some (.fn f0 cap) := hx
        simp only [Option.some.injEq, AV.fn.injEq] at hx
        obtain ⟨rfl, _⟩ := hx
        unfold softW at hs
        simp only [hcal] at hs
        exact softAll_get hs _ _ hsg
      · split
        · refine evs_nat fun _ => peekAll_nat fun _ => callV_nat fun _ => ?_
          cases dst with
          | none => rfl
          | some d =>
            refine h _ (SoftP.putE ?_ _ _ _)
            split
            · exact .refl _ _
            · exact softP_freezeAll _ _ _
        · rfl
      · rfl
  · rfl
open Classical in
theorem softWr_ok : SoftWr cs tb := by
  intro o gd st st' hs h
  cases hop : o.op <;> rw [hop] at hs <;> try (simp [softW] at hs; done)
  rename_i c
  have h1 := call_soft (cs := cs) (ρ := St L) (σ := St L) (ls := []) (ls2 := []) (f := some) (tb := tb) (st := st) (gd := gd) (dst := o.dst) (rt := o.type) (c := c) (k := some) (k2 := fun x => if SoftP o.dst st x then some x else none) hs
    (fun x hx => by rw [if_pos hx]; rfl)
  unfold opS at h
  rw [hop, h1, Option.bind_eq_some_iff] at h
  obtain ⟨x', h3, h4⟩ := h
  cases h4
  have h5 := opK_opS (cs := cs) (ρ := St L) (ls := []) (tb := tb) (st := st) (gd := gd) (o := o) (k := fun x => if SoftP o.dst st x then some x else none)
  rw [hop, h3] at h5
  have h6 := h5.symm
  rw [Option.bind_eq_some_iff] at h6
  obtain ⟨y, _, h8⟩ := h6
  split at h8
  · cases h8; assumption
  · cases h8
end Go.Y
namespace Go.Y
open RF RAlg
variable {cs : List (Nat × Con)} {ρ σ : Type} {ls : List (Nat × LoopC ρ)} {ls2 : List (Nat × LoopC σ)} {f : σ → Option ρ} {tb : Tabs}
theorem evalO_sto {st : St L} {sto' : List (Nat × Root L)} {ks : List (Nat × Bool)} {t : TypeId} {x : Operand} : @evalO L (semL cs) tb ⟨st.env, st.gnv, sto'⟩ ks t x = @evalO L (semL cs) tb st ks t x := by
  cases x <;> rfl
theorem softN_nat {st : St L} {sto' : List (Nat × Root L)} {gd : Option (Gd L)} {dst : Option Nat} {rt : TypeId} {o : Op} {k : St L → Option ρ} {k2 : St L → Option σ} (hs : softN o = true)
    (hret : ∀ x : AV L, retK st gd dst k x = (retK ⟨st.env, st.gnv, sto'⟩ gd dst k2 x).bind f) :
    @opK L (Option ρ) (semL cs) (semF ρ) (semR ρ cs ls) tb st gd dst rt o k = (@opK L (Option σ) (semL cs) (semF σ) (semR σ cs ls2) tb ⟨st.env, st.gnv, sto'⟩ gd dst rt o k2).bind f := by
  cases o with
  | move x => simp only [opK, evalO_sto]; exact oCase_nat hret
  | assign x => simp only [opK, evalO_sto]; exact oCase_nat hret
  | extract x i =>
    simp only [opK, evalO_sto]
    refine oCase_nat fun _ => ?_
    split
    · exact oCase_nat hret
    · rfl
  | nilCheck x =>
    simp only [opK, evalO_sto]
    refine oCase_nat fun _ => ?_
    split
    · exact hret _
    · exact hret _
    · rfl
    · rfl
  | fieldAddr t x i =>
    simp only [opK, evalO_sto]
    refine oCase_nat fun _ => oCase_nat fun _ => oCase_nat fun _ => oCase_nat fun _ => ?_
    split
    · rfl
    · split
      · exact hret _
      · split
        · exact oCase_nat fun _ => hret _
        · rfl
      · rfl
  | field t x i =>
    simp only [opK, evalO_sto]
    refine oCase_nat fun _ => oCase_nat fun _ => ?_
    split
    · split
      · exact oCase_nat fun _ => oCase_nat fun _ => hret _
      · rfl
    · refine oCase_nat fun _ => oCase_nat fun _ => ?_
      split
      · exact hret _
      · split
        · exact hret _
        · rfl
    · rfl
  | _ => simp [softN] at hs
theorem putE_sto2 {st : St L} {sto' : List (Nat × Root L)} {gd : Option (Gd L)} {d : Nat} {x : AV L} : putE st gd d x = ⟨(putE ⟨st.env, st.gnv, sto'⟩ gd d x).env, (putE ⟨st.env, st.gnv, sto'⟩ gd d x).gnv, st.sto⟩ := by
  unfold putE
  split
  · rfl
  · split <;> rfl
theorem softN_opS {st st' : St L} {sto' : List (Nat × Root L)} {gd : Option (Gd L)} {o : Oper} (hs : softN o.op = true) (h : opS cs tb st gd o = some st') :
    ∃ st2, opS cs tb ⟨st.env, st.gnv, sto'⟩ gd o = some st2 ∧ st2.env = st'.env ∧ st2.gnv = st'.gnv := by
  have h1 := softN_nat (cs := cs) (ρ := St L) (σ := St L) (ls := []) (ls2 := []) (f := fun y => some ⟨y.env, y.gnv, st.sto⟩) (tb := tb) (st := st) (sto' := sto') (gd := gd) (dst := o.dst) (rt := o.type) (k := some) (k2 := some) hs
    (fun x => by
      cases o.dst with
      | none => rfl
      | some d => simp only [retK, Option.bind_some, Option.some.injEq]; exact putE_sto2)
  unfold opS at h ⊢
  rw [h1, Option.bind_eq_some_iff] at h
  obtain ⟨y, h2, h3⟩ := h
  cases h3
  exact ⟨y, h2, rfl, rfl⟩
end Go.Y
namespace Go.Y
open Go.Eng (T RepT RepM SRep Kept Base G SameOn VRep Split Live Free kn Owns ownB RootOk ERep HPred)
variable {P : Program} {I : Ids} {φ : FnP} {β : Base} {nt : Nat} {cs : List (Nat × Con)} {tb : Tabs}
variable {ρ : Type} {ls : List (Nat × LoopC ρ)} {r : ρ}
theorem cellAV_soft {sc st : St L} (hso : SoftS sc.sto st.sto) {g : G} {w : World} (hi : Inv P I φ β st g w) {l : Loc L} (hst : l.steps = []) {r1 : Root L} (hr : get st.sto l.root = some r1) (hg : r1.gen = l.gen) {j : Nat} {c c' : Cell L}
    (hc : r1.cells[j]? = some c') (hs : SoftC c c') :
    ∃ u, Eng.rootV g w l.root (injR I φ st r1) j = some u ∧ ARep P I φ st g w (@cellAV L (semL cs) sc { l with off := j } c) u := by
  obtain ⟨u, hu, ha⟩ := cellAV_ok (cs := cs) hi hst hr hg hc
  have hr' : Eng.get (injS I φ st) l.root = some (injR I φ st r1) := by rw [get_injS, hr]; rfl
  refine ⟨u, hu, ?_⟩
  obtain ⟨s, e⟩ := c
  rcases hs with rfl | ⟨d, v, h1, h2⟩
  · cases e with
    | o d v => cases d <;> exact ha
    | mv => exact ha
    | rf l' =>
      unfold cellAV at ha ⊢
      simp only at ha ⊢
      cases hra : rootAt sc l' with
      | none => exact .u _
      | some r2 =>
        cases hm : r2.mem with
        | none => simp only [hm]; exact .u _
        | some e =>
          simp only [hm]
          obtain ⟨h3, h4⟩ := rootAt_iff.1 hra
          obtain ⟨r3, h5, h6⟩ := hso _ _ h3
          have h7 : rootAt st l' = some r3 := rootAt_iff.2 ⟨h5, by rw [h6.gen]; exact h4⟩
          simp only [h7, h6.mem, hm] at ha
          exact ha
  · simp only at h1
    subst h1
    obtain ⟨vty, vv⟩ := v
    have hle : s ≤ c'.stamp := by
      rcases h2 with ⟨h2, _⟩ | rfl
      · exact Nat.le_of_lt h2
      · exact Nat.le_refl _
    cases vty with
    | sl e a =>
      refine .ar _ _ ⟨r1, hr, Nat.le_of_eq hg.symm, fun _ c1 hc1 => ?_⟩ fun _ _ _ _ _ _ _ => ?_
      · simp only at hc1
        rw [hc, Option.some.injEq] at hc1
        subst hc1
        exact hle
      · unfold Eng.locV
        simp only [injLoc, hst, List.map_nil, hr', Option.bind_some]
        exact hu
    | ptr e a => exact .u _
    | _ =>
      rcases h2 with ⟨_, e', a', h3⟩ | rfl
      · cases h3
      · exact ha
end Go.Y
namespace Go.Y
open Go.Eng (T RepT RepM SRep Kept Base G SameOn VRep Split Live Free kn Owns ownB RootOk ERep HPred)
variable {P : Program} {I : Ids} {φ : FnP} {β : Base} {nt : Nat} {cs : List (Nat × Con)} {tb : Tabs}
variable {ρ : Type} {ls : List (Nat × LoopC ρ)} {r : ρ}
theorem loadL_soft {sc st : St L} (hso : SoftS sc.sto st.sto) {g : G} {w : World} (hi : Inv P I φ β st g w) {l : Loc L} (hst : l.steps = []) {r1 : Root L} (hr : get st.sto l.root = some r1) (hg : r1.gen = l.gen) :
    ∀ (zs : List (Cell L)) (j : Nat), (∀ i c, zs[i]? = some c → ∃ c', r1.cells[l.off + j + i]? = some c' ∧ SoftC c c') → ∃ us : Nat → Value, (@loadK.loadL L (semL cs) sc l j zs).length = zs.length ∧
      ∀ i x, (@loadK.loadL L (semL cs) sc l j zs)[i]? = some x → Eng.rootV g w l.root (injR I φ st r1) (l.off + j + i) = some (us i) ∧ ARep P I φ st g w x (us i) := by
  intro zs
  induction zs with
  | nil => intro j _; exact ⟨fun _ => undef, rfl, fun i x hx => by simp [loadK.loadL] at hx⟩
  | cons c zs ih =>
    intro j hz
    obtain ⟨us, h1, h2⟩ := ih (j + 1) (fun i c hc => by
      obtain ⟨c', h3, h4⟩ := hz (i + 1) c (by simpa using hc)
      exact ⟨c', by rw [← h3]; congr 1; omega, h4⟩)
    obtain ⟨c', h5, h6⟩ := hz 0 c rfl
    obtain ⟨u, hu, ha⟩ := cellAV_soft (cs := cs) hso hi hst hr hg h5 h6
    refine ⟨fun i => match i with | 0 => u | i + 1 => us i, by simp [loadK.loadL, h1], fun i x hx => ?_⟩
    cases i with
    | zero =>
      simp only [loadK.loadL, List.getElem?_cons_zero, Option.some.injEq] at hx
      subst hx
      exact ⟨hu, by simpa using ha⟩
    | succ i =>
      simp only [loadK.loadL, List.getElem?_cons_succ] at hx
      obtain ⟨h3, h4⟩ := h2 i x hx
      refine ⟨?_, h4⟩
      rw [← h3]
      congr 1
      omega
theorem load_soft {sc st : St L} (hso : SoftS sc.sto st.sto) {g : G} {w : World} (hi : Inv P I φ β st g w) {l : Loc L} (hst : l.steps = []) {r0 : Root L} (hr0 : rootAt sc l = some r0) {e : TypeId} (hm0 : r0.mem = some e) {t : TypeId} {i : TI} (hti : TiFacts P I t i) {u : Value} (ha : ARep P I φ st g w (.pt l) u)
    (hn : (@loadK.loadL L (semL cs) sc l 0 (takeL i.cells (dropL l.off r0.cells))).length = i.cells) {y : AV L}
    (hy : (i.agg = true ∧ y = @mkAg L (semL cs) i.ty (@loadK.loadL L (semL cs) sc l 0 (takeL i.cells (dropL l.off r0.cells)))) ∨ (i.agg = false ∧ @loadK.loadL L (semL cs) sc l 0 (takeL i.cells (dropL l.off r0.cells)) = [y])) :
    ∃ z, (Instr.loadAt t u).run P w = .ok z w ∧ ARep P I φ st g w y z := by
  obtain ⟨h10, h20⟩ := rootAt_iff.1 hr0
  obtain ⟨r1, h1, hsr⟩ := hso _ _ h10
  have h2 : r1.gen = l.gen := by rw [hsr.gen]; exact h20
  have hm : r1.mem = some e := by rw [hsr.mem]; exact hm0
  have hr : rootAt st l = some r1 := rootAt_iff.2 ⟨h1, h2⟩
  obtain ⟨us, h3, h4⟩ := loadL_soft (cs := cs) hso hi hst h1 h2 (takeL i.cells (dropL l.off r0.cells)) 0 (fun j c hj => by
    rw [takeL_eq, dropL_eq, List.getElem?_take] at hj
    split at hj
    · rw [List.getElem?_drop] at hj
      obtain ⟨c', h5, h6⟩ := hsr.cell _ _ hj
      exact ⟨c', by simpa using h5, h6⟩
    · cases hj)
  generalize hz : @loadK.loadL L (semL cs) sc l 0 (takeL i.cells (dropL l.off r0.cells)) = zs at h3 h4 hn hy
  cases ha with
  | pt _ b o hb hl =>
    have hget : Eng.get (injS I φ st) (injLoc l).root = some (injR I φ st r1) := by rw [get_injS]; simp [injLoc, h1]
    have hst' : (injLoc l).steps = [] := by simp [injLoc, hst]
    have hA := hl ⟨⟨r1, hr⟩, fun hne => absurd hst hne⟩ (by
      unfold Eng.There
      simp only [hst']
      exact ⟨_, e, hget, by simp [injR, hm]⟩)
    unfold Eng.locA at hA
    simp only [hget, hst', injR, hm, Option.map_some, Option.some.injEq, Addr.mk.injEq] at hA
    obtain ⟨rfl, rfl, _⟩ := hA
    have hcell : ∀ j x, zs[j]? = some x → w.cell? ⟨g.ad l.root, l.off + j, none⟩ = some (us j) := by
      intro j x hj
      have := (h4 j x hj).1
      unfold Eng.rootV at this
      simp only [injR, hm, Nat.add_zero] at this
      exact this
    rcases hy with ⟨hag, rfl⟩ | ⟨hag, hy⟩
    · refine ⟨_, run_loadAt_agg hti.kn (us := us) (fun j hj => ?_) (by rw [← hti.agg]; exact hag), mkAg_ok (us := us) (by rw [hti.isAgg, hag]) (by simp [hn, hti.cells]) fun j c hj => ?_⟩
      · have hjl : j < zs.length := by rw [hn, hti.cells]; exact hj
        exact hcell j zs[j] (by simp [hjl])
      · have hjl := lt_of_get hj
        refine ⟨?_, (h4 j c hj).2⟩
        have : j < P.cellsOf t := by rw [← hti.cells, ← hn]; exact hjl
        simp [this]
    · have hj : zs[0]? = some y := by rw [hy]; rfl
      refine ⟨us 0, run_loadAt_one hti.kn (hcell 0 y hj) (by rw [← hti.agg]; exact hag), (h4 0 y hj).2⟩
end Go.Y
namespace Go.Y
open Go.Eng (T RepT RepM SRep Kept Base G SameOn VRep Split Live Free kn Owns ownB RootOk ERep HPred)
variable {P : Program} {I : Ids} {φ : FnP} {β : Base} {nt : Nat} {cs : List (Nat × Con)} {tb : Tabs}
variable {ρ : Type} {ls : List (Nat × LoopC ρ)} {r : ρ} {pins : List (Nat × Value)}
theorem soft_fin {o : Oper} {gd : Option (Gd L)} {stc st' : St L} {sto' : List (Nat × Root L)} (hd : ∀ d, o.dst = some d → d < nt) (hself : selfOk gd o.dst = true) {y : AV L}
    (hret : retK stc gd o.dst some y = some st')
    (hrun : ∀ (β : Base) (a : Act) (w : World) (g : G), Inv P I φ β ⟨stc.env, stc.gnv, sto'⟩ g w → EnvR P I φ ⟨stc.env, stc.gnv, sto'⟩ g w stc.env a.tmps → GnvR P I φ ⟨stc.env, stc.gnv, sto'⟩ g w stc.gnv a.tmps → Hold a.tmps (keysOf gd) → On gd → ∃ u, (execOp a.eval o).run P w = .ok (.value u) w ∧ ARep P I φ ⟨stc.env, stc.gnv, sto'⟩ g w y u) :
    ∃ st'' : St L, st''.sto = sto' ∧ (∀ d, o.dst = some d → get st''.env d = get st'.env d ∧ get st''.gnv d = get st'.gnv d) ∧ ∀ β, Does P I φ β nt o ⟨stc.env, stc.gnv, sto'⟩ gd st'' := by
  cases hdst : o.dst with
  | none =>
    exact ⟨⟨stc.env, stc.gnv, sto'⟩, rfl, fun d h => (by cases h), fun β => does_none hdst fun a w g hi he hn hh hon => by
      obtain ⟨u, h1, _⟩ := hrun β a w g hi he hn hh hon; exact ⟨u, h1⟩⟩
  | some d =>
    rw [hdst] at hret
    simp only [retK, Option.some.injEq] at hret
    subst hret
    refine ⟨putE ⟨stc.env, stc.gnv, sto'⟩ gd d y, by rw [putE_sto], fun d' h => ?_, fun β => does_pure hdst (hd d hdst) hself (hrun β)⟩
    rw [putE_sto2 (st := stc) (sto' := sto')]
    exact ⟨rfl, rfl⟩
theorem softN_ro {o : Op} (h : softN o = true) : readOnly tb o = true := by
  cases o <;> first | rfl | (simp [softN] at h)
theorem soft_ok (hT : TabOk P I tb) (hop : ∀ β, OpOk P I φ β nt cs ([] : List (Nat × LoopC (St L))) tb) : SoftOk P I φ nt cs tb := by
  intro o gd stc st' sto' hd hself hs h hso
  by_cases hN : softN o.op = true
  · obtain ⟨st2, h1, h2, h3⟩ := softN_opS (sto' := sto') hN h
    exact ⟨st2, opS_readOnly (softN_ro hN) h1, fun d _ => ⟨by rw [h2], by rw [h3]⟩, does_of hop hd hself h1⟩
  · have hso := hso.resolve_left hN
    cases ho : o.op with
    | load t x =>
      have h0 := h
      unfold opS at h
      rw [ho] at h hs
      simp only [opK] at h
      obtain ⟨xv, hx, h1⟩ := oCase_some h
      clear h
      obtain ⟨i, hti, h⟩ := oCase_some h1
      clear h1
      have hI := ti_facts (hT t i hti)
      have run : ∀ (a : Act) (w : World) z, (Instr.loadAt t (a.eval x)).run P w = .ok z w → (execOp a.eval o).run P w = .ok (.value z) w := by
        intro a w z hz
        unfold execOp
        simp only [ho]
        exact run_v hz
      have hx' : @evalO L (semL cs) tb ⟨stc.env, stc.gnv, sto'⟩ (keysOf gd) 0 x = some xv := by rw [evalO_sto]; exact hx
      have hx2 : @evalO L (semL cs) tb stc (gdKeys gd) 0 x = some xv := hx
      simp only [softR, hx2] at hs
      split at h
      · rename_i l
        have hst : l.steps = [] := by simpa using hs
        unfold loadK at h
        obtain ⟨r1, hr, h1⟩ := oCase_some h
        clear h
        rw [hst] at h1
        simp only at h1
        split at h1
        · cases h1
        · rename_i e hm
          split at h1
          · cases h1
          · rename_i hlen
            have hlen := (beq_iff _ _).1 hlen
            split at h1
            · rename_i hag
              refine soft_fin hd hself h1 fun β a w g hi he hn hh hon => ?_
              obtain ⟨z, h2, h3⟩ := load_soft (cs := cs) hso hi hst hr hm hI (evalO_ok (P := P) (I := I) (φ := φ) (g := g) (w := w) he hn hh hx') hlen (.inl ⟨hag, rfl⟩)
              exact ⟨z, run a w z h2, h3⟩
            · rename_i hag
              split at h1
              · rename_i y hy
                refine soft_fin hd hself h1 fun β a w g hi he hn hh hon => ?_
                obtain ⟨z, h2, h3⟩ := load_soft (cs := cs) hso hi hst hr hm hI (evalO_ok (P := P) (I := I) (φ := φ) (g := g) (w := w) he hn hh hx') hlen (.inr ⟨hag, hy⟩)
                exact ⟨z, run a w z h2, h3⟩
              · cases h1
      · rename_i v
        split at h
        · rename_i hdec
          have h4 : opS cs tb ⟨stc.env, stc.gnv, sto'⟩ gd o = retK ⟨stc.env, stc.gnv, sto'⟩ gd o.dst some (.lf v) := by
            unfold opS
            rw [ho]
            simp only [opK, evalO_sto, hx2, hti, oCase, hdec]
            rfl
          have h5 : retK stc gd o.dst some (.lf v) = some st' := h
          cases hdst : o.dst with
          | none =>
            rw [hdst] at h4
            exact ⟨⟨stc.env, stc.gnv, sto'⟩, rfl, fun d h => (by cases h), does_of hop hd hself h4⟩
          | some d =>
            rw [hdst] at h4 h5
            simp only [retK, Option.some.injEq] at h5
            subst h5
            refine ⟨_, by rw [putE_sto], fun d' h => ?_, does_of hop hd hself h4⟩
            rw [putE_sto2 (st := stc) (sto' := sto')]
            exact ⟨rfl, rfl⟩
        · cases h
      · cases h
    | _ => rw [ho] at hs hN; first | (simp [softR] at hs; done) | exact absurd rfl hN
theorem drawOk (hmix : P.follows .mixedOrders = true) (hT : TabOk P I tb) (hf : FnsOk (phi P I) cs) (hC : CallsOk P I (phi P I) cs tb) : DrawOk P I (phi P I) β nt cs ls tb pins :=
  draw_ok hf hmix (fun _ => op_ok hT hf hC) (soft_ok hT fun _ => op_ok hT hf hC) softWr_ok stays_ok
end Go.Y
namespace Go.Y
open Go.Eng (T RepT RepM SRep Kept Base G SameOn VRep Split Live Free kn)
variable {P : Program} {I : Ids} {φ : FnP} {cs : List (Nat × Con)} {tb : Tabs}
theorem get_consE {α : Type} {j : Nat} {x : α} {r : List (Nat × α)} {k : Nat} {y : α} (h : get ((j, x) :: r) k = some y) : (k = j ∧ y = x) ∨ get r k = some y := by
  rw [get_cons] at h
  split at h
  · rename_i hj; exact .inl ⟨hj.symm, (Option.some.inj h).symm⟩
  · exact .inr h
theorem get_nilE {α : Type} {k : Nat} {y : α} (h : get ([] : List (Nat × α)) k = some y) : False := by simp [get] at h
def lhAt (H : Hints) (k : Nat) : LH := match get H.loops k with | some h => h | none => default
def codeAt (k : Nat) (c : Code) : Code := match findLoop k c with | some b => b | none => .skip
def kget {ρ : Type} (ks : List (L → Option ρ)) (i : Nat) : L → Option ρ := match ks[i]? with | some k => k | none => fun _ => none
def lenK {X ρ : Type} (m : Nat) (G : X → List (L → Option ρ) → Option ρ) (x : X) (ks : List (L → Option ρ)) : Option ρ := match Nat.beq ks.length m with | true => G x ks | false => none
def mapK {ρ : Type} (ks : List (L → Option ρ)) : Nat → List Ty → List (L → Option ρ)
  | _, [] => []
  | i, t :: ts => (fun v => match v.as t with | some y => kget ks i ⟨t, y⟩ | none => none) :: mapK ks (i + 1) ts
theorem mapK_len {ρ : Type} (ks : List (L → Option ρ)) : ∀ (i : Nat) (ts : List Ty), (mapK ks i ts).length = ts.length
  | _, [] => rfl
  | i, _ :: ts => congrArg (· + 1) (mapK_len ks (i + 1) ts)
theorem mapK_ok {ρ : Type} (ks : List (L → Option ρ)) : ∀ (i : Nat) (ts : List Ty) (j : Nat) k', (mapK ks i ts)[j]? = some k' → i + ts.length ≤ ks.length → ∃ k, ks[i + j]? = some k ∧ ∀ v r, k' v = some r → k v = some r
  | _, [], j, k', h, _ => by simp [mapK] at h
  | i, t :: ts, j, k', h, hl => by
    simp only [List.length_cons] at hl
    cases j with
    | zero =>
      simp only [mapK, List.getElem?_cons_zero, Option.some.injEq] at h
      subst h
      have hi : ks[i]? = some ks[i] := List.getElem?_eq_getElem (by omega)
      refine ⟨_, hi, fun v r hv => ?_⟩
      have hv : (match v.as t with | some y => kget ks i ⟨t, y⟩ | none => none) = some r := hv
      split at hv
      · rename_i y hy
        rw [as_some hy]
        unfold kget at hv
        rw [hi] at hv
        exact hv
      · cases hv
    | succ j =>
      simp only [mapK, List.getElem?_cons_succ] at h
      obtain ⟨k0, h1, h2⟩ := mapK_ok ks (i + 1) ts j k' h (by omega)
      exact ⟨k0, by rw [← h1]; congr 1; omega, h2⟩
structure RoundOk (cs : List (Nat × Con)) {ρ : Type} (ls : List (Nat × LoopC ρ)) (tb : Tabs) (H : Hints) (fin : St L → (L → Option ρ) → Option ρ) (rt : Ty) (lh : LH) (body : Code) (ts tys : List Ty)
    (G : Nat → (tupTy ts).den → List (L → Option ρ) → Option ρ) : Prop where
  sh : leafs lh.sh = ts
  zero : ∀ x ks, G 0 x ks = none
  step : ∀ n x ks, @yround L (Option ρ) (semL cs) (semF ρ) (semR ρ cs ls) tb H fin rt lh body (unT ts x) (fun vs => match (tupL vs).as (tupTy ts) with | some x' => G n x' ks | none => none) (mapK ks 0 tys) = G (n + 1) x ks
theorem loopOk {ρ : Type} {ls : List (Nat × LoopC ρ)} {H : Hints} {fin : St L → (L → Option ρ) → Option ρ} {rt : Ty} {lh : LH} {body : Code} {ts tys : List Ty} {G : Nat → (tupTy ts).den → List (L → Option ρ) → Option ρ} {N : Nat}
    (h : RoundOk cs ls tb H fin rt lh body ts tys G) : LoopOk cs ls tb H fin rt ⟨tupTy ts, lenK tys.length (G N)⟩ lh body (fun n vs ks => match (tupL vs).as (tupTy ts) with | some x => lenK tys.length (G n) x ks | none => none) := by
  have len : ∀ n x ks r, lenK tys.length (G n) x ks = some r → ks.length = tys.length ∧ G n x ks = some r := by
    intro n x ks r hr
    unfold lenK at hr
    split at hr
    · rename_i hb; exact ⟨(beq_iff _ _).1 hb, hr⟩
    · cases hr
  have len' : ∀ n x (ks : List (L → Option ρ)), ks.length = tys.length → lenK tys.length (G n) x ks = G n x ks := by
    intro n x ks hl
    unfold lenK
    rw [hl, Nat.beq_refl]
  refine ⟨fun vs x ks r _ hx hr => ⟨N, ?_⟩, fun vs ks => ?_, fun n vs ks r hty hr => ?_⟩
  · have hx : (tupL vs).as (tupTy ts) = some x := hx
    show (match (tupL vs).as (tupTy ts) with | some x => lenK tys.length (G N) x ks | none => none) = some r
    rw [hx]; exact hr
  · show (match (tupL vs).as (tupTy ts) with | some x => lenK tys.length (G 0) x ks | none => none) = none
    split
    · unfold lenK
      split
      · exact h.zero _ _
      · rfl
    · rfl
  · have hr : (match (tupL vs).as (tupTy ts) with | some x => lenK tys.length (G (n + 1)) x ks | none => none) = some r := hr
    split at hr
    · rename_i x hx
      obtain ⟨h1, h2⟩ := len _ _ _ _ hr
      refine ⟨mapK ks 0 tys, by rw [mapK_len, h1], fun j k' hk => ?_, ?_⟩
      · obtain ⟨k, h3, h4⟩ := mapK_ok ks 0 tys j k' hk (by omega)
        exact ⟨k, by rw [← h3, Nat.zero_add], h4⟩
      · have hvs : unT ts x = vs := by
          have h3 : ∀ (ts : List Ty) (hts : vs.map (·.ty) = ts) (x : (tupTy ts).den), (tupL vs).as (tupTy ts) = some x → unT ts x = vs := by
            intro ts hts x hx
            subst hts
            exact unT_of vs x hx
          exact h3 ts (hty.trans h.sh) x hx
        have h5 := h.step n x ks
        rw [hvs, h2] at h5
        have he : (fun vs' => match (tupL vs').as (tupTy ts) with | some x => lenK tys.length (G n) x ks | none => none) = fun vs' => match (tupL vs').as (tupTy ts) with | some x' => G n x' ks | none => none := by
          funext vs'
          split
          · exact len' _ _ _ h1
          · rfl
        show @yround L (Option ρ) (semL cs) (semF ρ) (semR ρ cs ls) tb H fin rt lh body vs (fun vs' => match (tupL vs').as (tupTy ts) with | some x => lenK tys.length (G n) x ks | none => none) (mapK ks 0 tys) = some r
        rw [he]
        exact h5
    · cases hr
def LoopsL (cs : List (Nat × Con)) {ρ : Type} (ls : List (Nat × LoopC ρ)) (tb : Tabs) (H : Hints) (fin : St L → (L → Option ρ) → Option ρ) (rt : Ty) (c : Code) : Prop :=
  ∀ key lc, get ls key = some lc → ∃ Fn, LoopOk cs ls tb H fin rt lc (lhAt H key) (codeAt key c) Fn
theorem findLoop_mem {key : Nat} : ∀ {c b : Code}, findLoop key c = some b → b ∈ subLoops c ∧ codeKey b = key := by
  intro c
  induction c with
  | seq a b iha ihb =>
    intro d h
    simp only [findLoop] at h
    split at h
    · rename_i x hx
      simp only [Option.some.injEq] at h; subst h
      exact ⟨by simp [subLoops, (iha hx).1], (iha hx).2⟩
    · exact ⟨by simp [subLoops, (ihb h).1], (ihb h).2⟩
  | cond c a b iha ihb =>
    intro d h
    simp only [findLoop] at h
    split at h
    · rename_i x hx
      simp only [Option.some.injEq] at h; subst h
      exact ⟨by simp [subLoops, (iha hx).1], (iha hx).2⟩
    · exact ⟨by simp [subLoops, (ihb h).1], (ihb h).2⟩
  | block id c ih => intro d h; exact ih h
  | scope c ih => intro d h; exact ih h
  | loop c ih =>
    intro d h
    simp only [findLoop] at h
    split at h
    · rename_i hk
      simp only [Option.some.injEq] at h; subst h
      exact ⟨by simp [subLoops], (beq_iff _ _).1 hk⟩
    · exact ⟨by simp [subLoops, (ih h).1], (ih h).2⟩
  | _ => intro d h; simp [findLoop] at h
theorem findLoop_some {b : Code} : ∀ {c : Code}, b ∈ subLoops c → ∃ b', findLoop (codeKey b) c = some b' := by
  intro c
  induction c with
  | seq a d iha ihb =>
    intro h
    simp only [subLoops, List.mem_append] at h
    simp only [findLoop]
    cases hx : findLoop (codeKey b) a with
    | some x => exact ⟨x, rfl⟩
    | none =>
      rcases h with h | h
      · obtain ⟨y, hy⟩ := iha h; rw [hx] at hy; cases hy
      · exact ihb h
  | cond q a d iha ihb =>
    intro h
    simp only [subLoops, List.mem_append] at h
    simp only [findLoop]
    cases hx : findLoop (codeKey b) a with
    | some x => exact ⟨x, rfl⟩
    | none =>
      rcases h with h | h
      · obtain ⟨y, hy⟩ := iha h; rw [hx] at hy; cases hy
      · exact ihb h
  | block id c ih => intro h; exact ih h
  | scope c ih => intro h; exact ih h
  | loop c ih =>
    intro h
    simp only [subLoops, List.mem_cons] at h
    simp only [findLoop]
    cases hk : Nat.beq (codeKey c) (codeKey b) with
    | true => exact ⟨c, rfl⟩
    | false =>
      rcases h with rfl | h
      · rw [Nat.beq_refl] at hk; cases hk
      · exact ih h
  | _ => intro h; simp [subLoops] at h
theorem nodupN_inj {α : Type} (f : α → Nat) : ∀ {l : List α}, nodupN (l.map f) = true → ∀ a ∈ l, ∀ b ∈ l, f a = f b → a = b
  | [], _, a, ha, _, _, _ => by simp at ha
  | x :: r, h, a, ha, b, hb, hf => by
    simp only [List.map_cons, nodupN, Bool.and_eq_true, Bool.not_eq_true'] at h
    have hx : ∀ y ∈ r, f y ≠ f x := fun y hy he => by
      have : memN (f x) (r.map f) = true := memN_iff.2 (he ▸ List.mem_map.2 ⟨y, hy, rfl⟩)
      rw [this] at h; cases h.1
    rcases List.mem_cons.1 ha with ha1 | ha1
    · rcases List.mem_cons.1 hb with hb1 | hb1
      · rw [ha1, hb1]
      · rw [ha1] at hf; exact absurd hf.symm (hx b hb1)
    · rcases List.mem_cons.1 hb with hb1 | hb1
      · rw [hb1] at hf; exact absurd hf (hx a ha1)
      · exact nodupN_inj f h.2 a ha1 b hb1 hf
def funChk (fn : Func) (q : Fun) : Bool :=
  (fn.name == "runtime.NumGoroutine") == false && (codeOk fn.ntmps q.keep (fun _ => true) q.code && (finKeys2 q.H q.res.length && (Nat.ble q.ins.env.length fn.ntmps && (keepOk q.ins.env.length q.keep && (nodupN ((subLoops q.code).map codeKey))))))
def fieldyT : List Ty → Bool
  | [] => true
  | v :: r => v.fieldy && fieldyT r
theorem fieldyT_of : ∀ {vs : List L}, fieldyL vs = true → fieldyT (vs.map (·.ty)) = true
  | [], _ => rfl
  | v :: r, h => by
    simp only [fieldyL, Bool.and_eq_true] at h
    simp only [List.map_cons, fieldyT, Bool.and_eq_true]
    exact ⟨h.1, fieldyT_of h.2⟩
theorem tupTy_inj : ∀ {ts us : List Ty}, fieldyT ts = true → fieldyT us = true → tupTy ts = tupTy us → ts = us
  | [], [], _, _, _ => rfl
  | [], [u], _, h, he => by
    simp only [fieldyT, Bool.and_true] at h
    have he : Ty.unit = u := he
    subst he; cases h
  | [], u :: v :: r, _, _, he => by cases (show Ty.unit = Ty.pair u (tupTy (v :: r)) from he)
  | [t], [], h, _, he => by
    simp only [fieldyT, Bool.and_true] at h
    have he : t = Ty.unit := he
    subst he; cases h
  | t :: s :: r, [], _, _, he => by cases (show Ty.pair t (tupTy (s :: r)) = Ty.unit from he)
  | [t], [u], _, _, he => by have he : t = u := he; rw [he]
  | [t], u :: v :: r, h, _, he => by
    simp only [fieldyT, Bool.and_true] at h
    have he : t = Ty.pair u (tupTy (v :: r)) := he
    subst he; cases h
  | t :: s :: r, [u], _, h, he => by
    simp only [fieldyT, Bool.and_true] at h
    have he : Ty.pair t (tupTy (s :: r)) = u := he
    subst he; cases h
  | t :: s :: r, u :: v :: q, h1, h2, he => by
    have he : Ty.pair t (tupTy (s :: r)) = Ty.pair u (tupTy (v :: q)) := he
    simp only [Ty.pair.injEq] at he
    simp only [fieldyT, Bool.and_eq_true] at h1 h2
    rw [he.1, tupTy_inj (ts := s :: r) (us := v :: q) (by simp only [fieldyT, Bool.and_eq_true]; exact h1.2) (by simp only [fieldyT, Bool.and_eq_true]; exact h2.2) he.2]
theorem tupL_ty : ∀ (vs : List L), (tupL vs).ty = tupTy (vs.map (·.ty))
  | [] => rfl
  | [v] => rfl
  | v :: w :: r => by show Ty.pair v.ty (tupL (w :: r)).ty = Ty.pair v.ty (tupTy ((w :: r).map (·.ty))); rw [tupL_ty (w :: r)]
def lfState (ts : List Ty) : St Ty := ⟨zipL 0 ts, [], []⟩
where zipL : Nat → List Ty → List (Nat × AV Ty)
  | _, [] => []
  | n, t :: r => (n, .lf t) :: zipL (n + 1) r
theorem fill_lf : ∀ (n : Nat) (vs : List L), fillE (lfState.zipL n (vs.map (·.ty))) vs = (zipN n (vs.map .lf), [])
  | _, [] => rfl
  | n, v :: r => by
    simp only [List.map_cons, lfState.zipL, zipN, fillE]
    show _ = _
    have : fillA (AV.lf v.ty) (v :: r) = (AV.lf v, r) := rfl
    rw [this, fill_lf (n + 1) r]
theorem fill_lfState (vs : List L) : fill (lfState (vs.map (·.ty))) vs = ⟨zipN 0 (vs.map .lf), [], []⟩ := by
  unfold fill
  simp only [lfState, fill_lf, fillR]
theorem zipL_len : ∀ (n : Nat) (ts : List Ty), (lfState.zipL n ts).length = ts.length
  | _, [] => rfl
  | n, t :: r => by simp only [lfState.zipL, List.length_cons, zipL_len (n + 1) r]
theorem FnOk.leaf {φ : FnP} {f : FuncId} {sg : Sig} {con : Con} {ts : List Ty} (h : FnOk P I φ f sg con) (h0 : sg.alt = none) (hins : sg.ins = lfState ts) (hk : sg.keep = []) : ∀ x r, con.F x = some r → ∀ vs, (tupL vs).as con.A = some x → vs.map (·.ty) = ts →
    ∀ (w : World) (F : Nat → Prop) (us : Array Value), GlobW I w → (∀ b, F b → b < w.heap.size) → us.size = vs.length →
    (∀ (j : Nat) v, vs[j]? = some v → ∃ u, us[j]? = some u ∧ RepT P w F (trL I φ v) u) →
    Calls P f us w fun e w' => ∃ u, e = .returned u ∧ ∃ g' rs, (∀ c : List (Nat × Con), @untup L (semL c) (leafs sg.out).length ⟨con.B, r⟩ = some rs) ∧ Inv P I φ (callBase w F) (fill sg.out rs) g' w' ∧ ResRep P I φ sg.many [] (fill sg.out rs) g' w' u := by
  intro x r hF vs hx hty w F us hgw hFw hus hrep
  subst hty
  have hlf : leafs sg.ins = vs.map (·.ty) := by
    rw [hins]
    have : ∀ (n : Nat) (ts : List Ty), leafs.go1 (lfState.zipL n ts) = ts := by
      intro n ts
      induction ts generalizing n with
      | nil => rfl
      | cons t r ih => simp only [lfState.zipL, leafs.go1, leafsA, ih]; rfl
    show leafs.go1 (lfState.zipL 0 (vs.map (·.ty))) ++ leafs.go2 [] = _
    rw [this]; simp [leafs.go2]
  have hf : fill sg.ins vs = ⟨zipN 0 (vs.map .lf), [], []⟩ := by rw [hins]; exact fill_lfState vs
  refine (h.run x r hF vs hx hlf.symm (callBase w F) w ⟨F, fun _ _ => False, fun _ => 0, fun _ _ => undef⟩ us (by rw [hf]; exact inv_none hFw hgw _) (by rw [hus, hins]; simp [lfState, zipL_len]) (fun j y hy => ?_)).mono fun e w' ⟨u, he, hp⟩ => by
    obtain ⟨g', rs, h1, h2, h3, _⟩ := Post.to0 h0 hp
    exact ⟨u, he, g', rs, h1, h2, by rw [hk] at h3; exact h3⟩
  rw [hf] at hy ⊢
  simp only [zipN_get, Nat.zero_le, if_true, Nat.sub_zero, List.getElem?_map, Option.map_eq_some_iff] at hy
  obtain ⟨v, hv, rfl⟩ := hy
  obtain ⟨u, hu, hr⟩ := hrep j v hv
  exact ⟨u, hu, .lf _ _ hr⟩
theorem fnVal {f : FuncId} {sg : Sig} {con : Con} {ts : List Ty} (h : FnOk P I (phi P I) f sg con) (hA : con.A.fnf = true) (hB : con.B.fnf = true) (hin : sg.ins = lfState ts) (hk : sg.keep = []) (hta : tupTy ts = con.A) (hfy : fieldyT ts = true)
    (hm : sg.many = false) (ho : sg.out = ⟨[(0, .lf con.B)], [], []⟩) (h0 : sg.alt = none) :
    ∀ w F, (phi P I con.A con.B con.F).p w F (.func (.func f) #[] #[]) := by
  intro w F
  refine ⟨hA, hB, f, rfl, h.fn, fun a r hF vs hx hvy w Fr us hgw hFr hus hrep => ?_⟩
  have hty : (tupL vs).ty = con.A := by have := as_some hx; rw [this]
  have hts : vs.map (·.ty) = ts := tupTy_inj (fieldyT_of hvy) hfy (by rw [← tupL_ty, hty, hta])
  refine (h.leaf h0 hin hk a r hF vs hx hts w Fr us hgw hFr hus fun j v hv => ?_).mono fun e w' ⟨u, he, g', rs, hrs, hinv, hres⟩ => ?_
  · obtain ⟨u, hu, hr⟩ := hrep j v hv
    refine ⟨u, hu, ?_⟩
    rw [← trL_fnf (φ := phi0) (φ' := phi P I) (tupL_fnf vs (by rw [hty]; exact hA) v (List.mem_of_getElem? hv))]
    exact hr
  · subst he
    have hrs := hrs []
    rw [ho] at hrs hinv hres
    have hrs : some [(⟨con.B, r⟩ : L)] = some rs := hrs
    simp only [Option.some.injEq] at hrs
    subst hrs
    rw [hm] at hres
    have hu := arep_lf (hres (.lf ⟨con.B, r⟩) rfl)
    refine ⟨u, rfl, g'.F, ⟨hinv.k.os, hinv.k.tape, hinv.k.output, hinv.k.size, fun b hb => hinv.k.block b hb (fun h => h), hinv.k.F, fun b hb => ?_⟩, ?_⟩
    · rcases hinv.k.F' b hb with h | h | h
      · exact .inl h
      · exact h.elim
      · exact .inr ⟨h, hinv.f b hb⟩
    · rw [trL_fnf (φ := phi0) (φ' := phi P I) (v := ⟨con.B, r⟩) hB]
      exact hu
theorem TabOk.tt {T : List (Nat × TI)} (h : tabOk P I ⟨T, [], []⟩ = true) : ∀ tb : Tabs, tb.tt = T → TabOk P I tb := fun tb e t i hg => (TabOk.of h) t i (by rw [e] at hg; exact hg)
theorem fnOk2 {f : FuncId} {fn : Func} {q : Fun} {sg : Sig} (hmix : P.follows .mixedOrders = true) (hfn : P.funcs[f]? = some fn) (hbody : fn.body = some q.code) (hres : fn.results.toList ++ q.keep.map .tmp = q.res)
    (hins : sg.ins = q.ins) (hts : leafs q.ins = q.ts) (hout : sg.out = q.H.fin.sh) (halt : sg.alt = q.H.fin2.map (·.sh)) (hkeep : sg.keep = q.keep) (hmany : sg.many = decide (fn.results.toList.length ≠ 1)) (hB : q.B = altTy q.H.fin.sh (q.H.fin2.map (·.sh))) (hchk : funChk fn q = true) (hT : TabOk P I q.tb)
    (hf : FnsOk (phi P I) q.cs) (hC : CallsOk P I (phi P I) q.cs q.tb) (hL : LoopsL q.cs q.ls q.tb q.H q.fin q.B q.code)
    (hrun : ∀ x : (tupTy q.ts).den, q.run (fill q.ins (unT q.ts x)) = q.F x) : FnOk P I (phi P I) f sg q.con := by
  unfold funChk at hchk
  simp only [Bool.and_eq_true, beq_iff_eq] at hchk
  obtain ⟨h1, h2, h3, h4, h6, h5⟩ := hchk
  refine fnOk hfn (by simpa using h1) hbody hres hins hts hout halt hkeep hmany hB hT hf hC (fun β pins => drawOk hmix hT hf hC) ?_ h2 h3 (Nat.le_of_ble_eq_true h4) h6 hrun
  intro body hb lh lc hlh hlc
  obtain ⟨Fn, hF⟩ := hL _ lc hlc
  obtain ⟨b', hb'⟩ := findLoop_some hb
  obtain ⟨h7, h8⟩ := findLoop_mem hb'
  have : b' = body := nodupN_inj codeKey h5 b' h7 body hb h8
  subst this
  have e1 : lhAt q.H (codeKey b') = lh := by unfold lhAt; rw [hlh]
  have e2 : codeAt (codeKey b') q.code = b' := by unfold codeAt; rw [hb']
  rw [e1, e2] at hF
  exact ⟨Fn, hF⟩
end Go.Y
namespace Go.Y
structure BF (P : Program) (I : Ids) where
  k : Nat
  sg : Sig
  A : Ty
  B : Ty
  F : Nat → A.den → Option B.den
  ok : ∀ N, FnOk P I (phi P I) (fnOf k) sg ⟨A, B, F N⟩
structure VB (P : Program) (I : Ids) where
  b : BF P I
  ok : ∀ N w F, (phi P I b.A b.B (b.F N)).p w F (.func (.func b.k) #[] #[])
variable {P : Program} {I : Ids}
def BF.con (b : BF P I) (N : Nat) : Con := ⟨b.A, b.B, b.F N⟩
def BF.of (k : Nat) (sg : Sig) (con : Con) (ok : FnOk P I (phi P I) (fnOf k) sg con) : BF P I := ⟨k, sg, con.A, con.B, fun _ => con.F, fun _ => ok⟩
def VB.of (b : BF P I) (ts : List Ty) (hA : b.A.fnf = true) (hB : b.B.fnf = true) (hin : b.sg.ins = lfState ts) (hk : b.sg.keep = []) (hta : tupTy ts = b.A) (hfy : fieldyT ts = true)
    (hm : b.sg.many = false) (ho : b.sg.out = ⟨[(0, .lf b.B)], [], []⟩) (h0 : b.sg.alt = none) (hlt : Nat.blt b.k 100000 = true) : VB P I := ⟨b, fun N => fnVal (by have := b.ok N; rw [fnOf_lt hlt] at this; exact this) hA hB hin hk hta hfy hm ho h0⟩
def sigsOf : List (BF P I) → List (Nat × Sig)
  | [] => []
  | b :: r => (b.k, b.sg) :: sigsOf r
def valsOf (N : Nat) : List (VB P I) → List (Nat × Con)
  | [] => []
  | v :: r => (1000000 + v.b.k, v.b.con N) :: valsOf N r
def csOf (N : Nat) (vs : List (VB P I)) : List (BF P I) → List (Nat × Con)
  | [] => valsOf N vs
  | b :: r => (b.k, b.con N) :: csOf N vs r
def keysLtB : List (BF P I) → Bool
  | [] => true
  | b :: r => Nat.blt b.k 1000000 && keysLtB r
theorem valsOf_get {N : Nat} : ∀ {vs : List (VB P I)} {k : Nat} {c : Con}, get (valsOf N vs) k = some c → ∃ v ∈ vs, k = 1000000 + v.b.k ∧ c = v.b.con N
  | [], k, c, h => (get_nilE h).elim
  | v :: r, k, c, h => by
    rcases get_consE h with ⟨h1, h2⟩ | h
    · exact ⟨v, by simp, h1, h2⟩
    · obtain ⟨v', h1, h2⟩ := valsOf_get h
      exact ⟨v', by simp [h1], h2⟩
theorem csOf_get {N : Nat} {vs : List (VB P I)} : ∀ {bs : List (BF P I)} {k : Nat} {c : Con}, get (csOf N vs bs) k = some c → (∃ b ∈ bs, k = b.k) ∨ ∃ v ∈ vs, k = 1000000 + v.b.k ∧ c = v.b.con N
  | [], k, c, h => .inr (valsOf_get h)
  | b :: r, k, c, h => by
    rcases get_consE h with ⟨h1, h2⟩ | h
    · exact .inl ⟨b, by simp, h1⟩
    · rcases csOf_get h with ⟨b', h1, h2⟩ | h
      · exact .inl ⟨b', by simp [h1], h2⟩
      · exact .inr h
theorem keysLtB_ok : ∀ {bs : List (BF P I)}, keysLtB bs = true → ∀ b ∈ bs, b.k < 1000000
  | [], _, b, hb => by cases hb
  | c :: r, h, b, hb => by
    simp only [keysLtB, Bool.and_eq_true] at h
    rcases List.mem_cons.1 hb with rfl | hb
    · have := h.1; rwa [Nat.blt_eq] at this
    · exact keysLtB_ok h.2 b hb
theorem csOf_fns {N : Nat} {vs : List (VB P I)} {bs : List (BF P I)} (h : keysLtB bs = true) : FnsOk (phi P I) (csOf N vs bs) := fun f c hg => by
  rcases csOf_get hg with ⟨b, hb, hk⟩ | ⟨v, _, hk, rfl⟩
  · have := keysLtB_ok h b hb
    omega
  · obtain rfl : f = v.b.k := by omega
    exact v.ok N
theorem csOf_calls {N : Nat} {vs : List (VB P I)} {TT : List (Nat × TI)} {lf : List Nat} : ∀ {bs : List (BF P I)}, CallsOk P I (phi P I) (csOf N vs bs) ⟨TT, sigsOf bs, lf⟩
  | [], k, sg, con, h1, h2 => (get_nilE h1).elim
  | b :: r, k, sg, con, h1, h2 => by
    have h1 : get ((b.k, b.sg) :: sigsOf r) k = some sg := h1
    have h2 : get ((b.k, b.con N) :: csOf N vs r) k = some con := h2
    rw [get_cons] at h1 h2
    by_cases hk : b.k = k
    · rw [if_pos hk] at h1 h2
      obtain rfl := Option.some.inj h1
      obtain rfl := Option.some.inj h2
      subst hk
      exact b.ok N
    · rw [if_neg hk] at h1 h2
      exact csOf_calls (TT := TT) (lf := lf) (bs := r) k sg con h1 h2
structure LB (ρ : Type) where
  key : Nat
  tl : List Ty
  tyl : List Ty
  G : Nat → Nat → (tupTy tl).den → List (L → Option ρ) → Option ρ
def lsOf {ρ : Type} (N : Nat) : List (LB ρ) → List (Nat × LoopC ρ)
  | [] => []
  | l :: r => (l.key, ⟨tupTy l.tl, lenK l.tyl.length (l.G N N)⟩) :: lsOf N r
structure FD (P : Program) (I : Ids) where
  f : Nat
  fn : Func
  bs : List (BF P I)
  vs : List (VB P I)
  TT : List (Nat × TI)
  lf : List Nat
  H : Hints
  ins : St Ty
  keep : List Nat
  jh : JH
  ts : List Ty
  B : Ty
  F : Nat → (tupTy ts).den → Option B.den
  ls : List (LB B.den)
def FD.code (q : FD P I) : Code := match q.fn.body with | some c => c | none => .skip
def FD.fun (q : FD P I) (N : Nat) : Fun := ⟨q.ts, q.ins, q.keep, ⟨q.TT, sigsOf q.bs, q.lf⟩, q.H, csOf N q.vs q.bs, q.B, q.F N, q.code, q.fn.results.toList ++ q.keep.map .tmp, lsOf N q.ls⟩
def FD.sg (q : FD P I) : Sig := ⟨q.ins, q.H.fin.sh, !Nat.beq q.fn.results.toList.length 1, q.keep, q.jh, q.H.fin2.map (·.sh)⟩
def FD.chk (q : FD P I) (N : Nat) : Bool :=
  q.fn.body.isSome && (decide (leafs q.ins = q.ts) && (decide (q.B = altTy q.H.fin.sh (q.H.fin2.map (·.sh))) && (keysLtB q.bs && funChk q.fn (q.fun N))))
inductive Rounds (q : FD P I) (N : Nat) : List (LB q.B.den) → Prop
  | nil : Rounds q N []
  | cons {l : LB q.B.den} {r : List (LB q.B.den)} (h : RoundOk (ρ := q.B.den) (q.fun N).cs (q.fun N).ls (q.fun N).tb (q.fun N).H (q.fun N).fin (q.fun N).B (lhAt (q.fun N).H l.key) (codeAt l.key (q.fun N).code) l.tl l.tyl (l.G N)) (t : Rounds q N r) : Rounds q N (l :: r)
theorem Rounds.loops {q : FD P I} {N : Nat} : ∀ {ls : List (LB q.B.den)}, Rounds q N ls → ∀ key lc, get (lsOf N ls) key = some lc → ∃ Fn, LoopOk (q.fun N).cs (q.fun N).ls (q.fun N).tb (q.fun N).H (q.fun N).fin (q.fun N).B lc (lhAt (q.fun N).H key) (codeAt key (q.fun N).code) Fn
  | [], _, key, lc, h => (get_nilE h).elim
  | l :: r, .cons h0 t, key, lc, h => by
    rcases get_consE h with ⟨rfl, rfl⟩ | h
    · exact ⟨_, loopOk h0⟩
    · exact Rounds.loops t key lc h
def FD.bf (q : FD P I) (hmix : P.follows .mixedOrders = true) (hfn : P.funcs[fnOf q.f]? = some q.fn) (hT : ∀ tb : Tabs, tb.tt = q.TT → TabOk P I tb) (hchk : ∀ N, q.chk N = true)
    (hrun : ∀ N (x : (tupTy q.ts).den), (q.fun N).run (fill q.ins (unT q.ts x)) = q.F N x) (hL : ∀ N, Rounds q N q.ls) : BF P I :=
  ⟨q.f, q.sg, tupTy q.ts, q.B, q.F, fun N => by
    have hc := hchk N
    unfold FD.chk at hc
    simp only [Bool.and_eq_true, decide_eq_true_eq] at hc
    obtain ⟨h1, h2, h3, h4, h5⟩ := hc
    refine fnOk2 (q := q.fun N) hmix hfn ?_ rfl rfl h2 rfl rfl rfl ?_ h3 h5 (hT _ rfl) (csOf_fns h4) csOf_calls ?_ (hrun N)
    · show q.fn.body = some q.code
      unfold FD.code
      cases hb : q.fn.body with
      | some c => rfl
      | none => rw [hb] at h1; cases h1
    · show (!Nat.beq q.fn.results.toList.length 1) = _
      by_cases h : q.fn.results.toList.length = 1
      · rw [h]; rfl
      · rw [decide_eq_true h]
        cases hb : Nat.beq q.fn.results.toList.length 1 with
        | false => rfl
        | true => exact absurd (Nat.eq_of_beq_eq_true hb) h
    · exact fun key lc h => (hL N).loops key lc h⟩
@[reducible] def ar (k j : Nat) : AV Ty := .ar ⟨k, 0, j, 0, []⟩
@[reducible] def oc (d : Nat) (t : Ty) : Cell Ty := ⟨0, .o d t⟩
@[reducible] def rs (cs : List (Cell Ty)) : Root Ty := ⟨0, none, cs⟩
def lfS (ts : List Ty) : SH := ⟨⟨List.range ts.length, [], [], []⟩, lfState ts⟩
@[reducible] def hl (ts : List Ty) : Hints := ⟨[], [], [], lfS ts, none⟩
@[reducible] def j0 : JH := ⟨[], [], [], []⟩
@[reducible] def jl (l : List Nat) : JH := ⟨l, [], [], []⟩
end Go.Y
namespace Go.Y
end Go.Y
namespace Go.Y
variable {P : Program} {I : Ids}
end Go.Y
namespace Go.Y
open Go.Eng (T RepT RepM SRep Kept Base G SameOn VRep)
def eNum : Err → Option Int
  | .nil => none
  | .no n => some n
  | .at _ e => eNum e
  | .txt _ => none
def errOk : Err → Bool
  | .nil => true
  | .no _ => true
  | .at _ e => errOk e
  | .txt _ => false
def eDep : Err → Nat
  | .at _ e => eDep e + 1
  | _ => 0
def ePath : Err → List Int
  | .at n e => n :: ePath e
  | _ => []
def eAt : Err → List Int → Err
  | .nil, _ => .nil
  | e, l => l.foldr Err.at e
structure GrownX (t : Nat) (w w' : World) : Prop where
  os : w'.os = w.os
  tape : w'.tape = w.tape
  output : w'.output = w.output
  size : w.heap.size ≤ w'.heap.size
  block : ∀ b, b < w.heap.size → b ≠ t → w'.heap[b]? = w.heap[b]?
theorem GrownX.refl (t : Nat) (w : World) : GrownX t w w := ⟨rfl, rfl, rfl, Nat.le_refl _, fun _ _ _ => rfl⟩
theorem GrownX.alloc {t : Nat} {w w' : World} (h : GrownX t w w') (o : Obj) : GrownX t w (w'.alloc o) :=
  ⟨h.os, h.tape, h.output, Nat.le_trans h.size (by simp), fun b hb ht => by
    rw [← h.block b hb ht]
    exact Go.RowKit.Below.heap_alloc w' o b (Nat.lt_of_lt_of_le hb h.size)⟩
theorem GrownX.set {t : Nat} {w w' : World} (h : GrownX t w w') (a : Addr) (v : Value) (ha : a.block = t) : GrownX t w (w'.setCell a v) :=
  ⟨h.os, h.tape, h.output, by have := h.size; simp; exact this, fun b hb ht => by
    rw [← h.block b hb ht]
    exact heap_setCell_other w' a b v (by rw [ha]; exact ht)⟩
theorem GrownX.cell {t : Nat} {w w' : World} (h : GrownX t w w') {a : Addr} {v : Value} (hc : w.cell? a = some v) (ht : a.block ≠ t) : w'.cell? a = some v := by
  rw [World.cell?_of_block (h.block a.block (World.block_lt_of_cell? w a hc) ht)]; exact hc
end Go.Y
namespace Go.Y
def errAny : Err → Bool := fun _ => true
def zKindT (e : Err) : Option Int := match errAny e with
  | true => match e with
    | .nil => some 0
    | e => match eNum e with
      | some n => some n
      | none => some 21
  | false => none
def zPathT (e : Err) : Option (List Int) := match errAny e with
  | true => match decide ((ePath e).length ≤ 17592186044416) with
    | true => some (ePath e)
    | false => none
  | false => none
def zAtT (e : Err) (l : List Int) : Option Err := match errAny e with
  | true => match decide (l.length ≤ 4611686018427387904) with
    | true => some (eAt e l)
    | false => none
  | false => none
def zAtO (e : Err) (l : List Int) : Option (Err × List Int) := match zAtT e l with
  | some r => some (r, l)
  | none => none
def zItoa (n : Int) : Option (List UInt8) := match decide (-9223372036854775808 ≤ n ∧ n ≤ 9223372036854775807) with
  | true => some (Lib.itoa n)
  | false => none
def zJoin (l : List (List UInt8)) (s : List UInt8) : Option (List UInt8) := match decide (l.length ≤ 140737488355328) with
  | true => match decide ((Lib.join l s).length ≤ 140737488355328) with
    | true => some (Lib.join l s)
    | false => none
  | false => none
end Go.Y
noncomputable section
namespace Go.Proofs.YtmdeiacjehhcoaaDoor
open Go.RowKit Go.Extern.Stop Go.Stop Go.Extern Go.Y
open Go.Eng (RepT)
def ids : Ids := ⟨29, 45, 48, 67, 69, [(⟨0, 0, none⟩, .iface 80 (.agg #[.pointer (some ⟨5, 24, none⟩)])), (⟨1, 0, none⟩, .agg (Lib.pow10Tab.map (Value.int .u64)).toArray)]⟩
theorem typeOfE (v : Value) (w : World) : (ReflectliteType.typeOf #[.iface 29 v]).run Tryd.prog w = .ok (.iface 80 (.agg #[.pointer (some ⟨5, 29, none⟩)])) w := by kernel_rfl
theorem typeOfP (v : Value) (w : World) : (ReflectliteType.typeOf #[.iface 45 v]).run Tryd.prog w = .ok (.iface 80 (.agg #[.pointer (some ⟨5, 45, none⟩)])) w := by kernel_rfl
theorem mAssign (h : Value) (w : World) : (Go.method 242 80 (.agg #[h]) "AssignableTo").run Tryd.prog w = .ok (78, .agg #[h]) w := by kernel_rfl
theorem asEE (w : World) : (ReflectliteType.relation "AssignableTo" ReflectliteType.assignableTo #[.agg #[.pointer (some ⟨5, 29, none⟩)], .iface 80 (.agg #[.pointer (some ⟨5, 29, none⟩)])]).run Tryd.prog w = .ok (.bool true) w := by kernel_rfl
theorem asPE (w : World) : (ReflectliteType.relation "AssignableTo" ReflectliteType.assignableTo #[.agg #[.pointer (some ⟨5, 45, none⟩)], .iface 80 (.agg #[.pointer (some ⟨5, 29, none⟩)])]).run Tryd.prog w = .ok (.bool false) w := by kernel_rfl
theorem asEP (w : World) : (ReflectliteType.relation "AssignableTo" ReflectliteType.assignableTo #[.agg #[.pointer (some ⟨5, 29, none⟩)], .iface 80 (.agg #[.pointer (some ⟨5, 45, none⟩)])]).run Tryd.prog w = .ok (.bool false) w := by kernel_rfl
theorem asPP (w : World) : (ReflectliteType.relation "AssignableTo" ReflectliteType.assignableTo #[.agg #[.pointer (some ⟨5, 45, none⟩)], .iface 80 (.agg #[.pointer (some ⟨5, 45, none⟩)])]).run Tryd.prog w = .ok (.bool true) w := by kernel_rfl
theorem noAsE (v : Value) (xT : TypeId) (w : World) : (Instr.typeAssert (.iface 29 v) xT 84 true).run Tryd.prog w = .ok (.tuple #[.nilIface, .bool false]) w := run_typeAssert_lacksB Tryd.underlying84 (by kernel_rfl) (by kernel_rfl) v xT w
theorem noAsP (v : Value) (xT : TypeId) (w : World) : (Instr.typeAssert (.iface 45 v) xT 84 true).run Tryd.prog w = .ok (.tuple #[.nilIface, .bool false]) w := run_typeAssert_lacksB Tryd.underlying84 (by kernel_rfl) (by kernel_rfl) v xT w
theorem noUnE (v : Value) (xT : TypeId) (w : World) : (Instr.typeAssert (.iface 29 v) xT 87 true).run Tryd.prog w = .ok (.tuple #[.nilIface, .bool false]) w := run_typeAssert_lacksB Tryd.underlying87 (by kernel_rfl) (by kernel_rfl) v xT w
theorem noUnsE (v : Value) (xT : TypeId) (w : World) : (Instr.typeAssert (.iface 29 v) xT 89 true).run Tryd.prog w = .ok (.tuple #[.nilIface, .bool false]) w := run_typeAssert_lacksB Tryd.underlying89 (by kernel_rfl) (by kernel_rfl) v xT w
theorem hasUnP (v : Value) (xT : TypeId) (w : World) : (Instr.typeAssert (.iface 45 v) xT 87 true).run Tryd.prog w = .ok (.tuple #[.iface 45 v, .bool true]) w := run_typeAssert_hasB Tryd.underlying87 (by kernel_rfl) v xT w
theorem mUnwrap (v : Value) (w : World) : (Go.method 242 45 v "Unwrap").run Tryd.prog w = .ok (71, v) w := by kernel_rfl
theorem valueOfE (n : Int) (w : World) : (ReflectliteValue.unpack (.iface 29 (.int .i64 n))).run Tryd.prog w
    = .ok (.agg #[.pointer (some ⟨5, 29, none⟩), .pointer (some ⟨w.heap.size, 0, none⟩), .int .u64 130]) (w.alloc (.cells #[.int .i64 n] 29)) := by kernel_rfl
theorem valueOfP (e : Addr) (w : World) : (ReflectliteValue.unpack (.iface 45 (.pointer (some e)))).run Tryd.prog w
    = .ok (.agg #[.pointer (some ⟨5, 45, none⟩), .pointer (some ⟨w.heap.size, 0, none⟩), .int .u64 150]) (w.alloc (.cells #[.pointer (some e)] 45)) := by kernel_rfl
theorem mKind (h : Value) (w : World) : (Go.method 242 80 (.agg #[h]) "Kind").run Tryd.prog w = .ok (67, h) w := by kernel_rfl
theorem mElem (h : Value) (w : World) : (Go.method 242 80 (.agg #[h]) "Elem").run Tryd.prog w = .ok (80, .agg #[h]) w := by kernel_rfl
theorem mImpl (h : Value) (w : World) : (Go.method 242 80 (.agg #[h]) "Implements").run Tryd.prog w = .ok (81, .agg #[h]) w := by kernel_rfl
theorem kindEt (w : World) : ((ReflectliteType.abiMethod fun t => (fun a : Nat => Value.int IntKind.u8 (a : Int)) <$> Rtype.kind t) #[.pointer (some ⟨5, 29, none⟩)]).run Tryd.prog w = .ok (.int .u8 2) w := by kernel_rfl
theorem kindPt (w : World) : ((ReflectliteType.abiMethod fun t => (fun a : Nat => Value.int IntKind.u8 (a : Int)) <$> Rtype.kind t) #[.pointer (some ⟨5, 45, none⟩)]).run Tryd.prog w = .ok (.int .u8 22) w := by kernel_rfl
theorem implE (w : World) : (ReflectliteType.relation "Implements" ReflectliteType.implements_ #[.agg #[.pointer (some ⟨5, 29, none⟩)], .iface 80 (.agg #[.pointer (some ⟨5, 24, none⟩)])]).run Tryd.prog w = .ok (.bool true) w := by kernel_rfl
theorem implP (w : World) : (ReflectliteType.relation "Implements" ReflectliteType.implements_ #[.agg #[.pointer (some ⟨5, 45, none⟩)], .iface 80 (.agg #[.pointer (some ⟨5, 24, none⟩)])]).run Tryd.prog w = .ok (.bool true) w := by kernel_rfl
theorem rlm (z : Sem Value) (f : TypeId → Addr → Nat → Nat → Sem Value) (v : Value) :
    ReflectliteValue.method z f #[v] = (do match ← ReflectliteValue.parts v with | none => z | some (t, a, fl) => f t a fl (fl % 32)) := rfl
theorem rls (v x : Value) : ReflectliteValue.set #[v, x] = (do
    let (some (dst, a, fl), some (src, b, _)) := (← ReflectliteValue.parts v, ← ReflectliteValue.parts x)
      | unsupported (.noEntry "extern/(internal/reflectlite.Value).Set.zeroValue")
    if fl / ReflectliteValue.flagAddr % 2 == 0 then unsupported (.noEntry "extern/(internal/reflectlite.Value).Set.unaddressable")
    let val ← loadVar src b
    if ← Rtype.directlyAssignable dst src then storeVar dst a val
    else if ← Rtype.implements dst src then
      if (← Rtype.kind src) == 20 then
        match val with
        | .nilIface => unsupported (.noEntry "extern/reflectlite: a nil value of one interface type handed on as a value of another")
        | _ => storeVar dst a val
      else storeVar dst a (.iface src val)
    else panicString ("reflectlite.Set: value of type " ++ (← Rtype.spelt src) ++ " is not assignable to type " ++ (← Rtype.spelt dst))
    pure (.tuple #[])) := rfl
theorem rep_at {w : World} {F : Nat → Prop} {n : Int} {e : Err} {v : Value} (h : RepT Tryd.prog w F (trE ids (.at n e)) v) :
    ∃ pb po u, v = .iface 45 (.pointer (some ⟨pb, po, none⟩)) ∧ F pb ∧ w.cell? ⟨pb, po, none⟩ = some (.int .i64 n) ∧ w.cell? ⟨pb, po + 1, none⟩ = some u ∧ RepT Tryd.prog w F (trE ids e) u := by
  cases h with
  | ifc _ _ v h =>
    cases h with
    | p _ _ b off us hF hs hc hr =>
      refine ⟨b, off, us 1, rfl, hF, ?_, hc 1 _ rfl, hr 1 _ rfl⟩
      have h0 := hc 0 _ rfl
      have h1 := hr 0 _ rfl
      generalize us 0 = u0 at h0 h1
      cases h1
      exact h0
theorem rep_no {w : World} {F : Nat → Prop} {n : Int} {v : Value} (h : RepT Tryd.prog w F (trE ids (.no n)) v) : v = .iface 29 (.int .i64 n) := by
  cases h with
  | ifc _ _ v h => cases h; rfl
theorem rep_nil {w : World} {F : Nat → Prop} {v : Value} (h : RepT Tryd.prog w F (trE ids .nil) v) : v = .nilIface := by cases h; rfl
theorem typeOfS (v : Value) (w : World) : (ReflectliteType.typeOf #[.iface 67 v]).run Tryd.prog w = .ok (.iface 80 (.agg #[.pointer (some ⟨5, 67, none⟩)])) w := by kernel_rfl
theorem asSE (w : World) : (ReflectliteType.relation "AssignableTo" ReflectliteType.assignableTo #[.agg #[.pointer (some ⟨5, 67, none⟩)], .iface 80 (.agg #[.pointer (some ⟨5, 29, none⟩)])]).run Tryd.prog w = .ok (.bool false) w := by kernel_rfl
theorem asSP (w : World) : (ReflectliteType.relation "AssignableTo" ReflectliteType.assignableTo #[.agg #[.pointer (some ⟨5, 67, none⟩)], .iface 80 (.agg #[.pointer (some ⟨5, 45, none⟩)])]).run Tryd.prog w = .ok (.bool false) w := by kernel_rfl
theorem noAsS (v : Value) (xT : TypeId) (w : World) : (Instr.typeAssert (.iface 67 v) xT 84 true).run Tryd.prog w = .ok (.tuple #[.nilIface, .bool false]) w := run_typeAssert_lacksB Tryd.underlying84 (by kernel_rfl) (by kernel_rfl) v xT w
theorem noUnS (v : Value) (xT : TypeId) (w : World) : (Instr.typeAssert (.iface 67 v) xT 87 true).run Tryd.prog w = .ok (.tuple #[.nilIface, .bool false]) w := run_typeAssert_lacksB Tryd.underlying87 (by kernel_rfl) (by kernel_rfl) v xT w
theorem noUnsS (v : Value) (xT : TypeId) (w : World) : (Instr.typeAssert (.iface 67 v) xT 89 true).run Tryd.prog w = .ok (.tuple #[.nilIface, .bool false]) w := run_typeAssert_lacksB Tryd.underlying89 (by kernel_rfl) (by kernel_rfl) v xT w
theorem rep_txt {w : World} {F : Nat → Prop} {s : List UInt8} {v : Value} (h : RepT Tryd.prog w F (trE ids (.txt s)) v) : ∃ a, v = .iface 67 (.pointer (some a)) := by
  cases h with
  | ifc _ _ v h =>
    cases h with
    | p _ _ b off us hF hs hc hr => exact ⟨_, rfl⟩
theorem rep_head {w : World} {F : Nat → Prop} {e : Err} {v : Value} (he : errAny e = true) (h : RepT Tryd.prog w F (trE ids e) v) : v = .nilIface ∧ e = .nil ∨ ∃ t x, v = .iface t x ∧ e ≠ .nil := by
  cases e with
  | nil => exact .inl ⟨rep_nil h, rfl⟩
  | no n => exact .inr ⟨_, _, rep_no h, fun e => by cases e⟩
  | txt s => obtain ⟨a, rfl⟩ := rep_txt h; exact .inr ⟨_, _, rfl, fun e => by cases e⟩
  | «at» n e => obtain ⟨pb, po, u, rfl, _⟩ := rep_at h; exact .inr ⟨_, _, rfl, fun e => by cases e⟩
theorem valueOfE_ (t : Addr) (w : World) : (ReflectliteValue.unpack (.iface 39 (.pointer (some t)))).run Tryd.prog w
    = .ok (.agg #[.pointer (some ⟨5, 39, none⟩), .pointer (some ⟨w.heap.size, 0, none⟩), .int .u64 150]) (w.alloc (.cells #[.pointer (some t)] 39)) := by kernel_rfl
theorem typeE_ (a : Addr) (w : World) : (ReflectliteValue.methodAny (ReflectliteValue.valueError "reflectlite.Value.Type" 0) (fun t _ _ _ => ReflectliteType.toType t) #[.agg #[.pointer (some ⟨5, 39, none⟩), .pointer (some a), .int .u64 150]]).run Tryd.prog w
    = .ok (.iface 80 (.agg #[.pointer (some ⟨5, 39, none⟩)])) w := by kernel_rfl
theorem kindE_ (w : World) : ((ReflectliteType.abiMethod fun t => (fun a : Nat => Value.int IntKind.u8 (a : Int)) <$> Rtype.kind t) #[.pointer (some ⟨5, 39, none⟩)]).run Tryd.prog w = .ok (.int .u8 22) w := by kernel_rfl
theorem elemTE_ (w : World) : (ReflectliteType.method ReflectliteType.elem #[.agg #[.pointer (some ⟨5, 39, none⟩)]]).run Tryd.prog w = .ok (.iface 80 (.agg #[.pointer (some ⟨5, 29, none⟩)])) w := by kernel_rfl
theorem partsE_ (a : Addr) (w : World) : (ReflectliteValue.parts (.agg #[.pointer (some ⟨5, 39, none⟩), .pointer (some a), .int .u64 150])).run Tryd.prog w = .ok (some (39, a, 150)) w := by kernel_rfl
theorem elemOfE_ (w : World) : (Rtype.elem? 39).run Tryd.prog w = .ok (some 29) w := by kernel_rfl
theorem mkE_ (p : Addr) (w : World) : (ReflectliteValue.mk 29 p ReflectliteValue.flagAddr).run Tryd.prog w = .ok (.agg #[.pointer (some ⟨5, 29, none⟩), .pointer (some p), .int .u64 386]) w := by kernel_rfl
theorem elemVE (a p : Addr) (W : World) (ha : W.cell? a = some (.pointer (some p))) :
    (ReflectliteValue.method (ReflectliteValue.valueError "reflectlite.Value.Elem" 0) ReflectliteValue.elem #[.agg #[.pointer (some ⟨5, 39, none⟩), .pointer (some a), .int .u64 150]]).run Tryd.prog W
      = .ok (.agg #[.pointer (some ⟨5, 29, none⟩), .pointer (some p), .int .u64 386]) W := by
  rw [rlm]
  simp only [Sem.run_bind, partsE_, Result.andThen]
  simp [ReflectliteValue.elem, loadVar, isAgg, underlying, Tryd.underlying39, ha, Result.andThen, elemOfE_, mkE_]
theorem isNilE (a p : Addr) (W : World) (ha : W.cell? a = some (.pointer (some p))) :
    (ReflectliteValue.method (ReflectliteValue.valueError "reflectlite.Value.IsNil" 0) ReflectliteValue.isNil #[.agg #[.pointer (some ⟨5, 39, none⟩), .pointer (some a), .int .u64 150]]).run Tryd.prog W = .ok (.bool false) W := by
  rw [rlm]
  simp only [Sem.run_bind, partsE_, Result.andThen]
  simp [ReflectliteValue.isNil, loadVar, isAgg, underlying, Tryd.underlying39, ha, Result.andThen]
theorem partsAE (a : Addr) (w : World) : (ReflectliteValue.parts (.agg #[.pointer (some ⟨5, 29, none⟩), .pointer (some a), .int .u64 386])).run Tryd.prog w = .ok (some (29, a, 386)) w := by kernel_rfl
theorem partsVE (a : Addr) (w : World) : (ReflectliteValue.parts (.agg #[.pointer (some ⟨5, 29, none⟩), .pointer (some a), .int .u64 130])).run Tryd.prog w = .ok (some (29, a, 130)) w := by kernel_rfl
theorem directE (w : World) : (Rtype.directlyAssignable 29 29).run Tryd.prog w = .ok true w := by kernel_rfl
theorem sizeE (w : World) : (sizeOf 29).run Tryd.prog w = .ok 1 w := by kernel_rfl
theorem setE (ta b : Addr) (n : Int) (old : Value) (W : World) (hb : W.cell? b = some (.int .i64 n)) (ht : W.cell? ta = some old) (hf : W.frozen? ta = false) :
    (ReflectliteValue.set #[.agg #[.pointer (some ⟨5, 29, none⟩), .pointer (some ta), .int .u64 386], .agg #[.pointer (some ⟨5, 29, none⟩), .pointer (some b), .int .u64 130]]).run Tryd.prog W
      = .ok (.tuple #[]) (W.setCell ta (.int .i64 n)) := by
  rw [rls]
  simp only [Sem.run_bind, partsAE, partsVE, Result.andThen]
  simp [ReflectliteValue.flagAddr, loadVar, isAgg, underlying, Tryd.underlying29, hb, Result.andThen, directE, storeVar, sizeE, Value.cells, storeCells, Addr.add]
  rw [run_store Tryd.prog W ta _ _ (by rfl)]
  simp [ht, hf]
theorem valueOfP_ (t : Addr) (w : World) : (ReflectliteValue.unpack (.iface 46 (.pointer (some t)))).run Tryd.prog w
    = .ok (.agg #[.pointer (some ⟨5, 46, none⟩), .pointer (some ⟨w.heap.size, 0, none⟩), .int .u64 150]) (w.alloc (.cells #[.pointer (some t)] 46)) := by kernel_rfl
theorem typeP_ (a : Addr) (w : World) : (ReflectliteValue.methodAny (ReflectliteValue.valueError "reflectlite.Value.Type" 0) (fun t _ _ _ => ReflectliteType.toType t) #[.agg #[.pointer (some ⟨5, 46, none⟩), .pointer (some a), .int .u64 150]]).run Tryd.prog w
    = .ok (.iface 80 (.agg #[.pointer (some ⟨5, 46, none⟩)])) w := by kernel_rfl
theorem kindP_ (w : World) : ((ReflectliteType.abiMethod fun t => (fun a : Nat => Value.int IntKind.u8 (a : Int)) <$> Rtype.kind t) #[.pointer (some ⟨5, 46, none⟩)]).run Tryd.prog w = .ok (.int .u8 22) w := by kernel_rfl
theorem elemTP_ (w : World) : (ReflectliteType.method ReflectliteType.elem #[.agg #[.pointer (some ⟨5, 46, none⟩)]]).run Tryd.prog w = .ok (.iface 80 (.agg #[.pointer (some ⟨5, 45, none⟩)])) w := by kernel_rfl
theorem partsP_ (a : Addr) (w : World) : (ReflectliteValue.parts (.agg #[.pointer (some ⟨5, 46, none⟩), .pointer (some a), .int .u64 150])).run Tryd.prog w = .ok (some (46, a, 150)) w := by kernel_rfl
theorem elemOfP_ (w : World) : (Rtype.elem? 46).run Tryd.prog w = .ok (some 45) w := by kernel_rfl
theorem mkP_ (p : Addr) (w : World) : (ReflectliteValue.mk 45 p ReflectliteValue.flagAddr).run Tryd.prog w = .ok (.agg #[.pointer (some ⟨5, 45, none⟩), .pointer (some p), .int .u64 406]) w := by kernel_rfl
theorem elemVP (a p : Addr) (W : World) (ha : W.cell? a = some (.pointer (some p))) :
    (ReflectliteValue.method (ReflectliteValue.valueError "reflectlite.Value.Elem" 0) ReflectliteValue.elem #[.agg #[.pointer (some ⟨5, 46, none⟩), .pointer (some a), .int .u64 150]]).run Tryd.prog W
      = .ok (.agg #[.pointer (some ⟨5, 45, none⟩), .pointer (some p), .int .u64 406]) W := by
  rw [rlm]
  simp only [Sem.run_bind, partsP_, Result.andThen]
  simp [ReflectliteValue.elem, loadVar, isAgg, underlying, Tryd.underlying46, ha, Result.andThen, elemOfP_, mkP_]
theorem isNilP (a p : Addr) (W : World) (ha : W.cell? a = some (.pointer (some p))) :
    (ReflectliteValue.method (ReflectliteValue.valueError "reflectlite.Value.IsNil" 0) ReflectliteValue.isNil #[.agg #[.pointer (some ⟨5, 46, none⟩), .pointer (some a), .int .u64 150]]).run Tryd.prog W = .ok (.bool false) W := by
  rw [rlm]
  simp only [Sem.run_bind, partsP_, Result.andThen]
  simp [ReflectliteValue.isNil, loadVar, isAgg, underlying, Tryd.underlying46, ha, Result.andThen]
theorem partsAP (a : Addr) (w : World) : (ReflectliteValue.parts (.agg #[.pointer (some ⟨5, 45, none⟩), .pointer (some a), .int .u64 406])).run Tryd.prog w = .ok (some (45, a, 406)) w := by kernel_rfl
theorem partsVP (a : Addr) (w : World) : (ReflectliteValue.parts (.agg #[.pointer (some ⟨5, 45, none⟩), .pointer (some a), .int .u64 150])).run Tryd.prog w = .ok (some (45, a, 150)) w := by kernel_rfl
theorem directP (w : World) : (Rtype.directlyAssignable 45 45).run Tryd.prog w = .ok true w := by kernel_rfl
theorem sizeP (w : World) : (sizeOf 45).run Tryd.prog w = .ok 1 w := by kernel_rfl
theorem setP (ta b : Addr) (n : Addr) (old : Value) (W : World) (hb : W.cell? b = some (.pointer (some n))) (ht : W.cell? ta = some old) (hf : W.frozen? ta = false) :
    (ReflectliteValue.set #[.agg #[.pointer (some ⟨5, 45, none⟩), .pointer (some ta), .int .u64 406], .agg #[.pointer (some ⟨5, 45, none⟩), .pointer (some b), .int .u64 150]]).run Tryd.prog W
      = .ok (.tuple #[]) (W.setCell ta (.pointer (some n))) := by
  rw [rls]
  simp only [Sem.run_bind, partsAP, partsVP, Result.andThen]
  simp [ReflectliteValue.flagAddr, loadVar, isAgg, underlying, Tryd.underlying45, hb, Result.andThen, directP, storeVar, sizeP, Value.cells, storeCells, Addr.add]
  rw [run_store Tryd.prog W ta _ _ (by rfl)]
  simp [ht, hf]
set_option maxHeartbeats 40000000 in
theorem as_hit (n : Int) (w0 : World) (F : Nat → Prop) (t a : Addr) (old : Value) (ha : w0.cell? a = some (.pointer (some t))) (ht : w0.cell? t = some old) (hf : w0.frozen? t = false)
    (e : Err) (v : Value) (he : errAny e = true) (hnil : e ≠ .nil) (hprem : eNum e = some n) (hv : RepT Tryd.prog w0 F (trE ids e) v) :
    Calls Tryd.prog 27 #[v, .iface 39 (.pointer (some t)), .agg #[.pointer (some ⟨5, 39, none⟩), .pointer (some a), .int .u64 150], .iface 80 (.agg #[.pointer (some ⟨5, 29, none⟩)])] w0 fun ev w' => ev = .returned (.bool true) ∧ w' = (((w0.alloc (.cells #[.pointer (some ⟨5, 39, none⟩), .pointer (some a), .int .u64 150] 56))).alloc (.cells #[.int .i64 n] 29)).setCell t (.int .i64 n) := by
  have hTo := @run_callFunc_extern Tryd.prog 28 _ ReflectliteType.typeOf Tryd.func28 (by kernel_rfl) (by kernel_rfl) (by kernel_rfl) (by kernel_rfl)
  have hAs := @run_callFunc_extern Tryd.prog 78 _ (ReflectliteType.relation "AssignableTo" ReflectliteType.assignableTo) Tryd.func78 (by kernel_rfl) (by kernel_rfl) (by kernel_rfl) (by kernel_rfl)
  have hVo := @run_callFunc_extern Tryd.prog 24 _ (fun args => ReflectliteValue.unpack (args.getD 0 (.tuple #[]))) Tryd.func24 (by kernel_rfl) (by kernel_rfl) (by kernel_rfl) (by kernel_rfl)
  have hVe := @run_callFunc_extern Tryd.prog 35 _ (ReflectliteValue.method (ReflectliteValue.valueError "reflectlite.Value.Elem" 0) ReflectliteValue.elem) Tryd.func35 (by kernel_rfl) (by kernel_rfl) (by kernel_rfl) (by kernel_rfl)
  have hVs := @run_callFunc_extern Tryd.prog 36 _ ReflectliteValue.set Tryd.func36 (by kernel_rfl) (by kernel_rfl) (by kernel_rfl) (by kernel_rfl)
  have tO := typeOfE
  have tP := typeOfP
  have mA := mAssign
  have a1 := asEE
  have a2 := asPE
  have a3 := asEP
  have a4 := asPP
  have nA := noAsP
  have nB := noAsE
  have nU := noUnE
  have nV := noUnsE
  have hU := hasUnP
  have mU := mUnwrap
  have vE := valueOfE
  have vP := valueOfP
  have tS := typeOfS
  have a5 := asSE
  have a6 := asSP
  have nS1 := noAsS
  have nS2 := noUnS
  have nS3 := noUnsS
  have htl : t.block < w0.heap.size := World.block_lt_of_cell? w0 t ht
  have hal : a.block < w0.heap.size := World.block_lt_of_cell? w0 a ha
  have el := elemVE a t (w0.alloc (.cells #[.pointer (some ⟨5, 39, none⟩), .pointer (some a), .int .u64 150] 56)) (by rw [World.cell?_alloc_lt _ _ a hal]; exact ha)
  have st := setE t ⟨w0.heap.size + 1, 0, none⟩ n old (((w0.alloc (.cells #[.pointer (some ⟨5, 39, none⟩), .pointer (some a), .int .u64 150] 56))).alloc (.cells #[.int .i64 n] 29))
    (by rw [World.cell?_alloc_at _ _ _ _ (by simp)]; rfl)
    (by rw [World.cell?_alloc_lt _ _ t (by simp <;> omega), World.cell?_alloc_lt _ _ t htl]; exact ht)
    (by rw [World.frozen?_alloc_old _ _ t (by simp <;> omega), World.frozen?_alloc_old _ _ t (Nat.ne_of_lt htl)]; exact hf)
  go_enter Tryd.func27, Tryd.ntmps27
  go_wp2
  refine wp_loop_rounds (eDep e + 1) ?_
  refine (?key : ∀ (e : Err), errAny e = true → e ≠ .nil → eNum e = some n → ∀ (v : Value), RepT Tryd.prog w0 F (trE ids e) v → ∀ y1 y2 y4 y5 y7 y9 y10 y11 y12 y13 y14 y15 y16 y17 y18 y19 y20 y21 y22 y23 y24 y25 y26 y27 y28 y29 y30 y31 y32 y33 y34 y35 y36 y37 y38 y39 y40 y41 y42 y43 y44 y45 y46 y47 y48 y49 y50 y51 y52 y53 y54 y55 y56 y57 y58 y59 y60 y61 : Value, Code.rounds Tryd.prog _ _ (eDep e + 1) ⟨#[v, y1, y2, .iface 80 (.agg #[.pointer (some ⟨5, 29, none⟩)]), y4, y5, .pointer (some ⟨w0.heap.size, 0, none⟩), y7, .bool false, y9, y10, y11, y12, y13, y14, y15, y16, y17, y18, y19, y20, y21, y22, y23, y24, y25, y26, y27, y28, y29, y30, y31, y32, y33, y34, y35, y36, y37, y38, y39, y40, y41, y42, y43, y44, y45, y46, y47, y48, y49, y50, y51, y52, y53, y54, y55, y56, y57, y58, y59, y60, y61], []⟩ (w0.alloc (.cells #[.pointer (some ⟨5, 39, none⟩), .pointer (some a), .int .u64 150] 56))) e he hnil hprem v hv _ _ _ _ _ _ _ _ _ _ _ _ _ _ _ _ _ _ _ _ _ _ _ _ _ _ _ _ _ _ _ _ _ _ _ _ _ _ _ _ _ _ _ _ _ _ _ _ _ _ _ _ _ _ _ _ _ _
  intro e
  induction e with
  | nil => intro _ hne; exact absurd rfl hne
  | txt s => intro _ _ hn; cases hn
  | no m =>
    intro _ _ hn v hv y1 y2 y4 y5 y7 y9 y10 y11 y12 y13 y14 y15 y16 y17 y18 y19 y20 y21 y22 y23 y24 y25 y26 y27 y28 y29 y30 y31 y32 y33 y34 y35 y36 y37 y38 y39 y40 y41 y42 y43 y44 y45 y46 y47 y48 y49 y50 y51 y52 y53 y54 y55 y56 y57 y58 y59 y60 y61
    obtain rfl : m = n := Option.some.inj hn
    obtain rfl := rep_no hv
    rw [show eDep (.no m) + 1 = 0 + 1 from rfl, rounds_succ]
    go_wp2
    go_ret
    exact ⟨rfl, rfl⟩
  | «at» m e ih =>
    intro he _ hn v hv y1 y2 y4 y5 y7 y9 y10 y11 y12 y13 y14 y15 y16 y17 y18 y19 y20 y21 y22 y23 y24 y25 y26 y27 y28 y29 y30 y31 y32 y33 y34 y35 y36 y37 y38 y39 y40 y41 y42 y43 y44 y45 y46 y47 y48 y49 y50 y51 y52 y53 y54 y55 y56 y57 y58 y59 y60 y61
    obtain ⟨pb, po, u, rfl, _, h0, h1, hu⟩ := rep_at hv
    have hpl : pb < w0.heap.size := World.block_lt_of_cell? w0 _ h1
    have h1' : (w0.alloc (.cells #[.pointer (some ⟨5, 39, none⟩), .pointer (some a), .int .u64 150] 56)).cell? ⟨pb, po + 1, none⟩ = some u := by rw [World.cell?_alloc_lt _ _ ⟨pb, po + 1, none⟩ hpl]; exact h1
    have hne : e ≠ .nil := fun h => by subst h; cases hn
    have ih := ih he hne hn u hu
    obtain ⟨tt, x, rfl⟩ : ∃ tt x, u = .iface tt x := by
      rcases rep_head (e := e) he hu with ⟨_, h⟩ | ⟨tt, x, h, _⟩
      · exact absurd h hne
      · exact ⟨tt, x, h⟩
    rw [show eDep (.at m e) + 1 = (eDep e + 1) + 1 from rfl, rounds_succ]
    go_wp2
set_option maxHeartbeats 40000000 in
theorem as_miss (w0 : World) (F : Nat → Prop) (t a : Addr) (old : Value) (ha : w0.cell? a = some (.pointer (some t))) (ht : w0.cell? t = some old) (hf : w0.frozen? t = false)
    (e : Err) (v : Value) (he : errAny e = true) (hnil : e ≠ .nil) (hprem : eNum e = none) (hv : RepT Tryd.prog w0 F (trE ids e) v) :
    Calls Tryd.prog 27 #[v, .iface 39 (.pointer (some t)), .agg #[.pointer (some ⟨5, 39, none⟩), .pointer (some a), .int .u64 150], .iface 80 (.agg #[.pointer (some ⟨5, 29, none⟩)])] w0 fun ev w' => ev = .returned (.bool false) ∧ w' = w0.alloc (.cells #[.pointer (some ⟨5, 39, none⟩), .pointer (some a), .int .u64 150] 56) := by
  have hTo := @run_callFunc_extern Tryd.prog 28 _ ReflectliteType.typeOf Tryd.func28 (by kernel_rfl) (by kernel_rfl) (by kernel_rfl) (by kernel_rfl)
  have hAs := @run_callFunc_extern Tryd.prog 78 _ (ReflectliteType.relation "AssignableTo" ReflectliteType.assignableTo) Tryd.func78 (by kernel_rfl) (by kernel_rfl) (by kernel_rfl) (by kernel_rfl)
  have hVo := @run_callFunc_extern Tryd.prog 24 _ (fun args => ReflectliteValue.unpack (args.getD 0 (.tuple #[]))) Tryd.func24 (by kernel_rfl) (by kernel_rfl) (by kernel_rfl) (by kernel_rfl)
  have hVe := @run_callFunc_extern Tryd.prog 35 _ (ReflectliteValue.method (ReflectliteValue.valueError "reflectlite.Value.Elem" 0) ReflectliteValue.elem) Tryd.func35 (by kernel_rfl) (by kernel_rfl) (by kernel_rfl) (by kernel_rfl)
  have hVs := @run_callFunc_extern Tryd.prog 36 _ ReflectliteValue.set Tryd.func36 (by kernel_rfl) (by kernel_rfl) (by kernel_rfl) (by kernel_rfl)
  have tO := typeOfE
  have tP := typeOfP
  have mA := mAssign
  have a1 := asEE
  have a2 := asPE
  have a3 := asEP
  have a4 := asPP
  have nA := noAsP
  have nB := noAsE
  have nU := noUnE
  have nV := noUnsE
  have hU := hasUnP
  have mU := mUnwrap
  have vE := valueOfE
  have vP := valueOfP
  have tS := typeOfS
  have a5 := asSE
  have a6 := asSP
  have nS1 := noAsS
  have nS2 := noUnS
  have nS3 := noUnsS
  have htl : t.block < w0.heap.size := World.block_lt_of_cell? w0 t ht
  have hal : a.block < w0.heap.size := World.block_lt_of_cell? w0 a ha
  go_enter Tryd.func27, Tryd.ntmps27
  go_wp2
  refine wp_loop_rounds (eDep e + 1) ?_
  refine (?key : ∀ (e : Err), errAny e = true → e ≠ .nil → eNum e = none → ∀ (v : Value), RepT Tryd.prog w0 F (trE ids e) v → ∀ y1 y2 y4 y5 y7 y9 y10 y11 y12 y13 y14 y15 y16 y17 y18 y19 y20 y21 y22 y23 y24 y25 y26 y27 y28 y29 y30 y31 y32 y33 y34 y35 y36 y37 y38 y39 y40 y41 y42 y43 y44 y45 y46 y47 y48 y49 y50 y51 y52 y53 y54 y55 y56 y57 y58 y59 y60 y61 : Value, Code.rounds Tryd.prog _ _ (eDep e + 1) ⟨#[v, y1, y2, .iface 80 (.agg #[.pointer (some ⟨5, 29, none⟩)]), y4, y5, .pointer (some ⟨w0.heap.size, 0, none⟩), y7, .bool false, y9, y10, y11, y12, y13, y14, y15, y16, y17, y18, y19, y20, y21, y22, y23, y24, y25, y26, y27, y28, y29, y30, y31, y32, y33, y34, y35, y36, y37, y38, y39, y40, y41, y42, y43, y44, y45, y46, y47, y48, y49, y50, y51, y52, y53, y54, y55, y56, y57, y58, y59, y60, y61], []⟩ (w0.alloc (.cells #[.pointer (some ⟨5, 39, none⟩), .pointer (some a), .int .u64 150] 56))) e he hnil hprem v hv _ _ _ _ _ _ _ _ _ _ _ _ _ _ _ _ _ _ _ _ _ _ _ _ _ _ _ _ _ _ _ _ _ _ _ _ _ _ _ _ _ _ _ _ _ _ _ _ _ _ _ _ _ _ _ _ _ _
  intro e
  induction e with
  | nil => intro _ hne; exact absurd rfl hne
  | txt s =>
    intro _ _ hn v hv y1 y2 y4 y5 y7 y9 y10 y11 y12 y13 y14 y15 y16 y17 y18 y19 y20 y21 y22 y23 y24 y25 y26 y27 y28 y29 y30 y31 y32 y33 y34 y35 y36 y37 y38 y39 y40 y41 y42 y43 y44 y45 y46 y47 y48 y49 y50 y51 y52 y53 y54 y55 y56 y57 y58 y59 y60 y61
    obtain ⟨sa, rfl⟩ := rep_txt hv
    rw [show eDep (.txt s) + 1 = 0 + 1 from rfl, rounds_succ]
    go_wp2
    go_ret
    exact ⟨rfl, rfl⟩
  | no m => intro _ _ hn; cases hn
  | «at» m e ih =>
    intro he _ hn v hv y1 y2 y4 y5 y7 y9 y10 y11 y12 y13 y14 y15 y16 y17 y18 y19 y20 y21 y22 y23 y24 y25 y26 y27 y28 y29 y30 y31 y32 y33 y34 y35 y36 y37 y38 y39 y40 y41 y42 y43 y44 y45 y46 y47 y48 y49 y50 y51 y52 y53 y54 y55 y56 y57 y58 y59 y60 y61
    obtain ⟨pb, po, u, rfl, _, h0, h1, hu⟩ := rep_at hv
    have hpl : pb < w0.heap.size := World.block_lt_of_cell? w0 _ h1
    have h1' : (w0.alloc (.cells #[.pointer (some ⟨5, 39, none⟩), .pointer (some a), .int .u64 150] 56)).cell? ⟨pb, po + 1, none⟩ = some u := by rw [World.cell?_alloc_lt _ _ ⟨pb, po + 1, none⟩ hpl]; exact h1
    by_cases hne : e = .nil
    · subst hne
      obtain rfl := rep_nil hu
      rw [show eDep (.at m .nil) + 1 = (eDep .nil + 1) + 1 from rfl, rounds_succ]
      go_wp2
      go_ret
      exact ⟨rfl, rfl⟩
    · have ih := ih he hne hn u hu
      obtain ⟨tt, x, rfl⟩ : ∃ tt x, u = .iface tt x := by
        rcases rep_head (e := e) he hu with ⟨_, h⟩ | ⟨tt, x, h, _⟩
        · exact absurd h hne
        · exact ⟨tt, x, h⟩
      rw [show eDep (.at m e) + 1 = (eDep e + 1) + 1 from rfl, rounds_succ]
      go_wp2
set_option maxHeartbeats 40000000 in
theorem asP_hit (w0 : World) (t a : Addr) (old : Value) (ha : w0.cell? a = some (.pointer (some t))) (ht : w0.cell? t = some old) (hf : w0.frozen? t = false) (pa : Addr) :
    Calls Tryd.prog 27 #[.iface 45 (.pointer (some pa)), .iface 46 (.pointer (some t)), .agg #[.pointer (some ⟨5, 46, none⟩), .pointer (some a), .int .u64 150], .iface 80 (.agg #[.pointer (some ⟨5, 45, none⟩)])] w0 fun ev w' => ev = .returned (.bool true) ∧ w' = (((w0.alloc (.cells #[.pointer (some ⟨5, 46, none⟩), .pointer (some a), .int .u64 150] 56))).alloc (.cells #[.pointer (some pa)] 45)).setCell t (.pointer (some pa)) := by
  have hTo := @run_callFunc_extern Tryd.prog 28 _ ReflectliteType.typeOf Tryd.func28 (by kernel_rfl) (by kernel_rfl) (by kernel_rfl) (by kernel_rfl)
  have hAs := @run_callFunc_extern Tryd.prog 78 _ (ReflectliteType.relation "AssignableTo" ReflectliteType.assignableTo) Tryd.func78 (by kernel_rfl) (by kernel_rfl) (by kernel_rfl) (by kernel_rfl)
  have hVo := @run_callFunc_extern Tryd.prog 24 _ (fun args => ReflectliteValue.unpack (args.getD 0 (.tuple #[]))) Tryd.func24 (by kernel_rfl) (by kernel_rfl) (by kernel_rfl) (by kernel_rfl)
  have hVe := @run_callFunc_extern Tryd.prog 35 _ (ReflectliteValue.method (ReflectliteValue.valueError "reflectlite.Value.Elem" 0) ReflectliteValue.elem) Tryd.func35 (by kernel_rfl) (by kernel_rfl) (by kernel_rfl) (by kernel_rfl)
  have hVs := @run_callFunc_extern Tryd.prog 36 _ ReflectliteValue.set Tryd.func36 (by kernel_rfl) (by kernel_rfl) (by kernel_rfl) (by kernel_rfl)
  have tO := typeOfE
  have tP := typeOfP
  have mA := mAssign
  have a1 := asEE
  have a2 := asPE
  have a3 := asEP
  have a4 := asPP
  have nA := noAsP
  have nB := noAsE
  have nU := noUnE
  have nV := noUnsE
  have hU := hasUnP
  have mU := mUnwrap
  have vE := valueOfE
  have vP := valueOfP
  have tS := typeOfS
  have a5 := asSE
  have a6 := asSP
  have nS1 := noAsS
  have nS2 := noUnS
  have nS3 := noUnsS
  have htl : t.block < w0.heap.size := World.block_lt_of_cell? w0 t ht
  have hal : a.block < w0.heap.size := World.block_lt_of_cell? w0 a ha
  have el := elemVP a t (w0.alloc (.cells #[.pointer (some ⟨5, 46, none⟩), .pointer (some a), .int .u64 150] 56)) (by rw [World.cell?_alloc_lt _ _ a hal]; exact ha)
  have st := setP t ⟨w0.heap.size + 1, 0, none⟩ pa old (((w0.alloc (.cells #[.pointer (some ⟨5, 46, none⟩), .pointer (some a), .int .u64 150] 56))).alloc (.cells #[.pointer (some pa)] 45))
    (by rw [World.cell?_alloc_at _ _ _ _ (by simp)]; rfl)
    (by rw [World.cell?_alloc_lt _ _ t (by simp <;> omega), World.cell?_alloc_lt _ _ t htl]; exact ht)
    (by rw [World.frozen?_alloc_old _ _ t (by simp <;> omega), World.frozen?_alloc_old _ _ t (Nat.ne_of_lt htl)]; exact hf)
  go_enter Tryd.func27, Tryd.ntmps27
  go_wp2
  refine wp_loop_rounds 1 ?_
  rw [rounds_succ]
  go_wp2
  go_ret
  exact ⟨rfl, rfl⟩
set_option maxHeartbeats 40000000 in
theorem asP_missS (w0 : World) (t a : Addr) (old : Value) (ha : w0.cell? a = some (.pointer (some t))) (ht : w0.cell? t = some old) (hf : w0.frozen? t = false) (sa : Addr) :
    Calls Tryd.prog 27 #[.iface 67 (.pointer (some sa)), .iface 46 (.pointer (some t)), .agg #[.pointer (some ⟨5, 46, none⟩), .pointer (some a), .int .u64 150], .iface 80 (.agg #[.pointer (some ⟨5, 45, none⟩)])] w0 fun ev w' => ev = .returned (.bool false) ∧ w' = w0.alloc (.cells #[.pointer (some ⟨5, 46, none⟩), .pointer (some a), .int .u64 150] 56) := by
  have hTo := @run_callFunc_extern Tryd.prog 28 _ ReflectliteType.typeOf Tryd.func28 (by kernel_rfl) (by kernel_rfl) (by kernel_rfl) (by kernel_rfl)
  have hAs := @run_callFunc_extern Tryd.prog 78 _ (ReflectliteType.relation "AssignableTo" ReflectliteType.assignableTo) Tryd.func78 (by kernel_rfl) (by kernel_rfl) (by kernel_rfl) (by kernel_rfl)
  have hVo := @run_callFunc_extern Tryd.prog 24 _ (fun args => ReflectliteValue.unpack (args.getD 0 (.tuple #[]))) Tryd.func24 (by kernel_rfl) (by kernel_rfl) (by kernel_rfl) (by kernel_rfl)
  have hVe := @run_callFunc_extern Tryd.prog 35 _ (ReflectliteValue.method (ReflectliteValue.valueError "reflectlite.Value.Elem" 0) ReflectliteValue.elem) Tryd.func35 (by kernel_rfl) (by kernel_rfl) (by kernel_rfl) (by kernel_rfl)
  have hVs := @run_callFunc_extern Tryd.prog 36 _ ReflectliteValue.set Tryd.func36 (by kernel_rfl) (by kernel_rfl) (by kernel_rfl) (by kernel_rfl)
  have tO := typeOfE
  have tP := typeOfP
  have mA := mAssign
  have a1 := asEE
  have a2 := asPE
  have a3 := asEP
  have a4 := asPP
  have nA := noAsP
  have nB := noAsE
  have nU := noUnE
  have nV := noUnsE
  have hU := hasUnP
  have mU := mUnwrap
  have vE := valueOfE
  have vP := valueOfP
  have tS := typeOfS
  have a5 := asSE
  have a6 := asSP
  have nS1 := noAsS
  have nS2 := noUnS
  have nS3 := noUnsS
  have htl : t.block < w0.heap.size := World.block_lt_of_cell? w0 t ht
  have hal : a.block < w0.heap.size := World.block_lt_of_cell? w0 a ha
  go_enter Tryd.func27, Tryd.ntmps27
  go_wp2
  refine wp_loop_rounds 1 ?_
  rw [rounds_succ]
  go_wp2
  go_ret
  exact ⟨rfl, rfl⟩
set_option maxHeartbeats 40000000 in
theorem asP_miss (w0 : World) (t a : Addr) (old : Value) (ha : w0.cell? a = some (.pointer (some t))) (ht : w0.cell? t = some old) (hf : w0.frozen? t = false) (n : Int) :
    Calls Tryd.prog 27 #[.iface 29 (.int .i64 n), .iface 46 (.pointer (some t)), .agg #[.pointer (some ⟨5, 46, none⟩), .pointer (some a), .int .u64 150], .iface 80 (.agg #[.pointer (some ⟨5, 45, none⟩)])] w0 fun ev w' => ev = .returned (.bool false) ∧ w' = w0.alloc (.cells #[.pointer (some ⟨5, 46, none⟩), .pointer (some a), .int .u64 150] 56) := by
  have hTo := @run_callFunc_extern Tryd.prog 28 _ ReflectliteType.typeOf Tryd.func28 (by kernel_rfl) (by kernel_rfl) (by kernel_rfl) (by kernel_rfl)
  have hAs := @run_callFunc_extern Tryd.prog 78 _ (ReflectliteType.relation "AssignableTo" ReflectliteType.assignableTo) Tryd.func78 (by kernel_rfl) (by kernel_rfl) (by kernel_rfl) (by kernel_rfl)
  have hVo := @run_callFunc_extern Tryd.prog 24 _ (fun args => ReflectliteValue.unpack (args.getD 0 (.tuple #[]))) Tryd.func24 (by kernel_rfl) (by kernel_rfl) (by kernel_rfl) (by kernel_rfl)
  have hVe := @run_callFunc_extern Tryd.prog 35 _ (ReflectliteValue.method (ReflectliteValue.valueError "reflectlite.Value.Elem" 0) ReflectliteValue.elem) Tryd.func35 (by kernel_rfl) (by kernel_rfl) (by kernel_rfl) (by kernel_rfl)
  have hVs := @run_callFunc_extern Tryd.prog 36 _ ReflectliteValue.set Tryd.func36 (by kernel_rfl) (by kernel_rfl) (by kernel_rfl) (by kernel_rfl)
  have tO := typeOfE
  have tP := typeOfP
  have mA := mAssign
  have a1 := asEE
  have a2 := asPE
  have a3 := asEP
  have a4 := asPP
  have nA := noAsP
  have nB := noAsE
  have nU := noUnE
  have nV := noUnsE
  have hU := hasUnP
  have mU := mUnwrap
  have vE := valueOfE
  have vP := valueOfP
  have tS := typeOfS
  have a5 := asSE
  have a6 := asSP
  have nS1 := noAsS
  have nS2 := noUnS
  have nS3 := noUnsS
  have htl : t.block < w0.heap.size := World.block_lt_of_cell? w0 t ht
  have hal : a.block < w0.heap.size := World.block_lt_of_cell? w0 a ha
  go_enter Tryd.func27, Tryd.ntmps27
  go_wp2
  refine wp_loop_rounds 1 ?_
  rw [rounds_succ]
  go_wp2
  go_ret
  exact ⟨rfl, rfl⟩
end Go.Proofs.YtmdeiacjehhcoaaDoor
