/- What the proof of the statement stands on, part 0. -/
import Derived.Laws.AppendOwn
import Derived.Laws.MakeOwn
import Derived.Laws.OwnMore
import Derived.Below
import GoSem.Core.Program
import GoSem.Core.Code
import GoSem.Op.IntArith
import GoSem.Op.String
import GoSem.Core.Region
set_option linter.unusedVariables false
set_option linter.unusedSimpArgs false
namespace Go.Eng
def SameOn (S : Nat → Prop) (w w' : World) : Prop := ∀ b, S b → b < w.heap.size → w'.heap[b]? = w.heap[b]?
structure HPred where
  p : World → (Nat → Prop) → Value → Prop
  mono : ∀ w w' F F' v, SameOn F w w' → (∀ b, F b → F' b) → p w F v → p w' F' v
inductive T where
  | b (x : Bool)
  | i (k : IntKind) (n : Int)
  | s (x : ByteArray)
  | np
  | nf
  | ni
  | sl (e : TypeId) (nl : Bool) (xs : List T)
  | p (e : TypeId) (x : T)
  | ifc (t : TypeId) (x : T)
  | ag (cs : List T)
  | fl (h : HPred)
def T.cells : T → List T
  | .ag cs => cs
  | t => [t]
def T.isAg : T → Bool
  | .ag _ => true
  | _ => false
def flat (xs : List T) : List T := xs.flatMap T.cells
def aggOf (P : Program) (e : TypeId) : Bool :=
  match P.underlying e with
  | some (.struct _) | some (.array _ _) => true
  | _ => false
def Fits (P : Program) (e : TypeId) (x : T) : Prop := x.cells.length = P.cellsOf e ∧ x.isAg = aggOf P e
inductive RepT (P : Program) (w : World) (F : Nat → Prop) : T → Value → Prop
  | b (x) : RepT P w F (.b x) (.bool x)
  | i (k n) : RepT P w F (.i k n) (.int k n)
  | s (x) : RepT P w F (.s x) (.string x)
  | np : RepT P w F .np (.pointer none)
  | nf : RepT P w F .nf .nilFunc
  | ni : RepT P w F .ni .nilIface
  | nsl (e nl) : RepT P w F (.sl e nl []) (.slice none 0 0)
  | esl (e nl b cap) : RepT P w F (.sl e nl []) (.slice (some b) 0 cap)
  | sl (e nl xs) (b off cap : Nat) (us : Nat → Value) (hF : xs ≠ [] → F b) (hs : ∀ x ∈ xs, Fits P e x) (hl : xs.length ≤ cap)
      (hc : ∀ j t, (flat xs)[j]? = some t → w.cell? ⟨b, off + j, none⟩ = some (us j))
      (hr : ∀ j t, (flat xs)[j]? = some t → RepT P w F t (us j)) : RepT P w F (.sl e nl xs) (.slice (some ⟨b, off, none⟩) xs.length cap)
  | p (e x) (b off : Nat) (us : Nat → Value) (hF : F b) (hs : Fits P e x)
      (hc : ∀ j t, x.cells[j]? = some t → w.cell? ⟨b, off + j, none⟩ = some (us j))
      (hr : ∀ j t, x.cells[j]? = some t → RepT P w F t (us j)) : RepT P w F (.p e x) (.pointer (some ⟨b, off, none⟩))
  | ifc (t x v) (h : RepT P w F x v) : RepT P w F (.ifc t x) (.iface t v)
  | ag (cs) (vs : Array Value) (us : Nat → Value) (hl : vs.size = cs.length) (hv : ∀ j t, cs[j]? = some t → vs[j]? = some (us j))
      (hr : ∀ j t, cs[j]? = some t → RepT P w F t (us j)) : RepT P w F (.ag cs) (.agg vs)
  | fl (h v) (hp : h.p w F v) : RepT P w F (.fl h) v
theorem SameOn.refl (S : Nat → Prop) (w : World) : SameOn S w w := fun _ _ _ => rfl
theorem SameOn.mono {S S' : Nat → Prop} {w w' : World} (h : SameOn S w w') (hs : ∀ b, S' b → S b) : SameOn S' w w' := fun b hb hl => h b (hs b hb) hl
theorem SameOn.cell {S : Nat → Prop} {w w' : World} (h : SameOn S w w') {a : Addr} {v : Value} (ha : S a.block) (hc : w.cell? a = some v) : w'.cell? a = some v := by
  rw [World.cell?_of_block (h a.block ha (World.block_lt_of_cell? w a hc))]; exact hc
theorem SameOn.trans {S : Nat → Prop} {w w' w'' : World} (h : SameOn S w w') (h' : SameOn S w' w'') (hs : w.heap.size ≤ w'.heap.size) : SameOn S w w'' :=
  fun b hb hl => (h' b hb (Nat.lt_of_lt_of_le hl hs)).trans (h b hb hl)
theorem ne_nil_of_flat {xs : List T} {j : Nat} {t : T} (h : (flat xs)[j]? = some t) : xs ≠ [] := by
  intro e; subst e; simp [flat] at h
theorem RepT.mono {P : Program} {w w' : World} {F F' : Nat → Prop} (hw : SameOn F w w') (hF : ∀ b, F b → F' b) {t : T} {v : Value} (h : RepT P w F t v) : RepT P w' F' t v := by
  induction h with
  | b x => exact .b x
  | i k n => exact .i k n
  | s x => exact .s x
  | np => exact .np
  | nf => exact .nf
  | ni => exact .ni
  | nsl e nl => exact .nsl e nl
  | esl e nl b cap => exact .esl e nl b cap
  | sl e nl xs b off cap us h1 hs hl hc _ ih =>
    exact .sl e nl xs b off cap us (fun h => hF _ (h1 h)) hs hl (fun j t hj => hw.cell (a := ⟨b, off + j, none⟩) (h1 (ne_nil_of_flat hj)) (hc j t hj)) ih
  | p e x b off us h1 hs hc _ ih => exact .p e x b off us (hF _ h1) hs (fun j t hj => hw.cell (a := ⟨b, off + j, none⟩) h1 (hc j t hj)) ih
  | ifc t x v _ ih => exact .ifc t x v ih
  | ag cs vs us hl hv _ ih => exact .ag cs vs us hl hv ih
  | fl h v hp => exact .fl h v (h.mono _ _ _ _ _ hw hF hp)
def Split (B : Nat → Prop) (own : Option Nat) (Bs : Nat → Nat → Prop) : Prop :=
  (∀ b, own = some b → B b) ∧ (∀ j b, Bs j b → B b ∧ own ≠ some b) ∧ ∀ j k b, Bs j b → Bs k b → j = k
def Owns (w : World) (e : TypeId) (size : Nat) (v : Value) (n : Nat) (us : List Value) : Prop :=
  w.ownsRow 0 e size v n us ∨ (n = 0 ∧ us = [] ∧ ∃ b, v = .slice (some b) 0 0)
def ownB : Value → Option Nat
  | .slice (some a) _ (_ + 1) => some a.block
  | _ => none
def RepM (P : Program) (w : World) (F : Nat → Prop) : Nat → T → Value → (Nat → Prop) → Prop
  | 0, t, v, _ => RepT P w F t v
  | d + 1, .sl e nl xs, v, B => ∃ us : List Value, Owns w e (P.cellsOf e) v xs.length us ∧ (∀ x ∈ xs, Fits P e x) ∧
      ∃ Bs, Split B (ownB v) Bs ∧ ∀ j t u, (flat xs)[j]? = some t → us[j]? = some u → RepM P w F d t u (Bs j)
  | d + 1, .p e x, v, B => ∃ b, ∃ us : Array Value, v = .pointer (some ⟨b, 0, none⟩) ∧ w.heap[b]? = some (.cells us e (0, 0)) ∧ us.size = P.cellsOf e ∧ Fits P e x ∧
      ∃ Bs, Split B (some b) Bs ∧ ∀ j t u, x.cells[j]? = some t → us[j]? = some u → RepM P w F d t u (Bs j)
  | _ + 1, t, v, _ => RepT P w F t v
structure Loc where
  root : Nat
  off : Nat
  steps : List (Nat × Nat)
inductive AV where
  | v (t : T)
  | ar (l : Loc) (n : Nat)
  | pt (l : Loc)
  | z (e : TypeId)
  | tl (t : T)
  | fp (x : T)
  | ag (cs : List AV)
  | tu (vs : List AV)
  | fn (f : FuncId) (cs : List AV)
  | u
inductive E where
  | o (d : Nat) (t : T)
  | rf (l : Loc)
  | mv
structure Root where
  mem : Option TypeId
  cells : List E
structure St where
  env : List (Nat × AV)
  sto : List (Nat × Root)
def get {α : Type} (l : List (Nat × α)) (k : Nat) : Option α :=
  match l with
  | [] => none
  | (j, x) :: r => if j = k then some x else get r k
def del {α : Type} (l : List (Nat × α)) (k : Nat) : List (Nat × α) :=
  match l with
  | [] => []
  | (j, x) :: r => if j = k then del r k else (j, x) :: del r k
def put {α : Type} (l : List (Nat × α)) (k : Nat) (x : α) : List (Nat × α) := (k, x) :: del l k
theorem get_del {α : Type} (l : List (Nat × α)) (k j : Nat) : get (del l k) j = if j = k then none else get l j := by
  induction l with
  | nil => simp [del, get]
  | cons p r ih =>
    obtain ⟨i, x⟩ := p
    by_cases h : i = k
    · subst h
      simp only [del, if_true, ih, get]
      by_cases hj : j = i
      · simp [hj]
      · simp [hj, Ne.symm hj]
    · simp only [del, if_neg h, get, ih]
      by_cases hj : j = k
      · subst hj; simp [h]
      · simp [hj]
theorem get_put {α : Type} (l : List (Nat × α)) (k j : Nat) (x : α) : get (put l k x) j = if j = k then some x else get l j := by
  unfold put
  by_cases h : j = k
  · subst h; simp [get]
  · simp [get, Ne.symm h, get_del, h]
end Go.Eng
namespace Go.Eng
variable {P : Program}
theorem Owns.same {w w' : World} {S : Nat → Prop} (h : SameOn S w w') {e size n : Nat} {v : Value} {us : List Value} (hS : ∀ b, ownB v = some b → S b)
    (ho : Owns w e size v n us) : Owns w' e size v n us := by
  rcases ho with ho | ho
  · rcases ho.2 with hn | ⟨g, cap, cur, rfl, hb, hgg, h1, rest⟩
    · exact .inl ⟨ho.1, .inl hn⟩
    · cases cap with
      | zero =>
        have hn : n = 0 := by omega
        subst hn
        exact .inr ⟨rfl, List.eq_nil_of_length_eq_zero (by simpa using ho.1), _, rfl⟩
      | succ cap =>
        refine .inl ⟨ho.1, .inr ⟨g, cap + 1, cur, rfl, hb, ?_, h1, rest⟩⟩
        rw [h g (hS g rfl) (Array.getElem?_eq_some_iff.1 hgg).1]
        exact hgg
  · exact .inr ho
theorem Owns.len {w : World} {e size n : Nat} {v : Value} {us : List Value} (h : Owns w e size v n us) : us.length = n * size := by
  rcases h with h | ⟨h1, h2, _⟩
  · exact h.1
  · subst h1; subst h2; simp
theorem RepM.mono {w w' : World} {F F' : Nat → Prop} (d : Nat) : ∀ {t : T} {v : Value} {B B' : Nat → Prop}, SameOn (fun b => F b ∨ B b) w w' → (∀ b, F b → F' b) → (∀ b, B b → B' b) →
    RepM P w F d t v B → RepM P w' F' d t v B' := by
  induction d with
  | zero => intro t v B B' hw hF _ h; exact RepT.mono (hw.mono fun b hb => .inl hb) hF h
  | succ d ih =>
    intro t v B B' hw hF hB h
    have plain : RepT P w F t v → RepT P w' F' t v := RepT.mono (hw.mono fun b hb => .inl hb) hF
    cases t with
    | sl e nl xs =>
      obtain ⟨us, ho, hs, Bs, hsp, hc⟩ := h
      refine ⟨us, ho.same hw (fun b hb => .inr (hsp.1 b hb)), hs, Bs, ⟨fun b hb => hB _ (hsp.1 b hb), fun j b hb => ⟨hB _ (hsp.2.1 j b hb).1, (hsp.2.1 j b hb).2⟩, hsp.2.2⟩, ?_⟩
      intro j t u hj hu
      exact ih (hw.mono fun b hb => hb.imp id fun hb => (hsp.2.1 j b hb).1) hF (fun _ hb => hb) (hc j t u hj hu)
    | p e x =>
      obtain ⟨b, us, hv, hb, hsz, hs, Bs, hsp, hc⟩ := h
      refine ⟨b, us, hv, ?_, hsz, hs, Bs, ⟨fun b hb => hB _ (hsp.1 b hb), fun j b hb => ⟨hB _ (hsp.2.1 j b hb).1, (hsp.2.1 j b hb).2⟩, hsp.2.2⟩, ?_⟩
      · rw [hw b (.inr (hsp.1 b rfl)) (Array.getElem?_eq_some_iff.1 hb).1]; exact hb
      · intro j t u hj hu
        exact ih (hw.mono fun b hb => hb.imp id fun hb => (hsp.2.1 j b hb).1) hF (fun _ hb => hb) (hc j t u hj hu)
    | b x => exact plain h
    | i k n => exact plain h
    | s x => exact plain h
    | np => exact plain h
    | nf => exact plain h
    | ni => exact plain h
    | ifc t x => exact plain h
    | ag cs => exact plain h
    | fl hp => exact plain h
theorem flat_length {e : TypeId} {xs : List T} (hs : ∀ x ∈ xs, Fits P e x) : (flat xs).length = xs.length * P.cellsOf e := by
  induction xs with
  | nil => simp [flat]
  | cons x xs ih =>
    have h1 := (hs x (by simp)).1
    have h2 := ih fun y hy => hs y (by simp [hy])
    simp only [flat, List.flatMap_cons, List.length_append] at *
    rw [h1, h2, List.length_cons, Nat.add_mul]
    omega
theorem ownsRow_cells {w : World} {base e size n : Nat} {us : List Value} {b cap off : Nat} (ho : w.ownsRow base e size (.slice (some ⟨b, off, none⟩) n cap) n us) :
    off = 0 ∧ n ≤ cap ∧ ∀ j u, us[j]? = some u → w.cell? ⟨b, j, none⟩ = some u := by
  have hc := ho.cells (g := b) rfl
  rcases ho.2 with ⟨h, _⟩ | ⟨g, cap', cur, hv, _, hgg, h1, h2, h3, h4⟩
  · cases h
  · injection hv with h5 _ h6
    injection h5 with h5
    injection h5 with h7 h8
    subst h6
    refine ⟨h8, h1, fun j u hj => ?_⟩
    have := hc j u hj
    rwa [show (⟨b, 0, none⟩ : Addr).add j = ⟨b, j, none⟩ by unfold Addr.add; split <;> simp_all] at this
theorem RepM.give {w : World} {F : Nat → Prop} (d : Nat) : ∀ {t : T} {v : Value} {B : Nat → Prop}, RepM P w F d t v B → RepT P w (fun b => F b ∨ B b) t v := by
  induction d with
  | zero => intro t v B h; exact RepT.mono (SameOn.refl _ w) (fun _ hb => .inl hb) h
  | succ d ih =>
    intro t v B h
    have plain : RepT P w F t v → RepT P w (fun b => F b ∨ B b) t v := RepT.mono (SameOn.refl _ w) fun _ hb => .inl hb
    cases t with
    | sl e nl xs =>
      obtain ⟨us, ho, hs, Bs, hsp, hc⟩ := h
      have sub : ∀ (j : Nat) (t : T), (flat xs)[j]? = some t → ∃ u : Value, us[j]? = some u ∧ RepT P w (fun b => F b ∨ B b) t u := by
        intro j t hj
        have hlt : j < us.length := by
          rw [ho.len, ← flat_length hs]
          exact (List.getElem?_eq_some_iff.1 hj).1
        refine ⟨us[j], by simp [hlt], ?_⟩
        have hk : us[j]? = some us[j] := by simp [hlt]
        exact RepT.mono (SameOn.refl _ w) (fun b hb => hb.imp id fun hb => (hsp.2.1 j b hb).1) (ih (hc j t _ hj hk))
      rcases ho with ho | ⟨hn0, _, b, hv⟩
      · rcases ho.2 with ⟨hv, hn0⟩ | ⟨g, cap, cur, hv, hb, hgg, rest⟩
        · have hx : xs = [] := List.eq_nil_of_length_eq_zero hn0
          subst hx; subst hv
          exact .nsl e nl
        · subst hv
          obtain ⟨_, hle, hcell⟩ := ownsRow_cells ho
          have hown : xs ≠ [] → ownB (.slice (some ⟨g, 0, none⟩) xs.length cap) = some g := by
            intro hx
            have : 0 < xs.length := by cases xs with | nil => exact absurd rfl hx | cons => simp
            cases cap with
            | zero => omega
            | succ c => rfl
          refine .sl e nl xs g 0 cap (fun j => us.getD j undef) (fun hx => .inr (hsp.1 g (hown hx))) hs hle ?_ ?_
          · intro j t hj
            obtain ⟨u, hu, _⟩ := sub j t hj
            rw [Nat.zero_add, hcell j u hu]
            simp [hu]
          · intro j t hj
            obtain ⟨u, hu, hr⟩ := sub j t hj
            simp only [List.getD_eq_getElem?_getD, hu, Option.getD_some]
            exact hr
      · have hx : xs = [] := List.eq_nil_of_length_eq_zero hn0
        subst hx; subst hv
        exact .esl e nl b 0
    | p e x =>
      obtain ⟨b, us, hv, hb, hsz, hs, Bs, hsp, hc⟩ := h
      subst hv
      have sub : ∀ (j : Nat) (t : T), x.cells[j]? = some t → ∃ u : Value, us[j]? = some u ∧ RepT P w (fun b => F b ∨ B b) t u := by
        intro j t hj
        have hlt : j < us.size := by
          rw [hsz, ← hs.1]
          exact (List.getElem?_eq_some_iff.1 hj).1
        refine ⟨us[j], by simp [hlt], ?_⟩
        have hk : us[j]? = some us[j] := by simp [hlt]
        exact RepT.mono (SameOn.refl _ w) (fun b hb => hb.imp id fun hb => (hsp.2.1 j b hb).1) (ih (hc j t _ hj hk))
      refine .p e x b 0 (fun j => us.getD j undef) (.inr (hsp.1 b rfl)) hs ?_ ?_
      · intro j t hj
        obtain ⟨u, hu, _⟩ := sub j t hj
        rw [Nat.zero_add, cell_of_row w b j us e (0, 0) hb]
        simp [hu]
      · intro j t hj
        obtain ⟨u, hu, hr⟩ := sub j t hj
        simp only [Array.getD_eq_getD_getElem?, hu, Option.getD_some]
        exact hr
    | b x => exact plain h
    | i k n => exact plain h
    | s x => exact plain h
    | np => exact plain h
    | nf => exact plain h
    | ni => exact plain h
    | ifc t x => exact plain h
    | ag cs => exact plain h
    | fl hp => exact plain h
end Go.Eng
namespace Go.Eng
variable {P : Program}
def T.setCell : T → Nat → T → T
  | .ag cs, o, c => .ag (cs.set o c)
  | _, _, c => c
def T.step : T → Nat × Nat → Option T
  | .sl _ _ xs, q => (xs[q.1]?).bind fun x => x.cells[q.2]?
  | .p _ x, q => if q.1 = 0 then x.cells[q.2]? else none
  | _, _ => none
def T.upd1 : T → Nat × Nat → T → T
  | .sl e nl xs, q, c => match xs[q.1]? with
    | some x => .sl e nl (xs.set q.1 (x.setCell q.2 c))
    | none => .sl e nl xs
  | .p e x, q, c => .p e (x.setCell q.2 c)
  | t, _, _ => t
def walkT : Nat → T → List (Nat × Nat) → Option (Nat × T)
  | d, t, [] => some (d, t)
  | d + 1, t, s :: r => (t.step s).bind fun c => walkT d c r
  | 0, _, _ :: _ => none
def updT : T → List (Nat × Nat) → T → T
  | _, [], c => c
  | t, s :: r, c => match t.step s with
    | some c0 => t.upd1 s (updT c0 r c)
    | none => t
def stepA (P : Program) : T → Value → Nat × Nat → Option Addr
  | .sl e _ _, .slice (some a) _ _, s => some ⟨a.block, a.off + (s.1 * P.cellsOf e + s.2), none⟩
  | .p _ _, .pointer (some a), s => some ⟨a.block, a.off + s.2, none⟩
  | _, _, _ => none
def walkA (P : Program) (w : World) : T → Value → Nat × Nat → List (Nat × Nat) → Option Addr
  | t, u, s, [] => stepA P t u s
  | t, u, s, s' :: r => (stepA P t u s).bind fun a => (t.step s).bind fun c => (w.cell? a).bind fun u' => walkA P w c u' s' r
theorem flat_cons (x : T) (xs : List T) : flat (x :: xs) = x.cells ++ flat xs := by simp [flat]
theorem flat_get {e : TypeId} {xs : List T} (hs : ∀ x ∈ xs, Fits P e x) {i o : Nat} {x c : T} (hi : xs[i]? = some x) (ho : x.cells[o]? = some c) :
    (flat xs)[i * P.cellsOf e + o]? = some c := by
  induction xs generalizing i with
  | nil => simp at hi
  | cons y ys ih =>
    have hy := (hs y (by simp)).1
    rw [flat_cons]
    cases i with
    | zero =>
      simp at hi; subst hi
      have : o < y.cells.length := (List.getElem?_eq_some_iff.1 ho).1
      rw [Nat.zero_mul, Nat.zero_add, List.getElem?_append_left this]; exact ho
    | succ i =>
      simp at hi
      have := ih (fun z hz => hs z (by simp [hz])) hi
      rw [List.getElem?_append_right (by rw [hy, Nat.add_mul]; omega), hy, show (i + 1) * P.cellsOf e + o - P.cellsOf e = i * P.cellsOf e + o by rw [Nat.add_mul]; omega]
      exact this
theorem setCell_cells {x : T} {o : Nat} {c c0 : T} (h0 : x.cells[o]? = some c0) (hc : c.isAg = false) : (x.setCell o c).cells = x.cells.set o c := by
  cases x with
  | ag cs => rfl
  | _ =>
    simp only [T.cells] at h0 ⊢
    cases o with
    | zero => cases c <;> first | rfl | (simp [T.isAg] at hc)
    | succ o => simp at h0
theorem setCell_fits {e : TypeId} {x : T} {o : Nat} {c c0 : T} (hf : Fits P e x) (h0 : x.cells[o]? = some c0) (hc : c.isAg = false) : Fits P e (x.setCell o c) := by
  refine ⟨by rw [setCell_cells h0 hc, List.length_set]; exact hf.1, ?_⟩
  rw [← hf.2]
  cases x <;> simp_all [T.setCell, T.isAg]
theorem flat_set {e : TypeId} {xs : List T} (hs : ∀ x ∈ xs, Fits P e x) {i o : Nat} {x c c0 : T} (hi : xs[i]? = some x) (h0 : x.cells[o]? = some c0) (hc : c.isAg = false) :
    flat (xs.set i (x.setCell o c)) = (flat xs).set (i * P.cellsOf e + o) c := by
  induction xs generalizing i with
  | nil => simp at hi
  | cons y ys ih =>
    have hy := (hs y (by simp)).1
    cases i with
    | zero =>
      simp at hi; subst hi
      have : o < y.cells.length := (List.getElem?_eq_some_iff.1 h0).1
      simp only [List.set_cons_zero, flat_cons, setCell_cells h0 hc, Nat.zero_mul, Nat.zero_add]
      rw [List.set_append_left _ _ this]
    | succ i =>
      simp at hi
      have := ih (fun z hz => hs z (by simp [hz])) hi
      simp only [List.set_cons_succ, flat_cons, this]
      rw [List.set_append_right _ _ (by rw [hy, Nat.add_mul]; omega), hy, show (i + 1) * P.cellsOf e + o - P.cellsOf e = i * P.cellsOf e + o by rw [Nat.add_mul]; omega]
theorem set_fits {e : TypeId} {xs : List T} (hs : ∀ x ∈ xs, Fits P e x) {i o : Nat} {x c c0 : T} (hi : xs[i]? = some x) (h0 : x.cells[o]? = some c0) (hc : c.isAg = false) :
    ∀ y ∈ xs.set i (x.setCell o c), Fits P e y := by
  intro y hy
  rcases List.mem_or_eq_of_mem_set hy with h | h
  · exact hs y h
  · subst h
    exact setCell_fits (hs x (List.mem_of_getElem? hi)) h0 hc
theorem step_sl {e : TypeId} {nl : Bool} {xs : List T} {s : Nat × Nat} {c : T} (h : (T.sl e nl xs).step s = some c) : ∃ x, xs[s.1]? = some x ∧ x.cells[s.2]? = some c := by
  simp only [T.step, Option.bind_eq_some_iff] at h
  exact h
theorem owns_addr {w : World} {e size n j : Nat} {v : Value} {us : List Value} (ho : Owns w e size v n us) (hj : j < us.length) :
    ∃ g cap, v = .slice (some ⟨g, 0, none⟩) n cap ∧ ownB v = some g ∧ w.cell? ⟨g, j, none⟩ = some us[j] ∧ w.frozen? ⟨g, j, none⟩ = false := by
  rcases ho with ho | ⟨_, h2, _⟩
  · rcases ho.2 with ⟨hv, hn0⟩ | ⟨g, cap, cur, hv, hb, hgg, h1, rest⟩
    · have := ho.1; rw [hn0] at this; omega
    · subst hv
      refine ⟨g, cap, rfl, ?_, (ownsRow_cells ho).2.2 j _ (by simp [hj]), frozen_of_row w g j cur e hgg⟩
      have h2 := ho.1
      cases cap with
      | zero =>
        have hn : n = 0 := by omega
        subst hn
        omega
      | succ c => rfl
  · subst h2; simp at hj
theorem Owns.cell {w : World} {e size n g cap : Nat} {us : List Value} (ho : Owns w e size (.slice (some ⟨g, 0, none⟩) n cap) n us) : ∀ j u, us[j]? = some u → w.cell? ⟨g, j, none⟩ = some u := by
  rcases ho with ho | ⟨_, h2, _⟩
  · exact (ownsRow_cells ho).2.2
  · subst h2; intro j u h; simp at h
theorem owns_set {w : World} {e size n j g cap : Nat} {us : List Value} (ho : Owns w e size (.slice (some ⟨g, 0, none⟩) n cap) n us) (v' : Value) :
    Owns (w.setCell ⟨g, j, none⟩ v') e size (.slice (some ⟨g, 0, none⟩) n cap) n (us.set j v') := by
  rcases ho with ho | ⟨h1, h2, h3⟩
  · refine .inl ⟨by rw [List.length_set]; exact ho.1, ?_⟩
    rcases ho.2 with ⟨hv, _⟩ | ⟨g', cap', cur, hv, hb, hgg, h1, h2, h3, h4⟩
    · cases hv
    · injection hv with h5 _ h6
      injection h5 with h5
      injection h5 with h7 h8
      subst h7; subst h6
      refine .inr ⟨g, cap, cur.setIfInBounds j v', rfl, hb, heap_setCell_same w g j cur e v' hgg, h1, h2, by simpa using h3, ?_⟩
      rw [Array.toList_setIfInBounds, List.take_set, h4]
  · exact .inr ⟨h1, by rw [h2]; rfl, h3⟩
theorem same_setCell (w : World) (a : Addr) (v : Value) (S : Nat → Prop) (h : ¬ S a.block) : SameOn S w (w.setCell a v) := by
  intro b hb _
  exact heap_setCell_other w a b v (fun e => h (e ▸ hb))
theorem walk_read {w : World} {F : Nat → Prop} : ∀ (r : List (Nat × Nat)) (s : Nat × Nat) (d : Nat) (t : T) (u : Value) (B : Nat → Prop) (d' : Nat) (c : T),
    RepM P w F d t u B → walkT d t (s :: r) = some (d', c) →
    ∃ a u' B', walkA P w t u s r = some a ∧ a.spot = none ∧ w.cell? a = some u' ∧ w.frozen? a = false ∧ B a.block ∧ RepM P w F d' c u' B' ∧ (∀ b, B' b → B b ∧ b ≠ a.block) ∧ d' < d := by
  intro r
  induction r with
  | nil =>
    intro s d t u B d' c h hw
    cases d with
    | zero => simp [walkT] at hw
    | succ d =>
      simp only [walkT, Option.bind_eq_some_iff] at hw
      obtain ⟨c1, h1, h2⟩ := hw
      simp only [Option.some.injEq, Prod.mk.injEq] at h2
      obtain ⟨rfl, rfl⟩ := h2
      cases t with
      | sl e nl xs =>
        obtain ⟨us, ho, hs, Bs, hsp, hc⟩ := h
        obtain ⟨x, hx, ho2⟩ := step_sl h1
        have hfl := flat_get hs hx ho2
        have hlt : s.1 * P.cellsOf e + s.2 < us.length := by
          rw [ho.len, ← flat_length hs]; exact (List.getElem?_eq_some_iff.1 hfl).1
        obtain ⟨g, cap, rfl, hob, hcell, hfr⟩ := owns_addr ho hlt
        refine ⟨⟨g, s.1 * P.cellsOf e + s.2, none⟩, _, Bs (s.1 * P.cellsOf e + s.2), by simp [walkA, stepA], rfl, hcell, hfr, hsp.1 g hob, hc _ _ _ hfl (by simp [hlt]), fun b hb => ?_, Nat.lt_succ_self _⟩
        have := hsp.2.1 _ b hb
        exact ⟨this.1, fun e => this.2 (by rw [hob, e])⟩
      | p e x =>
        obtain ⟨b, us, hv, hb, hsz, hs, Bs, hsp, hc⟩ := h
        subst hv
        simp only [T.step] at h1
        split at h1
        case isFalse => cases h1
        rename_i hi
        have hlt : s.2 < us.size := by rw [hsz, ← hs.1]; exact (List.getElem?_eq_some_iff.1 h1).1
        refine ⟨⟨b, s.2, none⟩, us[s.2], Bs s.2, by simp [walkA, stepA], rfl, by rw [cell_of_row w b s.2 us e (0, 0) hb]; simp [hlt], frozen_of_row w b s.2 us e hb, hsp.1 b rfl, hc _ _ _ h1 (by simp [hlt]), fun k hk => ?_, Nat.lt_succ_self _⟩
        have := hsp.2.1 _ k hk
        exact ⟨this.1, fun e => this.2 (by rw [e])⟩
      | _ => simp [T.step] at h1
  | cons s' r ih =>
    intro s d t u B d' c h hw
    cases d with
    | zero => simp [walkT] at hw
    | succ d =>
      rw [walkT] at hw
      simp only [Option.bind_eq_some_iff] at hw
      obtain ⟨c1, h1, h2⟩ := hw
      cases t with
      | sl e nl xs =>
        obtain ⟨us, ho, hs, Bs, hsp, hc⟩ := h
        obtain ⟨x, hx, ho2⟩ := step_sl h1
        have hfl := flat_get hs hx ho2
        have hlt : s.1 * P.cellsOf e + s.2 < us.length := by
          rw [ho.len, ← flat_length hs]; exact (List.getElem?_eq_some_iff.1 hfl).1
        obtain ⟨g, cap, rfl, hob, hcell, hfr⟩ := owns_addr ho hlt
        obtain ⟨a, u', B', ha, hsp', hcl, hfz, hB, hR, hsub, hd⟩ := ih s' d c1 _ _ d' c (hc _ _ _ hfl (List.getElem?_eq_getElem hlt)) h2
        refine ⟨a, u', B', ?_, hsp', hcl, hfz, (hsp.2.1 _ _ hB).1, hR, fun b hb => ⟨(hsp.2.1 _ _ (hsub b hb).1).1, (hsub b hb).2⟩, by omega⟩
        simp only [walkA, stepA, Option.bind_some, h1, Nat.zero_add, hcell]
        exact ha
      | p e x =>
        obtain ⟨b, us, hv, hb, hsz, hs, Bs, hsp, hc⟩ := h
        subst hv
        have h1' := h1
        simp only [T.step] at h1
        split at h1
        case isFalse => cases h1
        rename_i hi
        have hlt : s.2 < us.size := by rw [hsz, ← hs.1]; exact (List.getElem?_eq_some_iff.1 h1).1
        obtain ⟨a, u', B', ha, hsp', hcl, hfz, hB, hR, hsub, hd⟩ := ih s' d c1 _ _ d' c (hc _ _ _ h1 (Array.getElem?_eq_getElem hlt)) h2
        refine ⟨a, u', B', ?_, hsp', hcl, hfz, (hsp.2.1 _ _ hB).1, hR, fun b hb => ⟨(hsp.2.1 _ _ (hsub b hb).1).1, (hsub b hb).2⟩, by omega⟩
        simp only [walkA, stepA, Option.bind_some, h1', Nat.zero_add, cell_of_row w b s.2 us e (0, 0) hb]
        rw [show us[s.2]? = some us[s.2] by simp [hlt]]
        exact ha
      | _ => simp [T.step] at h1
theorem upd1_sl {e : TypeId} {nl : Bool} {xs : List T} {q : Nat × Nat} {x : T} (c : T) (hx : xs[q.1]? = some x) : (T.sl e nl xs).upd1 q c = .sl e nl (xs.set q.1 (x.setCell q.2 c)) := by
  simp [T.upd1, hx]
theorem cells_set {w w' : World} {F : Nat → Prop} {d : Nat} {ts : List T} {us : List Value} {Bs : Nat → Nat → Prop} {k : Nat} {c' : T} {v' : Value} {B' : Nat → Prop}
    (hc : ∀ (j : Nat) (t : T) (u : Value), ts[j]? = some t → us[j]? = some u → RepM P w F d t u (Bs j))
    (hsame : ∀ j, j ≠ k → SameOn (fun b => F b ∨ Bs j b) w w') (hk : RepM P w' F d c' v' B') :
    ∀ (j : Nat) (t : T) (u : Value), (ts.set k c')[j]? = some t → (us.set k v')[j]? = some u → RepM P w' F d t u ((fun j => if j = k then B' else Bs j) j) := by
  intro j t u hj hu
  rw [List.getElem?_set] at hj hu
  by_cases hjk : k = j
  · subst hjk
    simp only [if_true] at hj hu
    split at hj
    case isFalse => cases hj
    split at hu
    case isFalse => cases hu
    simp only [Option.some.injEq] at hj hu
    subst hj; subst hu
    simpa using hk
  · rw [if_neg hjk] at hj hu
    simp only [if_neg (Ne.symm hjk)]
    exact RepM.mono d (hsame j (Ne.symm hjk)) (fun _ h => h) (fun _ h => h) (hc j t u hj hu)
theorem split_set {B N : Nat → Prop} {own : Option Nat} {Bs : Nat → Nat → Prop} {k : Nat} {B' : Nat → Prop} (h : Split B own Bs) (hN : ∀ b, N b → ¬ B b) (hB' : ∀ b, B' b → Bs k b ∨ N b) :
    Split (fun b => B b ∨ N b) own (fun j => if j = k then B' else Bs j) := by
  refine ⟨fun b hb => .inl (h.1 b hb), fun j b hb => ?_, fun i j b hi hj => ?_⟩
  · by_cases hj : j = k
    · subst hj
      simp only [if_true] at hb
      rcases hB' b hb with h1 | h1
      · exact ⟨.inl (h.2.1 _ b h1).1, (h.2.1 _ b h1).2⟩
      · exact ⟨.inr h1, fun e => hN b h1 (h.1 b e)⟩
    · simp only [if_neg hj] at hb
      exact ⟨.inl (h.2.1 _ b hb).1, (h.2.1 _ b hb).2⟩
  · have key : ∀ i j, i = k → j ≠ k → (if i = k then B' else Bs i) b → (if j = k then B' else Bs j) b → i = j := by
      intro i j hik hjk hi hj
      subst hik
      simp only [if_true, if_neg hjk] at hi hj
      rcases hB' b hi with h1 | h1
      · exact h.2.2 _ _ b h1 hj
      · exact absurd (h.2.1 _ b hj).1 (hN b h1)
    by_cases hik : i = k <;> by_cases hjk : j = k
    · rw [hik, hjk]
    · exact key i j hik hjk hi hj
    · exact (key j i hjk hik hj hi).symm
    · simp only [if_neg hik, if_neg hjk] at hi hj
      exact h.2.2 _ _ b hi hj
theorem walk_write {w : World} {F N : Nat → Prop} : ∀ (r : List (Nat × Nat)) (q : Nat × Nat) (d : Nat) (t : T) (u : Value) (B : Nat → Prop) (d' : Nat) (c : T) (a : Addr) (c' : T) (v' : Value),
    RepM P w F d t u B → walkT d t (q :: r) = some (d', c) → walkA P w t u q r = some a → c'.isAg = false → (∀ b, B b → ¬ F b) → (∀ b, N b → ¬ B b) →
    RepM P (w.setCell a v') F d' c' v' N →
    RepM P (w.setCell a v') F d (updT t (q :: r) c') u (fun b => B b ∨ N b) := by
  intro r
  induction r with
  | nil =>
    intro q d t u B d' c a c' v' h hw ha hag hBF hN hc'
    cases d with
    | zero => simp [walkT] at hw
    | succ d =>
      simp only [walkT, Option.bind_eq_some_iff] at hw
      obtain ⟨c1, h1, h2⟩ := hw
      simp only [Option.some.injEq, Prod.mk.injEq] at h2
      obtain ⟨rfl, rfl⟩ := h2
      simp only [updT, h1]
      cases t with
      | sl e nl xs =>
        obtain ⟨us, ho, hs, Bs, hsp, hc⟩ := h
        obtain ⟨x, hx, ho2⟩ := step_sl h1
        have hfl := flat_get hs hx ho2
        have hlt : q.1 * P.cellsOf e + q.2 < us.length := by
          rw [ho.len, ← flat_length hs]; exact (List.getElem?_eq_some_iff.1 hfl).1
        obtain ⟨g, cap, rfl, hob, hcell, hfr⟩ := owns_addr ho hlt
        simp only [walkA, stepA, Nat.zero_add, Option.some.injEq] at ha
        subst ha
        rw [upd1_sl c' hx]
        refine ⟨us.set (q.1 * P.cellsOf e + q.2) v', by rw [List.length_set]; exact owns_set ho v', set_fits hs hx ho2 hag, _, split_set (k := q.1 * P.cellsOf e + q.2) hsp hN (fun b hb => .inr hb), ?_⟩
        rw [flat_set hs hx ho2 hag]
        refine cells_set hc (fun j hj => ?_) hc'
        refine same_setCell _ _ _ _ fun hb => ?_
        rcases hb with hb | hb
        · exact hBF g (hsp.1 g hob) hb
        · exact (hsp.2.1 j g hb).2 hob
      | p e x =>
        obtain ⟨b, us, hv, hb, hsz, hs, Bs, hsp, hc⟩ := h
        subst hv
        simp only [T.step] at h1
        split at h1
        case isFalse => cases h1
        rename_i hi
        simp only [walkA, stepA, Nat.zero_add, Option.some.injEq] at ha
        subst ha
        refine ⟨b, us.setIfInBounds q.2 v', rfl, heap_setCell_same w b q.2 us e v' hb, by simpa using hsz, setCell_fits hs h1 hag, _, split_set (k := q.2) hsp hN (fun b hb => .inr hb), ?_⟩
        rw [setCell_cells h1 hag]
        have key := cells_set (ts := x.cells) (us := us.toList) (k := q.2) (w' := w.setCell ⟨b, q.2, none⟩ v') (c' := c') (v' := v') (B' := N)
          (fun j t u hj hu => hc j t u hj (by simpa using hu)) (fun j hj => ?_) hc'
        · intro j t u hj hu
          exact key j t u hj (by rw [← Array.toList_setIfInBounds, Array.getElem?_toList]; exact hu)
        · refine same_setCell _ _ _ _ fun hb2 => ?_
          rcases hb2 with hb2 | hb2
          · exact hBF b (hsp.1 b rfl) hb2
          · exact (hsp.2.1 j b hb2).2 rfl
      | _ => simp [T.step] at h1
  | cons s' r ih =>
    intro q d t u B d' c a c' v' h hw ha hag hBF hN hc'
    cases d with
    | zero => simp [walkT] at hw
    | succ d =>
      rw [walkT] at hw
      simp only [Option.bind_eq_some_iff] at hw
      obtain ⟨c1, h1, h2⟩ := hw
      rw [updT, h1]
      simp only
      have hup : (updT c1 (s' :: r) c').isAg = false := by
        cases d with
        | zero => simp [walkT] at h2
        | succ d =>
          simp only [walkT, Option.bind_eq_some_iff] at h2
          obtain ⟨c2, h3, _⟩ := h2
          simp only [updT, h3]
          cases c1 with
          | sl e nl xs => simp only [T.upd1]; split <;> rfl
          | p e x => rfl
          | _ => simp [T.step] at h3
      cases t with
      | sl e nl xs =>
        obtain ⟨us, ho, hs, Bs, hsp, hc⟩ := h
        obtain ⟨x, hx, ho2⟩ := step_sl h1
        have hfl := flat_get hs hx ho2
        have hlt : q.1 * P.cellsOf e + q.2 < us.length := by
          rw [ho.len, ← flat_length hs]; exact (List.getElem?_eq_some_iff.1 hfl).1
        obtain ⟨g, cap, rfl, hob, hcell, hfr⟩ := owns_addr ho hlt
        simp only [walkA, stepA, Option.bind_some, h1, Nat.zero_add, hcell] at ha
        have hsub := hc _ _ _ hfl (List.getElem?_eq_getElem hlt)
        obtain ⟨a', _, _, ha', _, _, _, hBa, _⟩ := walk_read r s' d c1 _ _ d' c hsub h2
        rw [ha] at ha'
        simp only [Option.some.injEq] at ha'
        subst ha'
        have hin := ih s' d c1 _ _ d' c a c' v' hsub h2 ha hag (fun b hb => hBF b (hsp.2.1 _ b hb).1) (fun b hb hb2 => hN b hb (hsp.2.1 _ b hb2).1) hc'
        rw [upd1_sl _ hx]
        have hset : us.set (q.1 * P.cellsOf e + q.2) us[q.1 * P.cellsOf e + q.2] = us := List.set_getElem_self hlt
        have hag2 : a.block ≠ g := fun e => (hsp.2.1 _ _ hBa).2 (by rw [hob, e])
        refine ⟨us, ?_, set_fits hs hx ho2 hup, _, split_set (k := q.1 * P.cellsOf e + q.2) hsp hN (fun b hb => hb), ?_⟩
        · rw [List.length_set]
          exact ho.same (same_setCell w a v' (fun b => b = g) hag2) (fun b hb => by rw [hob] at hb; simpa using hb.symm)
        · rw [flat_set hs hx ho2 hup]
          have key := cells_set (ts := flat xs) (us := us) (k := q.1 * P.cellsOf e + q.2) (w' := w.setCell a v') hc (fun j hj => ?_) hin
          · rw [hset] at key; exact key
          · refine same_setCell _ _ _ _ fun hb => ?_
            rcases hb with hb | hb
            · exact hBF _ (hsp.2.1 _ _ hBa).1 hb
            · exact hj (hsp.2.2 _ _ _ hb hBa)
      | p e x =>
        obtain ⟨b, us, hv, hb, hsz, hs, Bs, hsp, hc⟩ := h
        subst hv
        have h1' := h1
        simp only [T.step] at h1
        split at h1
        case isFalse => cases h1
        rename_i hi
        have hlt : q.2 < us.size := by rw [hsz, ← hs.1]; exact (List.getElem?_eq_some_iff.1 h1).1
        simp only [walkA, stepA, Option.bind_some, h1', Nat.zero_add, cell_of_row w b q.2 us e (0, 0) hb] at ha
        rw [Array.getElem?_eq_getElem hlt] at ha
        simp only [Option.bind_some] at ha
        have hsub := hc _ _ _ h1 (Array.getElem?_eq_getElem hlt)
        obtain ⟨a', _, _, ha', _, _, _, hBa, _⟩ := walk_read r s' d c1 _ _ d' c hsub h2
        rw [ha] at ha'
        simp only [Option.some.injEq] at ha'
        subst ha'
        have hin := ih s' d c1 _ _ d' c a c' v' hsub h2 ha hag (fun b hb => hBF b (hsp.2.1 _ b hb).1) (fun b hb hb2 => hN b hb (hsp.2.1 _ b hb2).1) hc'
        have hag2 : a.block ≠ b := fun e => (hsp.2.1 _ _ hBa).2 (by rw [e])
        refine ⟨b, us, rfl, by rw [heap_setCell_other w a b v' (Ne.symm hag2)]; exact hb, hsz, setCell_fits hs h1 hup, _, split_set (k := q.2) hsp hN (fun b hb => hb), ?_⟩
        rw [setCell_cells h1 hup]
        have hset : us.toList.set q.2 us[q.2] = us.toList := by
          rw [← Array.getElem_toList]; exact List.set_getElem_self (by simpa using hlt)
        have key := cells_set (ts := x.cells) (us := us.toList) (k := q.2) (w' := w.setCell a v')
          (fun j t u hj hu => hc j t u hj (by simpa using hu)) (fun j hj => ?_) hin
        · rw [hset] at key
          intro j t u hj hu
          exact key j t u hj (by simpa using hu)
        · refine same_setCell _ _ _ _ fun hb2 => ?_
          rcases hb2 with hb2 | hb2
          · exact hBF _ (hsp.2.1 _ _ hBa).1 hb2
          · exact hj (hsp.2.2 _ _ _ hb2 hBa)
      | _ => simp [T.step] at h1
end Go.Eng
namespace Go.Eng
variable {P : Program}
structure G where
  F : Nat → Prop
  B : Nat → Nat → Prop
  ad : Nat → Nat
  vv : Nat → Nat → Value
def rootV (g : G) (w : World) (k : Nat) (r : Root) (j : Nat) : Option Value :=
  match r.mem with
  | some _ => w.cell? ⟨g.ad k, j, none⟩
  | none => some (g.vv k j)
def at_ (sto : List (Nat × Root)) (l : Loc) : Option (Nat × T) :=
  match get sto l.root with
  | none => none
  | some r => match r.cells[l.off]? with
    | some (.o d t) => walkT d t l.steps
    | _ => none
def locA (P : Program) (g : G) (w : World) (sto : List (Nat × Root)) (l : Loc) : Option Addr :=
  match get sto l.root with
  | none => none
  | some r => match l.steps with
    | [] => r.mem.map fun _ => ⟨g.ad l.root, l.off, none⟩
    | q :: s => match r.cells[l.off]? with
      | some (.o _ t) => (rootV g w l.root r l.off).bind fun u => walkA P w t u q s
      | _ => none
def locV (P : Program) (g : G) (w : World) (sto : List (Nat × Root)) (l : Loc) : Option Value :=
  match l.steps with
  | [] => (get sto l.root).bind fun r => rootV g w l.root r l.off
  | _ => (locA P g w sto l).bind w.cell?
def There (sto : List (Nat × Root)) (l : Loc) : Prop :=
  match l.steps with
  | [] => ∃ r e, get sto l.root = some r ∧ r.mem = some e
  | _ => ∃ x, at_ sto l = some x
inductive VRep (P : Program) (g : G) (w : World) (sto : List (Nat × Root)) : AV → Value → Prop
  | v (t u) (h : RepT P w g.F t u) : VRep P g w sto (.v t) u
  | ar (l n u) (h : ∀ d e nl xs, at_ sto l = some (d, .sl e nl xs) → xs.length = n → locV P g w sto l = some u) : VRep P g w sto (.ar l n) u
  | pt (l u) (h : There sto l → ∃ a, locA P g w sto l = some a ∧ u = .pointer (some a)) : VRep P g w sto (.pt l) u
  | z (e b) : VRep P g w sto (.z e) (.slice b 0 0)
  | tl (t b n) (h : RepT P w g.F t (.slice b n n)) : VRep P g w sto (.tl t) (.slice b n n)
  | fp (x) (b o : Nat) (us : Nat → Value) (hF : g.F b) (hc : ∀ j t, x.cells[j]? = some t → w.cell? ⟨b, o + j, none⟩ = some (us j))
      (hr : ∀ j t, x.cells[j]? = some t → RepT P w g.F t (us j)) : VRep P g w sto (.fp x) (.pointer (some ⟨b, o, none⟩))
  | ag (cs) (vs : Array Value) (us : Nat → Value) (hl : vs.size = cs.length) (hv : ∀ j t, cs[j]? = some t → vs[j]? = some (us j))
      (hr : ∀ j t, cs[j]? = some t → VRep P g w sto t (us j)) : VRep P g w sto (.ag cs) (.agg vs)
  | tu (cs) (vs : Array Value) (us : Nat → Value) (hl : vs.size = cs.length) (hv : ∀ j t, cs[j]? = some t → vs[j]? = some (us j))
      (hr : ∀ j t, cs[j]? = some t → VRep P g w sto t (us j)) : VRep P g w sto (.tu cs) (.tuple vs)
  | fn (f cs) (vs : Array Value) (us : Nat → Value) (hl : vs.size = cs.length) (hv : ∀ j t, cs[j]? = some t → vs[j]? = some (us j))
      (hr : ∀ j t, cs[j]? = some t → VRep P g w sto t (us j)) : VRep P g w sto (.fn f cs) (.func (.func f) #[] vs)
  | u (u) : VRep P g w sto .u u
def ERep (P : Program) (g : G) (w : World) (sto : List (Nat × Root)) : E → Value → (Nat → Prop) → Prop
  | .o d t, u, B => RepM P w g.F d t u B
  | .rf l, u, _ => VRep P g w sto (.pt l) u
  | .mv, _, _ => True
def RootOk (P : Program) (g : G) (w : World) (sto : List (Nat × Root)) (k : Nat) (r : Root) : Prop :=
  (∀ e, r.mem = some e → ∃ cs, w.heap[g.ad k]? = some (.cells cs e (0, 0)) ∧ cs.size = r.cells.length) ∧
  ∃ Bs, Split (g.B k) (r.mem.map fun _ => g.ad k) Bs ∧ ∀ j e, r.cells[j]? = some e → ∃ u, rootV g w k r j = some u ∧ ERep P g w sto e u (Bs j)
structure SRep (P : Program) (g : G) (sto : List (Nat × Root)) (w : World) : Prop where
  root : ∀ k r, get sto k = some r → RootOk P g w sto k r
  apart : ∀ k k' r r', get sto k = some r → get sto k' = some r' → ∀ b, g.B k b → g.B k' b → k = k'
  own : ∀ k r, get sto k = some r → ∀ b, g.B k b → ¬ g.F b ∧ b < w.heap.size
structure Base where
  w : World
  F : Nat → Prop
  B : Nat → Prop
structure Kept (β : Base) (g : G) (sto : List (Nat × Root)) (w : World) : Prop where
  os : w.os = β.w.os
  tape : w.tape = β.w.tape
  output : w.output = β.w.output
  size : β.w.heap.size ≤ w.heap.size
  block : ∀ b, b < β.w.heap.size → ¬ β.B b → w.heap[b]? = β.w.heap[b]?
  F : ∀ b, β.F b → g.F b
  F' : ∀ b, g.F b → β.F b ∨ β.B b ∨ β.w.heap.size ≤ b
  B : ∀ k r, get sto k = some r → ∀ b, g.B k b → β.B b ∨ β.w.heap.size ≤ b
def EnvRep (P : Program) (g : G) (sto : List (Nat × Root)) (w : World) (env : List (Nat × AV)) (tmps : Array Value) : Prop :=
  ∀ s v, get env s = some v → ∃ u, tmps[s]? = some u ∧ VRep P g w sto v u
structure Rel (P : Program) (β : Base) (nt : Nat) (st : St) (a : Act) (w : World) : Prop where
  defers : a.defers = []
  size : a.tmps.size = nt
  ex : ∃ g, SRep P g st.sto w ∧ Kept β g st.sto w ∧ EnvRep P g st.sto w st.env a.tmps
structure Pres (P : Program) (g g' : G) (w w' : World) (sto sto' : List (Nat × Root)) (l : Loc) : Prop where
  ar : ∀ d e nl xs, at_ sto' l = some (d, .sl e nl xs) → ∃ d0 nl0 xs0, at_ sto l = some (d0, .sl e nl0 xs0) ∧ xs0.length = xs.length ∧ locV P g' w' sto' l = locV P g w sto l
  pt : There sto' l → There sto l ∧ locA P g' w' sto' l = locA P g w sto l
mutual
def AV.locs : AV → List Loc
  | .ar l _ => [l]
  | .pt l => [l]
  | .ag cs => locsL cs
  | .tu cs => locsL cs
  | .fn _ cs => locsL cs
  | _ => []
def locsL : List AV → List Loc
  | [] => []
  | c :: cs => c.locs ++ locsL cs
end
end Go.Eng
namespace Go.Eng
variable {P : Program}
mutual
def AV.inv (fa fp : Loc → Bool) : AV → AV
  | .ar l n => if fa l then .u else .ar l n
  | .pt l => if fp l then .u else .pt l
  | .ag cs => .ag (invL fa fp cs)
  | .tu cs => .tu (invL fa fp cs)
  | .fn f cs => .fn f (invL fa fp cs)
  | .v t => .v t
  | .z e => .z e
  | .tl t => .tl t
  | .fp x => .fp x
  | .u => .u
def invL (fa fp : Loc → Bool) : List AV → List AV
  | [] => []
  | c :: cs => c.inv fa fp :: invL fa fp cs
end
theorem invL_map (fa fp : Loc → Bool) (cs : List AV) : invL fa fp cs = cs.map (AV.inv fa fp) := by
  induction cs with
  | nil => rfl
  | cons c cs ih => simp [invL, ih]
def E.inv (fp : Loc → Bool) : E → E
  | .rf l => if fp l then .mv else .rf l
  | e => e
def Root.inv (fp : Loc → Bool) (r : Root) : Root := { r with cells := r.cells.map (E.inv fp) }
def invS (fp : Loc → Bool) : List (Nat × Root) → List (Nat × Root)
  | [] => []
  | (k, r) :: s => (k, r.inv fp) :: invS fp s
def invN (fa fp : Loc → Bool) : List (Nat × AV) → List (Nat × AV)
  | [] => []
  | (k, v) :: s => (k, v.inv fa fp) :: invN fa fp s
theorem get_invS (fp : Loc → Bool) (sto : List (Nat × Root)) (k : Nat) : get (invS fp sto) k = (get sto k).map (Root.inv fp) := by
  induction sto with
  | nil => rfl
  | cons p s ih => obtain ⟨j, r⟩ := p; simp only [invS, get]; split <;> simp_all
theorem get_invN (fa fp : Loc → Bool) (env : List (Nat × AV)) (k : Nat) : get (invN fa fp env) k = (get env k).map (AV.inv fa fp) := by
  induction env with
  | nil => rfl
  | cons p s ih => obtain ⟨j, r⟩ := p; simp only [invN, get]; split <;> simp_all
theorem VRep.inv {g g' : G} {w w' : World} {sto sto' : List (Nat × Root)} {fa fp : Loc → Bool} (hw : SameOn g.F w w') (hF : ∀ b, g.F b → g'.F b)
    (ha : ∀ l, fa l = false → ∀ d e nl xs, at_ sto' l = some (d, .sl e nl xs) → ∃ d0 nl0 xs0, at_ sto l = some (d0, .sl e nl0 xs0) ∧ xs0.length = xs.length ∧ locV P g' w' sto' l = locV P g w sto l)
    (hp : ∀ l, fp l = false → There sto' l → There sto l ∧ locA P g' w' sto' l = locA P g w sto l) {v : AV} {u : Value}
    (h : VRep P g w sto v u) : VRep P g' w' sto' (v.inv fa fp) u := by
  induction h with
  | v t u h => exact .v t u (h.mono hw hF)
  | ar l n u h =>
    simp only [AV.inv]
    split
    · exact .u u
    · rename_i hf
      refine .ar l n u fun d e nl xs h1 hn => ?_
      obtain ⟨d0, nl0, xs0, h2, h3, h4⟩ := ha l (by simpa using hf) d e nl xs h1
      rw [h4]
      exact h d0 e nl0 xs0 h2 (by omega)
  | pt l u h =>
    simp only [AV.inv]
    split
    · exact .u u
    · rename_i hf
      refine .pt l u fun ht => ?_
      obtain ⟨h1, h2⟩ := hp l (by simpa using hf) ht
      rw [h2]
      exact h h1
  | z e b => exact .z e b
  | tl t b n h => exact .tl t b n (h.mono hw hF)
  | fp x b o us h1 hc hr => exact .fp x b o us (hF _ h1) (fun j t hj => hw.cell (a := ⟨b, o + j, none⟩) h1 (hc j t hj)) fun j t hj => (hr j t hj).mono hw hF
  | ag cs vs us hl hv _ ih =>
    simp only [AV.inv, invL_map]
    refine .ag _ vs us (by simpa using hl) (fun j t hj => ?_) fun j t hj => ?_ <;>
      (rw [List.getElem?_map, Option.map_eq_some_iff] at hj; obtain ⟨c, hc, rfl⟩ := hj)
    · exact hv j c hc
    · exact ih j c hc
  | tu cs vs us hl hv _ ih =>
    simp only [AV.inv, invL_map]
    refine .tu _ vs us (by simpa using hl) (fun j t hj => ?_) fun j t hj => ?_ <;>
      (rw [List.getElem?_map, Option.map_eq_some_iff] at hj; obtain ⟨c, hc, rfl⟩ := hj)
    · exact hv j c hc
    · exact ih j c hc
  | fn f cs vs us hl hv _ ih =>
    simp only [AV.inv, invL_map]
    refine .fn f _ vs us (by simpa using hl) (fun j t hj => ?_) fun j t hj => ?_ <;>
      (rw [List.getElem?_map, Option.map_eq_some_iff] at hj; obtain ⟨c, hc, rfl⟩ := hj)
    · exact hv j c hc
    · exact ih j c hc
  | u u => exact .u u
structure Move (P : Program) (β : Base) (g : G) (sto : List (Nat × Root)) (w : World) (g' : G) (sto' : List (Nat × Root)) (w' : World) (fa fp : Loc → Bool) : Prop where
  same : SameOn g.F w w'
  F : ∀ b, g.F b → g'.F b
  ar : ∀ l, fa l = false → ∀ d e nl xs, at_ sto' l = some (d, .sl e nl xs) → ∃ d0 nl0 xs0, at_ sto l = some (d0, .sl e nl0 xs0) ∧ xs0.length = xs.length ∧ locV P g' w' sto' l = locV P g w sto l
  pt : ∀ l, fp l = false → There sto' l → There sto l ∧ locA P g' w' sto' l = locA P g w sto l
  srep : SRep P g' sto' w'
  kept : Kept β g' sto' w'
theorem Move.val {β : Base} {g g' : G} {sto sto' : List (Nat × Root)} {w w' : World} {fa fp : Loc → Bool} (h : Move P β g sto w g' sto' w' fa fp) {v : AV} {u : Value}
    (hv : VRep P g w sto v u) : VRep P g' w' sto' (v.inv fa fp) u := hv.inv h.same h.F h.ar h.pt
theorem Move.env {β : Base} {g g' : G} {sto sto' : List (Nat × Root)} {w w' : World} {fa fp : Loc → Bool} (h : Move P β g sto w g' sto' w' fa fp) {env : List (Nat × AV)} {tmps : Array Value}
    (hv : EnvRep P g sto w env tmps) : EnvRep P g' sto' w' (invN fa fp env) tmps := by
  intro s v hs
  rw [get_invN, Option.map_eq_some_iff] at hs
  obtain ⟨v0, h0, rfl⟩ := hs
  obtain ⟨u, hu, hr⟩ := hv s v0 h0
  exact ⟨u, hu, h.val hr⟩
theorem EnvRep.put {g : G} {sto : List (Nat × Root)} {w : World} {env : List (Nat × AV)} {tmps : Array Value} (h : EnvRep P g sto w env tmps) {d : Nat} (hd : d < tmps.size) {v : AV} {u : Value}
    (hv : VRep P g w sto v u) : EnvRep P g sto w (put env d v) (tmps.setIfInBounds d u) := by
  intro s v' hs
  rw [get_put] at hs
  by_cases hsd : s = d
  · subst hsd
    simp only [if_true, Option.some.injEq] at hs
    subst hs
    exact ⟨u, by simp [hd], hv⟩
  · rw [if_neg hsd] at hs
    obtain ⟨u', h1, h2⟩ := h s v' hs
    exact ⟨u', by rw [Array.getElem?_setIfInBounds_ne (Ne.symm hsd)]; exact h1, h2⟩
theorem EnvRep.del {g : G} {sto : List (Nat × Root)} {w : World} {env : List (Nat × AV)} {tmps : Array Value} (h : EnvRep P g sto w env tmps) (d : Nat) (u : Value) :
    EnvRep P g sto w (del env d) (tmps.setIfInBounds d u) := by
  intro s v' hs
  rw [get_del] at hs
  by_cases hsd : s = d
  · subst hsd; simp at hs
  · rw [if_neg hsd] at hs
    obtain ⟨u', h1, h2⟩ := h s v' hs
    exact ⟨u', by rw [Array.getElem?_setIfInBounds_ne (Ne.symm hsd)]; exact h1, h2⟩
theorem rootV_same {g : G} {w w' : World} {k : Nat} {r : Root} {j : Nat} {S : Nat → Prop} (h : SameOn S w w') (hS : ∀ e, r.mem = some e → S (g.ad k)) {u : Value}
    (hu : rootV g w k r j = some u) : rootV g w' k r j = some u := by
  unfold rootV at *
  split
  · rename_i e he
    simp only [he] at hu
    exact h.cell (a := ⟨g.ad k, j, none⟩) (hS e he) hu
  · rename_i he
    simp only [he] at hu
    exact hu
theorem walkA_same {w w' : World} {F : Nat → Prop} : ∀ (r : List (Nat × Nat)) (q : Nat × Nat) (d : Nat) (t : T) (u : Value) (B : Nat → Prop) (x : Nat × T),
    SameOn B w w' → RepM P w F d t u B → walkT d t (q :: r) = some x → walkA P w' t u q r = walkA P w t u q r := by
  intro r
  induction r with
  | nil => intro q d t u B x _ _ _; rfl
  | cons q' r ih =>
    intro q d t u B x hs h hw
    cases d with
    | zero => simp [walkT] at hw
    | succ d =>
      have hw0 := hw
      rw [walkT] at hw
      simp only [Option.bind_eq_some_iff] at hw
      obtain ⟨c1, h1, h2⟩ := hw
      have hw1 : walkT (d + 1) t [q] = some (d, c1) := by simp [walkT, h1]
      obtain ⟨a, u', B', ha, _, hcl, _, hB, hR, hsub, _⟩ := walk_read [] q (d + 1) t u B d c1 h hw1
      simp only [walkA] at ha ⊢
      rw [ha, h1]
      simp only [Option.bind_some]
      rw [hcl, hs.cell hB hcl]
      simp only [Option.bind_some]
      exact ih q' d c1 u' B' x (hs.mono fun b hb => (hsub b hb).1) hR h2
def Live (g : G) (sto : List (Nat × Root)) (b : Nat) : Prop := ∃ k r, get sto k = some r ∧ g.B k b
theorem RootOk.ad_mem {g : G} {w : World} {sto : List (Nat × Root)} {k : Nat} {r : Root} (h : RootOk P g w sto k r) {e : TypeId} (he : r.mem = some e) : g.B k (g.ad k) := by
  obtain ⟨_, Bs, hsp, _⟩ := h
  exact hsp.1 _ (by simp [he])
theorem locA_same {g : G} {w w' : World} {sto : List (Nat × Root)} (hs : SameOn (Live g sto) w w') (h : SRep P g sto w) (l : Loc) (hl : There sto l) : locA P g w' sto l = locA P g w sto l := by
  obtain ⟨k, off, steps⟩ := l
  cases steps with
  | nil => rfl
  | cons q s =>
    obtain ⟨x, hx⟩ := hl
    unfold at_ at hx
    unfold locA
    cases hr : get sto k with
    | none => rfl
    | some r =>
      simp only [hr] at hx ⊢
      cases hc : r.cells[off]? with
      | none => rfl
      | some e =>
        simp only [hc] at hx ⊢
        cases e with
        | o d t =>
          simp only at hx ⊢
          have hok := h.root k r hr
          obtain ⟨h1, Bs, hsp, hcell⟩ := hok
          obtain ⟨u, hu, hrep⟩ := hcell off _ hc
          have hu' := rootV_same (hs.mono (S' := g.B k) fun b hb => ⟨k, r, hr, hb⟩) (fun e he => hsp.1 _ (by simp [he])) hu
          simp only [hu, hu', Option.bind_some]
          exact walkA_same s q d t u (Bs off) x (hs.mono fun b hb => ⟨k, r, hr, (hsp.2.1 _ b hb).1⟩) hrep hx
        | _ => rfl
theorem at_root {sto : List (Nat × Root)} {l : Loc} {x : Nat × T} (h : at_ sto l = some x) : ∃ r d t, get sto l.root = some r ∧ r.cells[l.off]? = some (.o d t) ∧ walkT d t l.steps = some x := by
  unfold at_ at h
  cases hr : get sto l.root with
  | none => rw [hr] at h; cases h
  | some r =>
    simp only [hr] at h
    cases hc : r.cells[l.off]? with
    | none => rw [hc] at h; cases h
    | some e =>
      simp only [hc] at h
      cases e with
      | o d t => exact ⟨r, d, t, rfl, hc, h⟩
      | _ => cases h
theorem locV_same {g : G} {w w' : World} {sto : List (Nat × Root)} (hs : SameOn (Live g sto) w w') (h : SRep P g sto w) (l : Loc) {x : Nat × T} (hl : at_ sto l = some x) : locV P g w' sto l = locV P g w sto l := by
  obtain ⟨k, off, steps⟩ := l
  obtain ⟨r, d, t, hr, hc, hw⟩ := at_root hl
  simp only at hr hc hw
  obtain ⟨h1, Bs, hsp, hcell⟩ := h.root k r hr
  obtain ⟨u, hu, hrep⟩ := hcell off _ hc
  have hsB : SameOn (g.B k) w w' := hs.mono fun b hb => ⟨k, r, hr, hb⟩
  have hu' := rootV_same hsB (fun e he => hsp.1 _ (by simp [he])) hu
  cases steps with
  | nil => simp only [locV, hr, Option.bind_some, hu, hu']
  | cons q s =>
    obtain ⟨a, u', B', ha, _, hcl, _, hB, _⟩ := walk_read s q d t u (Bs off) _ _ hrep hw
    have hA := locA_same hs h ⟨k, off, q :: s⟩ ⟨x, hl⟩
    have hA2 : locA P g w sto ⟨k, off, q :: s⟩ = some a := by simp only [locA, hr, hc, hu, Option.bind_some]; exact ha
    simp only [locV, hA, hA2, Option.bind_some]
    rw [hcl, hsB.cell (hsp.2.1 _ _ hB).1 hcl]
theorem srep_same {g : G} {w w' : World} {sto : List (Nat × Root)} (hs : SameOn (fun b => g.F b ∨ Live g sto b) w w') (hsz : w.heap.size ≤ w'.heap.size) (h : SRep P g sto w) : SRep P g sto w' := by
  have hL : SameOn (Live g sto) w w' := hs.mono fun _ h => .inr h
  refine ⟨fun k r hr => ?_, h.apart, fun k r hr b hb => ⟨(h.own k r hr b hb).1, Nat.lt_of_lt_of_le (h.own k r hr b hb).2 hsz⟩⟩
  obtain ⟨h1, Bs, hsp, hcell⟩ := h.root k r hr
  refine ⟨fun e he => ?_, Bs, hsp, fun j e hj => ?_⟩
  · obtain ⟨cs, hcs, hsz⟩ := h1 e he
    exact ⟨cs, by rw [hL (g.ad k) ⟨k, r, hr, hsp.1 _ (by simp [he])⟩ (Array.getElem?_eq_some_iff.1 hcs).1]; exact hcs, hsz⟩
  · obtain ⟨u, hu, hrep⟩ := hcell j e hj
    refine ⟨u, rootV_same (hL.mono fun b (hb : g.B k b) => ⟨k, r, hr, hb⟩) (fun _ he => hsp.1 _ (by simp [he])) hu, ?_⟩
    cases e with
    | o d t => exact RepM.mono d (hs.mono fun b hb => hb.imp id fun hb => ⟨k, r, hr, (hsp.2.1 _ b hb).1⟩) (fun _ h => h) (fun _ h => h) hrep
    | rf l =>
      have := VRep.inv (P := P) (g := g) (g' := g) (w := w) (w' := w') (sto := sto) (sto' := sto) (fa := fun _ => false) (fp := fun _ => false) (hs.mono fun _ h => .inl h) (fun _ h => h)
        (fun l _ d e nl xs ha => ⟨d, nl, xs, ha, rfl, locV_same hL h l ha⟩) (fun l _ ht => ⟨ht, locA_same hL h l ht⟩) hrep
      have h2 : VRep P g w' sto (.pt l) u := by simpa [AV.inv] using this
      exact h2
    | mv => trivial
theorem move_world {β : Base} {g : G} {sto : List (Nat × Root)} {w w' : World} (h : SRep P g sto w) (hk : Kept β g sto w)
    (hs : SameOn (fun b => g.F b ∨ Live g sto b) w w') (hsz : w.heap.size ≤ w'.heap.size) (hfr : ∀ b, b < β.w.heap.size → ¬ β.B b → w'.heap[b]? = w.heap[b]?)
    (hos : w'.os = w.os) (htape : w'.tape = w.tape) (hout : w'.output = w.output) : Move P β g sto w g sto w' (fun _ => false) (fun _ => false) where
  same := hs.mono fun _ h => .inl h
  F := fun _ h => h
  ar := fun l _ d e nl xs ha => ⟨d, nl, xs, ha, rfl, locV_same (hs.mono fun _ h => .inr h) h l ha⟩
  pt := fun l _ ht => ⟨ht, locA_same (hs.mono fun _ h => .inr h) h l ht⟩
  srep := srep_same hs hsz h
  kept := ⟨hos.trans hk.os, htape.trans hk.tape, hout.trans hk.output, Nat.le_trans hk.size hsz, fun b hb hB => (hfr b hb hB).trans (hk.block b hb hB), hk.F, hk.F', hk.B⟩
theorem inv_none (v : AV) : v.inv (fun _ => false) (fun _ => false) = v := by
  induction v using AV.rec (motive_2 := fun cs => invL (fun _ => false) (fun _ => false) cs = cs) with
  | v t => rfl
  | ar l n => simp [AV.inv]
  | pt l => simp [AV.inv]
  | z e => rfl
  | tl t => rfl
  | fp x => rfl
  | ag cs ih => simp [AV.inv, ih]
  | tu cs ih => simp [AV.inv, ih]
  | fn f cs ih => simp [AV.inv, ih]
  | u => rfl
  | nil => rfl
  | cons c cs h1 h2 => simp [invL, h1, h2]
end Go.Eng
namespace Go.Eng
variable {P : Program}
theorem inv_mem (fp : Loc → Bool) (r : Root) : (r.inv fp).mem = r.mem := rfl
theorem inv_cells (fp : Loc → Bool) (r : Root) (j : Nat) : (r.inv fp).cells[j]? = (r.cells[j]?).map (E.inv fp) := by simp [Root.inv]
theorem at_inv (fp : Loc → Bool) (sto : List (Nat × Root)) (l : Loc) : at_ (invS fp sto) l = at_ sto l := by
  unfold at_
  rw [get_invS]
  cases get sto l.root with
  | none => rfl
  | some r =>
    simp only [Option.map_some, inv_cells]
    cases r.cells[l.off]? with
    | none => rfl
    | some e =>
      cases e with
      | o d t => rfl
      | rf l' => simp only [Option.map_some, E.inv]; split <;> rename_i h <;> first | rfl | (split at h <;> simp_all)
      | mv => rfl
theorem rootV_inv (g : G) (w : World) (k : Nat) (fp : Loc → Bool) (r : Root) (j : Nat) : rootV g w k (r.inv fp) j = rootV g w k r j := rfl
theorem locA_inv (g : G) (w : World) (fp : Loc → Bool) (sto : List (Nat × Root)) (l : Loc) : locA P g w (invS fp sto) l = locA P g w sto l := by
  unfold locA
  rw [get_invS]
  cases get sto l.root with
  | none => rfl
  | some r =>
    simp only [Option.map_some, inv_cells, inv_mem, rootV_inv]
    cases l.steps with
    | nil => rfl
    | cons q s =>
      simp only
      cases r.cells[l.off]? with
      | none => rfl
      | some e =>
        cases e with
        | o d t => rfl
        | rf l' => simp only [Option.map_some, E.inv]; split <;> rename_i h <;> first | rfl | (split at h <;> simp_all)
        | mv => rfl
theorem locV_inv (g : G) (w : World) (fp : Loc → Bool) (sto : List (Nat × Root)) (l : Loc) : locV P g w (invS fp sto) l = locV P g w sto l := by
  unfold locV
  cases l.steps with
  | nil =>
    simp only [get_invS]
    cases get sto l.root with
    | none => rfl
    | some r => rfl
  | cons q s => simp only [locA_inv]
theorem there_inv (fp : Loc → Bool) (sto : List (Nat × Root)) (l : Loc) : There (invS fp sto) l ↔ There sto l := by
  unfold There
  cases l.steps with
  | nil =>
    simp only [get_invS]
    cases get sto l.root with
    | none => simp
    | some r => simp [inv_mem]
  | cons q s => simp only [at_inv]
def G.set (g : G) (F' : Nat → Prop) (k : Nat) (Bk : Nat → Prop) (ad : Nat) (vv : Nat → Value) : G :=
  ⟨F', fun j => if j = k then Bk else g.B j, fun j => if j = k then ad else g.ad j, fun j => if j = k then vv else g.vv j⟩
theorem at_other {sto sto' : List (Nat × Root)} {l : Loc} (h : get sto' l.root = get sto l.root) : at_ sto' l = at_ sto l := by unfold at_; rw [h]
theorem there_other {sto sto' : List (Nat × Root)} {l : Loc} (h : get sto' l.root = get sto l.root) : There sto' l ↔ There sto l := by
  unfold There
  cases l.steps with
  | nil => simp only [h]
  | cons q s => simp only [at_other h]
def LiveBut (g : G) (sto : List (Nat × Root)) (k : Nat) (b : Nat) : Prop := ∃ j r, j ≠ k ∧ get sto j = some r ∧ g.B j b
theorem rootV_set {g : G} {w : World} {F' : Nat → Prop} {k : Nat} {Bk : Nat → Prop} {ad : Nat} {vv : Nat → Value} {j : Nat} (h : j ≠ k) (r : Root) (o : Nat) : rootV (g.set F' k Bk ad vv) w j r o = rootV g w j r o := by
  simp [rootV, G.set, h]
theorem locA_set {g : G} {w : World} {F' : Nat → Prop} {k : Nat} {Bk : Nat → Prop} {ad : Nat} {vv : Nat → Value} {sto sto' : List (Nat × Root)} {l : Loc} (h : l.root ≠ k) (hs : get sto' l.root = get sto l.root) :
    locA P (g.set F' k Bk ad vv) w sto' l = locA P g w sto l := by
  unfold locA
  rw [hs]
  simp only [rootV_set h]
  simp [G.set, h]
theorem locV_set {g : G} {w : World} {F' : Nat → Prop} {k : Nat} {Bk : Nat → Prop} {ad : Nat} {vv : Nat → Value} {sto sto' : List (Nat × Root)} {l : Loc} (h : l.root ≠ k) (hs : get sto' l.root = get sto l.root) :
    locV P (g.set F' k Bk ad vv) w sto' l = locV P g w sto l := by
  unfold locV
  rw [hs]
  simp only [rootV_set h, locA_set h hs]
theorem srep_del {g : G} {w : World} {sto : List (Nat × Root)} (h : SRep P g sto w) (k : Nat) : SRep P g (del (invS (fun l => l.root == k) sto) k) w := by
  have hget : ∀ j r, get (del (invS (fun l => l.root == k) sto) k) j = some r → j ≠ k ∧ ∃ r0, get sto j = some r0 ∧ r = r0.inv (fun l => l.root == k) := by
    intro j r hr
    rw [get_del] at hr
    split at hr
    · cases hr
    · rename_i hj
      rw [get_invS, Option.map_eq_some_iff] at hr
      obtain ⟨r0, h0, rfl⟩ := hr
      exact ⟨hj, r0, h0, rfl⟩
  have hsame : ∀ j, j ≠ k → get (del (invS (fun l => l.root == k) sto) k) j = get (invS (fun l => l.root == k) sto) j := fun j hj => by rw [get_del, if_neg hj]
  refine ⟨fun j r hr => ?_, fun j j' r r' hr hr' b hb hb' => ?_, fun j r hr b hb => ?_⟩
  · obtain ⟨hj, r0, h0, rfl⟩ := hget j r hr
    obtain ⟨h1, Bs, hsp, hcell⟩ := h.root j r0 h0
    refine ⟨fun e he => ?_, Bs, hsp, fun o e ho => ?_⟩
    · obtain ⟨cs, hcs, hsz⟩ := h1 e he
      exact ⟨cs, hcs, by simpa [Root.inv] using hsz⟩
    · rw [inv_cells, Option.map_eq_some_iff] at ho
      obtain ⟨e0, h2, rfl⟩ := ho
      obtain ⟨u, hu, hrep⟩ := hcell o e0 h2
      refine ⟨u, hu, ?_⟩
      cases e0 with
      | o d t => exact hrep
      | rf l =>
        simp only [E.inv]
        split
        · trivial
        · rename_i hl
          have hl : l.root ≠ k := by simpa using hl
          have hrep : VRep P g w sto (.pt l) u := hrep
          cases hrep with
          | pt _ _ hp =>
            refine .pt l u fun ht => ?_
            have ht' : There sto l := (there_inv _ sto l).1 ((there_other (hsame _ hl)).1 ht)
            obtain ⟨a, ha, he⟩ := hp ht'
            refine ⟨a, ?_, he⟩
            rw [← ha, ← locA_inv g w (fun l => l.root == k) sto l]
            unfold locA
            rw [hsame _ hl]
      | mv => trivial
  · obtain ⟨_, r0, h0, _⟩ := hget j r hr
    obtain ⟨_, r1, h1, _⟩ := hget j' r' hr'
    exact h.apart j j' r0 r1 h0 h1 b hb hb'
  · obtain ⟨_, r0, h0, _⟩ := hget j r hr
    exact h.own j r0 h0 b hb
theorem move_root {β : Base} {g : G} {sto : List (Nat × Root)} {w w' : World} (h : SRep P g sto w) (hk : Kept β g sto w) (k : Nat) (r' : Root)
    (F' Bk : Nat → Prop) (ad : Nat) (vv : Nat → Value) (fa fp : Loc → Bool)
    (hfo : ∀ l, l.root ≠ k → fa l = false ∧ fp l = false)
    (hfa : ∀ l, l.root = k → fa l = false → ∀ d e nl xs, at_ (put (invS fp sto) k r') l = some (d, .sl e nl xs) → ∃ d0 nl0 xs0, at_ sto l = some (d0, .sl e nl0 xs0) ∧ xs0.length = xs.length ∧
      locV P (g.set F' k Bk ad vv) w' (put (invS fp sto) k r') l = locV P g w sto l)
    (hfp : ∀ l, l.root = k → fp l = false → There (put (invS fp sto) k r') l → There sto l ∧ locA P (g.set F' k Bk ad vv) w' (put (invS fp sto) k r') l = locA P g w sto l)
    (hF : ∀ b, g.F b → F' b)
    (hF' : ∀ b, F' b → β.F b ∨ β.B b ∨ β.w.heap.size ≤ b)
    (hS : SameOn (fun b => g.F b ∨ LiveBut g sto k b) w w') (hsz : w.heap.size ≤ w'.heap.size)
    (hfr : ∀ b, b < β.w.heap.size → ¬ β.B b → w'.heap[b]? = w.heap[b]?)
    (hos : w'.os = w.os) (htape : w'.tape = w.tape) (hout : w'.output = w.output)
    (hroot : (∀ l u, fp l = false → VRep P g w sto (.pt l) u → VRep P (g.set F' k Bk ad vv) w' (put (invS fp sto) k r') (.pt l) u) → RootOk P (g.set F' k Bk ad vv) w' (put (invS fp sto) k r') k r')
    (hap : ∀ b, Bk b → ¬ LiveBut g sto k b) (hown : ∀ b, Bk b → ¬ F' b ∧ b < w'.heap.size) (hoth : ∀ b, LiveBut g sto k b → ¬ F' b)
    (hB : ∀ b, Bk b → β.B b ∨ β.w.heap.size ≤ b) :
    Move P β g sto w (g.set F' k Bk ad vv) (put (invS fp sto) k r') w' fa fp := by
  have hget : ∀ j, j ≠ k → get (put (invS fp sto) k r') j = get (invS fp sto) j := fun j hj => by rw [get_put, if_neg hj]
  have hgk : get (put (invS fp sto) k r') k = some r' := by rw [get_put, if_pos rfl]
  have hdel := srep_del h k
  have hSo : ∀ l : Loc, l.root ≠ k → There sto l → locA P g w' sto l = locA P g w sto l := by
    intro l hl ht
    have hs2 : SameOn (Live g (del (invS (fun l => l.root == k) sto) k)) w w' := hS.mono fun b ⟨j, r, hr, hb⟩ => by
      rw [get_del] at hr
      split at hr
      · cases hr
      · rename_i hj
        rw [get_invS, Option.map_eq_some_iff] at hr
        obtain ⟨r0, h0, _⟩ := hr
        exact .inr ⟨j, r0, hj, h0, hb⟩
    have e : ∀ wx, locA P g wx (del (invS (fun l => l.root == k) sto) k) l = locA P g wx sto l := by
      intro wx
      rw [← locA_inv g wx (fun l => l.root == k) sto l]
      unfold locA
      rw [get_del, if_neg hl]
    have ht' : There (del (invS (fun l => l.root == k) sto) k) l := (there_other (by rw [get_del, if_neg hl])).2 ((there_inv _ sto l).2 ht)
    have := locA_same (P := P) hs2 hdel l ht'
    rw [e, e] at this
    exact this
  have hVo : ∀ l : Loc, l.root ≠ k → ∀ x, at_ sto l = some x → locV P g w' sto l = locV P g w sto l := by
    intro l hl x hx
    have hs2 : SameOn (Live g (del (invS (fun l => l.root == k) sto) k)) w w' := hS.mono fun b ⟨j, r, hr, hb⟩ => by
      rw [get_del] at hr
      split at hr
      · cases hr
      · rename_i hj
        rw [get_invS, Option.map_eq_some_iff] at hr
        obtain ⟨r0, h0, _⟩ := hr
        exact .inr ⟨j, r0, hj, h0, hb⟩
    have e : ∀ wx, locV P g wx (del (invS (fun l => l.root == k) sto) k) l = locV P g wx sto l := by
      intro wx
      rw [← locV_inv g wx (fun l => l.root == k) sto l]
      unfold locV locA
      rw [get_del, if_neg hl]
    have hx' : at_ (del (invS (fun l => l.root == k) sto) k) l = some x := by rw [at_other (sto := invS (fun l => l.root == k) sto) (by rw [get_del, if_neg hl]), at_inv]; exact hx
    have := locV_same (P := P) hs2 hdel l hx'
    rw [e, e] at this
    exact this
  have har : ∀ l, fa l = false → ∀ d e nl xs, at_ (put (invS fp sto) k r') l = some (d, .sl e nl xs) → ∃ d0 nl0 xs0, at_ sto l = some (d0, .sl e nl0 xs0) ∧ xs0.length = xs.length ∧
      locV P (g.set F' k Bk ad vv) w' (put (invS fp sto) k r') l = locV P g w sto l := by
    intro l hl d e nl xs ha
    by_cases hlk : l.root = k
    · exact hfa l hlk hl d e nl xs ha
    · have ha' : at_ sto l = some (d, .sl e nl xs) := by rw [← at_inv fp sto l, ← at_other (hget _ hlk)]; exact ha
      refine ⟨d, nl, xs, ha', rfl, ?_⟩
      rw [locV_set hlk (hget _ hlk), locV_inv]
      exact hVo l hlk _ ha'
  have hpt : ∀ l, fp l = false → There (put (invS fp sto) k r') l → There sto l ∧ locA P (g.set F' k Bk ad vv) w' (put (invS fp sto) k r') l = locA P g w sto l := by
    intro l hl ht
    by_cases hlk : l.root = k
    · exact hfp l hlk hl ht
    · have ht' : There sto l := (there_inv fp sto l).1 ((there_other (hget _ hlk)).1 ht)
      refine ⟨ht', ?_⟩
      rw [locA_set hlk (hget _ hlk), locA_inv]
      exact hSo l hlk ht'
  have hFsame : SameOn g.F w w' := hS.mono fun _ h => .inl h
  have hval : ∀ l u, fp l = false → VRep P g w sto (.pt l) u → VRep P (g.set F' k Bk ad vv) w' (put (invS fp sto) k r') (.pt l) u := by
    intro l u hl hv
    have := VRep.inv (P := P) (fa := fa) (fp := fp) hFsame (g' := g.set F' k Bk ad vv) hF har hpt hv
    simpa [AV.inv, hl] using this
  refine ⟨hFsame, hF, har, hpt, ⟨fun j r hr => ?_, fun j j' r1 r2 hr1 hr2 b hb1 hb2 => ?_, fun j r hr b hb => ?_⟩, ?_⟩
  · by_cases hj : j = k
    · subst hj
      rw [hgk] at hr
      simp only [Option.some.injEq] at hr
      subst hr
      exact hroot hval
    · rw [hget j hj, get_invS, Option.map_eq_some_iff] at hr
      obtain ⟨r0, h0, rfl⟩ := hr
      obtain ⟨h1, Bs, hsp, hcell⟩ := h.root j r0 h0
      have hSj : SameOn (g.B j) w w' := hS.mono fun b hb => .inr ⟨j, r0, hj, h0, hb⟩
      refine ⟨fun e he => ?_, Bs, by simpa [G.set, hj, inv_mem] using hsp, fun o e ho => ?_⟩
      · obtain ⟨cs, hcs, hsz⟩ := h1 e he
        simp only [G.set, if_neg hj]
        exact ⟨cs, by rw [hSj (g.ad j) (hsp.1 _ (by rw [inv_mem] at he; simp [he])) (Array.getElem?_eq_some_iff.1 hcs).1]; exact hcs, by simpa [Root.inv] using hsz⟩
      · rw [inv_cells, Option.map_eq_some_iff] at ho
        obtain ⟨e0, h2, rfl⟩ := ho
        obtain ⟨u, hu, hrep⟩ := hcell o e0 h2
        refine ⟨u, by rw [rootV_set hj, rootV_inv]; exact rootV_same hSj (fun _ he => hsp.1 _ (by simp [he])) hu, ?_⟩
        cases e0 with
        | o d t => exact RepM.mono d (hS.mono fun b hb => hb.imp id fun hb => ⟨j, r0, hj, h0, (hsp.2.1 _ b hb).1⟩) hF (fun _ h => h) hrep
        | rf l =>
          simp only [E.inv]
          split
          · trivial
          · rename_i hl
            exact hval l u (by simpa using hl) hrep
        | mv => trivial
  · have key : ∀ j r, get (put (invS fp sto) k r') j = some r → j ≠ k → ∀ b, (g.set F' k Bk ad vv).B j b → LiveBut g sto k b := by
      intro j r hr hj b hb
      rw [hget j hj, get_invS, Option.map_eq_some_iff] at hr
      obtain ⟨r0, h0, _⟩ := hr
      simp only [G.set, if_neg hj] at hb
      exact ⟨j, r0, hj, h0, hb⟩
    by_cases h1 : j = k <;> by_cases h2 : j' = k
    · rw [h1, h2]
    · subst h1
      exact absurd (key j' r2 hr2 h2 b hb2) (hap b (by simpa [G.set] using hb1))
    · subst h2
      exact absurd (key j r1 hr1 h1 b hb1) (hap b (by simpa [G.set] using hb2))
    · rw [hget j h1, get_invS, Option.map_eq_some_iff] at hr1
      rw [hget j' h2, get_invS, Option.map_eq_some_iff] at hr2
      obtain ⟨q1, e1, _⟩ := hr1
      obtain ⟨q2, e2, _⟩ := hr2
      simp only [G.set, if_neg h1] at hb1
      simp only [G.set, if_neg h2] at hb2
      exact h.apart j j' q1 q2 e1 e2 b hb1 hb2
  · by_cases hj : j = k
    · subst hj
      exact hown b (by simpa [G.set] using hb)
    · rw [hget j hj, get_invS, Option.map_eq_some_iff] at hr
      obtain ⟨r0, h0, _⟩ := hr
      simp only [G.set, if_neg hj] at hb
      exact ⟨hoth b ⟨j, r0, hj, h0, hb⟩, Nat.lt_of_lt_of_le (h.own j r0 h0 b hb).2 hsz⟩
  · refine ⟨hos.trans hk.os, htape.trans hk.tape, hout.trans hk.output, Nat.le_trans hk.size hsz, fun b hb hB => (hfr b hb hB).trans (hk.block b hb hB), fun b hb => hF b (hk.F b hb), hF', fun j r hr b hb => ?_⟩
    by_cases hj : j = k
    · subst hj
      exact hB b (by simpa [G.set] using hb)
    · rw [hget j hj, get_invS, Option.map_eq_some_iff] at hr
      obtain ⟨r0, h0, _⟩ := hr
      simp only [G.set, if_neg hj] at hb
      exact hk.B j r0 h0 b hb
end Go.Eng
namespace Go.Eng
variable {P : Program}
def Root.set (fp : Loc → Bool) (r : Root) (j : Nat) (e : E) : Root := { r with cells := (r.cells.map (E.inv fp)).set j e }
theorem set_cells_ne {fp : Loc → Bool} {r : Root} {j i : Nat} {e : E} (h : i ≠ j) : (r.set fp j e).cells[i]? = (r.cells[i]?).map (E.inv fp) := by
  simp [Root.set, List.getElem?_set_ne (Ne.symm h)]
theorem set_cells_eq {fp : Loc → Bool} {r : Root} {j : Nat} {e : E} (h : j < r.cells.length) : (r.set fp j e).cells[j]? = some e := by
  simp [Root.set, h]
theorem move_cell {β : Base} {g : G} {sto : List (Nat × Root)} {w w' : World} (h : SRep P g sto w) (hk : Kept β g sto w) {k : Nat} {r : Root} (hr : get sto k = some r) {j : Nat} (hj : j < r.cells.length)
    {Bs : Nat → Nat → Prop} (hsp : Split (g.B k) (r.mem.map fun _ => g.ad k) Bs) (hcell : ∀ i e, r.cells[i]? = some e → ∃ u, rootV g w k r i = some u ∧ ERep P g w sto e u (Bs i))
    (e' : E) (v' : Value) (F' N : Nat → Prop) (vv : Nat → Value) (fa fp : Loc → Bool)
    (hfo : ∀ l, l.root ≠ k ∨ l.off ≠ j → fa l = false ∧ fp l = false)
    (hfa : ∀ l, l.root = k → l.off = j → fa l = false → ∀ d e nl xs, at_ (put (invS fp sto) k (r.set fp j e')) l = some (d, .sl e nl xs) → ∃ d0 nl0 xs0, at_ sto l = some (d0, .sl e nl0 xs0) ∧ xs0.length = xs.length ∧
      locV P (g.set F' k (fun b => (g.B k b ∧ ¬ Bs j b) ∨ N b) (g.ad k) vv) w' (put (invS fp sto) k (r.set fp j e')) l = locV P g w sto l)
    (hfp : ∀ l, l.root = k → l.off = j → fp l = false → There (put (invS fp sto) k (r.set fp j e')) l → There sto l ∧
      locA P (g.set F' k (fun b => (g.B k b ∧ ¬ Bs j b) ∨ N b) (g.ad k) vv) w' (put (invS fp sto) k (r.set fp j e')) l = locA P g w sto l)
    (hF : ∀ b, g.F b → F' b) (hF' : ∀ b, F' b → g.F b ∨ Bs j b ∨ (β.F b ∨ β.B b ∨ β.w.heap.size ≤ b) ∧ ¬ Live g sto b)
    (hS : SameOn (fun b => g.F b ∨ LiveBut g sto k b ∨ ∃ i, i ≠ j ∧ Bs i b) w w') (hsz : w.heap.size ≤ w'.heap.size)
    (hfr : ∀ b, b < β.w.heap.size → ¬ β.B b → w'.heap[b]? = w.heap[b]?)
    (hos : w'.os = w.os) (htape : w'.tape = w.tape) (hout : w'.output = w.output)
    (hmem : ∀ e, r.mem = some e → ∃ cs, w'.heap[g.ad k]? = some (.cells cs e (0, 0)) ∧ cs.size = r.cells.length)
    (hvi : ∀ i u, i ≠ j → rootV g w k r i = some u → (match r.mem with | some _ => w'.cell? ⟨g.ad k, i, none⟩ | none => some (vv i)) = some u)
    (hvj : (match r.mem with | some _ => w'.cell? ⟨g.ad k, j, none⟩ | none => some (vv j)) = some v')
    (hNe : (∀ l u, fp l = false → VRep P g w sto (.pt l) u → VRep P (g.set F' k (fun b => (g.B k b ∧ ¬ Bs j b) ∨ N b) (g.ad k) vv) w' (put (invS fp sto) k (r.set fp j e')) (.pt l) u) →
      ERep P (g.set F' k (fun b => (g.B k b ∧ ¬ Bs j b) ∨ N b) (g.ad k) vv) w' (put (invS fp sto) k (r.set fp j e')) e' v' N)
    (hNo : ∀ b, N b → ¬ LiveBut g sto k b ∧ (g.B k b → Bs j b) ∧ ¬ F' b ∧ b < w'.heap.size ∧ (β.B b ∨ β.w.heap.size ≤ b)) :
    Move P β g sto w (g.set F' k (fun b => (g.B k b ∧ ¬ Bs j b) ∨ N b) (g.ad k) vv) (put (invS fp sto) k (r.set fp j e')) w' fa fp := by
  have hrV : ∀ i, rootV (g.set F' k (fun b => (g.B k b ∧ ¬ Bs j b) ∨ N b) (g.ad k) vv) w' k (r.set fp j e') i = (match r.mem with | some _ => w'.cell? ⟨g.ad k, i, none⟩ | none => some (vv i)) := by
    intro i
    simp only [rootV, Root.set, G.set, if_true] <;> cases r.mem <;> rfl
  have hgk : get (put (invS fp sto) k (r.set fp j e')) k = some (r.set fp j e') := by rw [get_put, if_pos rfl]
  have hother : ∀ l : Loc, l.root = k → l.off ≠ j → at_ (put (invS fp sto) k (r.set fp j e')) l = at_ sto l := by
    intro l hl ho
    rw [← at_inv fp sto l]
    unfold at_
    rw [hl, hgk, get_invS, hr]
    simp only [Option.map_some, set_cells_ne ho, inv_cells]
  have hthere : ∀ l : Loc, l.root = k → l.off ≠ j → There (put (invS fp sto) k (r.set fp j e')) l → There sto l := by
    intro l hl ho ht
    unfold There at ht ⊢
    cases hs : l.steps with
    | nil =>
      simp only [hs] at ht ⊢
      obtain ⟨r1, e1, h1, h2⟩ := ht
      rw [hl, hgk] at h1
      simp only [Option.some.injEq] at h1
      subst h1
      exact ⟨r, e1, by rw [hl]; exact hr, h2⟩
    | cons q s =>
      simp only [hs] at ht ⊢
      rw [hother l hl ho] at ht
      exact ht
  have hA : ∀ l : Loc, l.root = k → l.off ≠ j → There sto l → locA P (g.set F' k (fun b => (g.B k b ∧ ¬ Bs j b) ∨ N b) (g.ad k) vv) w' (put (invS fp sto) k (r.set fp j e')) l = locA P g w sto l := by
    intro l hl ho ht
    unfold locA
    rw [hl, hgk, hr]
    simp only
    cases hs : l.steps with
    | nil => simp [Root.set, G.set]
    | cons q s =>
      simp only [set_cells_ne ho]
      unfold There at ht
      rw [hs] at ht
      obtain ⟨x, hx⟩ := ht
      obtain ⟨r1, d, t, h1, h2, h3⟩ := at_root hx
      rw [hl, hr] at h1
      simp only [Option.some.injEq] at h1
      subst h1
      simp only [h2, Option.map_some, E.inv]
      obtain ⟨u, hu, hrep⟩ := hcell l.off _ h2
      rw [hrV, hvi l.off u ho hu, hu]
      simp only [Option.bind_some]
      rw [hs] at h3
      exact walkA_same s q d t u (Bs l.off) x (hS.mono fun b hb => .inr (.inr ⟨l.off, ho, hb⟩)) hrep h3
  refine move_root h hk k (r.set fp j e') F' (fun b => (g.B k b ∧ ¬ Bs j b) ∨ N b) (g.ad k) vv fa fp (fun l hl => hfo l (.inl hl)) ?_ ?_ hF ?_ (hS.mono fun b hb => hb.imp id .inl) hsz hfr hos htape hout ?_ ?_ ?_ ?_ ?_
  · intro l hl hf d e nl xs ha
    by_cases ho : l.off = j
    · exact hfa l hl ho hf d e nl xs ha
    · rw [hother l hl ho] at ha
      refine ⟨d, nl, xs, ha, rfl, ?_⟩
      obtain ⟨r1, d1, t1, h1, h2, h3⟩ := at_root ha
      rw [hl, hr] at h1
      simp only [Option.some.injEq] at h1
      subst h1
      obtain ⟨u, hu, hrep⟩ := hcell l.off _ h2
      cases hs : l.steps with
      | nil =>
        unfold locV
        rw [hs, hl, hgk, hr]
        simp only [Option.bind_some]
        rw [hrV, hvi l.off u ho hu, hu]
      | cons q s =>
        have ht : There sto l := by unfold There; rw [hs]; exact ⟨_, ha⟩
        have hA' := hA l hl ho ht
        unfold locV
        rw [hs]
        simp only
        rw [hA']
        rw [hs] at h3
        obtain ⟨a, u', B', h4, _, hcl, _, hB, _⟩ := walk_read s q d1 t1 u (Bs l.off) _ _ hrep h3
        have h5 : locA P g w sto l = some a := by
          unfold locA
          rw [hl, hr]
          simp only [hs, h2, hu, Option.bind_some]
          exact h4
        rw [h5]
        simp only [Option.bind_some]
        rw [hcl]
        exact hS.cell (.inr (.inr ⟨l.off, ho, hB⟩)) hcl
  · intro l hl hf ht
    by_cases ho : l.off = j
    · exact hfp l hl ho hf ht
    · exact ⟨hthere l hl ho ht, hA l hl ho (hthere l hl ho ht)⟩
  · intro b hb
    rcases hF' b hb with h1 | h1 | h1
    · exact hk.F' b h1
    · rcases hk.B k r hr b (hsp.2.1 j b h1).1 with h2 | h2
      · exact .inr (.inl h2)
      · exact .inr (.inr h2)
    · exact h1.1
  · intro hval
    refine ⟨fun e he => ?_, fun i => if i = j then N else Bs i, ⟨fun b hb => ?_, fun i b hb => ?_, fun i i' b hi hi' => ?_⟩, fun i e he => ?_⟩
    · have he : r.mem = some e := he
      obtain ⟨cs, h1, h2⟩ := hmem e he
      exact ⟨cs, by simpa [G.set] using h1, by simpa [Root.set] using h2⟩
    · have hb' : r.mem.map (fun _ => g.ad k) = some b := by simpa [Root.set, G.set] using hb
      simp only [G.set, if_true]
      exact .inl ⟨hsp.1 b hb', fun hc => (hsp.2.1 j b hc).2 hb'⟩
    · simp only [G.set, if_true]
      have hown : (r.set fp j e').mem.map (fun _ => g.ad k) = r.mem.map fun _ => g.ad k := rfl
      rw [hown]
      by_cases hi : i = j
      · simp only [if_pos hi] at hb
        refine ⟨.inr hb, fun he => ?_⟩
        have h1 := hsp.1 b he
        exact (hsp.2.1 j b ((hNo b hb).2.1 h1)).2 he
      · simp only [if_neg hi] at hb
        exact ⟨.inl ⟨(hsp.2.1 i b hb).1, fun hc => hi (hsp.2.2 _ _ _ hb hc)⟩, (hsp.2.1 i b hb).2⟩
    · by_cases h1 : i = j <;> by_cases h2 : i' = j
      · rw [h1, h2]
      · simp only [if_pos h1] at hi
        simp only [if_neg h2] at hi'
        exact absurd (hsp.2.2 _ _ _ hi' ((hNo b hi).2.1 (hsp.2.1 _ b hi').1)) h2
      · simp only [if_neg h1] at hi
        simp only [if_pos h2] at hi'
        exact absurd (hsp.2.2 _ _ _ hi ((hNo b hi').2.1 (hsp.2.1 _ b hi).1)) h1
      · simp only [if_neg h1] at hi
        simp only [if_neg h2] at hi'
        exact hsp.2.2 _ _ _ hi hi'
    · by_cases hi : i = j
      · subst hi
        rw [set_cells_eq hj] at he
        simp only [Option.some.injEq] at he
        subst he
        refine ⟨v', by rw [hrV]; exact hvj, ?_⟩
        simpa using hNe hval
      · rw [set_cells_ne hi, Option.map_eq_some_iff] at he
        obtain ⟨e0, h1, rfl⟩ := he
        obtain ⟨u, hu, hrep⟩ := hcell i e0 h1
        refine ⟨u, by rw [hrV]; exact hvi i u hi hu, ?_⟩
        simp only [if_neg hi]
        cases e0 with
        | o d t => exact RepM.mono d (hS.mono fun b hb => hb.imp id fun hb => .inr ⟨i, hi, hb⟩) hF (fun _ h => h) hrep
        | rf l =>
          simp only [E.inv]
          split
          · trivial
          · rename_i hl
            exact hval l u (by simpa using hl) hrep
        | mv => trivial
  · intro b hb hL
    rcases hb with hb | hb
    · obtain ⟨i, r1, hi, h1, h2⟩ := hL
      exact hi (h.apart k i r r1 hr h1 b hb.1 h2).symm
    · exact (hNo b hb).1 hL
  · intro b hb
    rcases hb with hb | hb
    · refine ⟨fun hFb => ?_, Nat.lt_of_lt_of_le (h.own k r hr b hb.1).2 hsz⟩
      rcases hF' b hFb with h1 | h1 | h1
      · exact (h.own k r hr b hb.1).1 h1
      · exact hb.2 h1
      · exact h1.2 ⟨k, r, hr, hb.1⟩
    · exact ⟨(hNo b hb).2.2.1, (hNo b hb).2.2.2.1⟩
  · intro b ⟨i, r1, hi, h1, h2⟩ hFb
    rcases hF' b hFb with h3 | h3 | h3
    · exact (h.own i r1 h1 b h2).1 h3
    · exact hi (h.apart i k r1 r h1 hr b h2 (hsp.2.1 j b h3).1)
    · exact h3.2 ⟨i, r1, h1, h2⟩
  · intro b hb
    rcases hb with hb | hb
    · exact hk.B k r hr b hb.1
    · exact (hNo b hb).2.2.2.2
end Go.Eng
namespace Go.Eng
variable {P : Program}
def faC (k j : Nat) (l : Loc) : Bool := l.root == k && l.off == j
def fpC (k j : Nat) (l : Loc) : Bool := l.root == k && l.off == j && !l.steps.isEmpty
def fdC (k j : Nat) (l : Loc) : Bool := l.root == k && l.off == j && !l.steps.isEmpty
def Free (β : Base) (g : G) (sto : List (Nat × Root)) (w : World) (N : Nat → Prop) : Prop :=
  ∀ b, N b → ¬ Live g sto b ∧ ¬ g.F b ∧ b < w.heap.size ∧ (β.B b ∨ β.w.heap.size ≤ b)
theorem liveBut_live {g : G} {sto : List (Nat × Root)} {k b : Nat} (h : LiveBut g sto k b) : Live g sto b := by
  obtain ⟨j, r, _, h1, h2⟩ := h
  exact ⟨j, r, h1, h2⟩
theorem get_lt {α : Type} {l : List α} {j : Nat} {x : α} (h : l[j]? = some x) : j < l.length := (List.getElem?_eq_some_iff.1 h).1
theorem live_put {g : G} {sto : List (Nat × Root)} {k : Nat} {r : Root} (F' Bk : Nat → Prop) (ad : Nat) (vv : Nat → Value) (fp : Loc → Bool) {b : Nat}
    (h : Live (g.set F' k Bk ad vv) (put (invS fp sto) k r) b) : LiveBut g sto k b ∨ Bk b := by
  obtain ⟨j, r1, h1, h2⟩ := h
  by_cases hj : j = k
  · subst hj
    exact .inr (by simpa [G.set] using h2)
  · rw [get_put, if_neg hj, get_invS, Option.map_eq_some_iff] at h1
    obtain ⟨r0, h3, _⟩ := h1
    exact .inl ⟨j, r0, hj, h3, by simpa [G.set, hj] using h2⟩
theorem move_take {β : Base} {g : G} {sto : List (Nat × Root)} {w : World} (h : SRep P g sto w) (hk : Kept β g sto w) {k : Nat} {r : Root} (hr : get sto k = some r) {j d : Nat} {t : T} (hc : r.cells[j]? = some (.o d t)) :
    ∃ g' u N, Move P β g sto w g' (put (invS (fpC k j) sto) k (r.set (fpC k j) j .mv)) w (faC k j) (fpC k j) ∧ g'.F = g.F ∧ rootV g w k r j = some u ∧ RepM P w g.F d t u N ∧
      Free β g' (put (invS (fpC k j) sto) k (r.set (fpC k j) j .mv)) w N ∧ g'.ad = g.ad ∧ (∀ b, Live g' (put (invS (fpC k j) sto) k (r.set (fpC k j) j .mv)) b → Live g sto b) ∧ (∀ b, N b → Live g sto b) := by
  obtain ⟨h1, Bs, hsp, hcell⟩ := h.root k r hr
  obtain ⟨u, hu, hrep⟩ := hcell j _ hc
  have had : (g.set g.F k (fun b => (g.B k b ∧ ¬ Bs j b) ∨ False) (g.ad k) (g.vv k)).ad = g.ad := by
    funext i; simp only [G.set]; split <;> simp_all
  refine ⟨g.set g.F k (fun b => (g.B k b ∧ ¬ Bs j b) ∨ False) (g.ad k) (g.vv k), u, Bs j, ?_, rfl, hu, hrep, ?_, had, ?_, fun b hb => ⟨k, r, hr, (hsp.2.1 j b hb).1⟩⟩
  · refine move_cell h hk hr (get_lt hc) hsp hcell .mv u g.F (fun _ => False) (g.vv k) (faC k j) (fpC k j) ?_ ?_ ?_ (fun _ h => h) (fun b hb => .inl hb) (SameOn.refl _ w) (Nat.le_refl _) (fun _ _ _ => rfl) rfl rfl rfl h1 ?_ ?_ (fun _ => trivial) (fun b hb => hb.elim)
    · intro l hl
      simp only [faC, fpC]
      rcases hl with hl | hl <;> simp [hl]
    · intro l hl ho hf
      simp [faC, hl, ho] at hf
    · intro l hl ho hf ht
      simp only [fpC, hl, ho, BEq.rfl, Bool.and_true, Bool.true_and, Bool.not_eq_false', List.isEmpty_iff] at hf
      unfold There at ht ⊢
      unfold locA
      simp only [hf] at ht ⊢
      obtain ⟨r1, e1, h2, h3⟩ := ht
      rw [hl, get_put, if_pos rfl] at h2
      simp only [Option.some.injEq] at h2
      subst h2
      refine ⟨⟨r, e1, by rw [hl]; exact hr, h3⟩, ?_⟩
      rw [hl, get_put, if_pos rfl, hr]
      simp [Root.set, G.set]
    · intro i v hi hv
      simp only [rootV] at hv
      exact hv
    · simp only [rootV] at hu
      exact hu
  · intro b hb
    refine ⟨fun hl => ?_, (h.own k r hr b (hsp.2.1 j b hb).1).1, (h.own k r hr b (hsp.2.1 j b hb).1).2, hk.B k r hr b (hsp.2.1 j b hb).1⟩
    rcases live_put _ _ _ _ _ hl with ⟨i, r1, hi, h2, h3⟩ | h2
    · exact hi (h.apart i k r1 r h2 hr b h3 (hsp.2.1 j b hb).1)
    · rcases h2 with h2 | h2
      · exact h2.2 hb
      · exact h2
  · intro b hl
    rcases live_put _ _ _ _ _ hl with h2 | h2
    · exact liveBut_live h2
    · rcases h2 with h2 | h2
      · exact ⟨k, r, hr, h2.1⟩
      · exact h2.elim
theorem faC_other {k j : Nat} (l : Loc) (hl : l.root ≠ k ∨ l.off ≠ j) : faC k j l = false ∧ fpC k j l = false := by
  simp only [faC, fpC]
  rcases hl with hl | hl <;> simp [hl]
theorem there_put {sto : List (Nat × Root)} {k : Nat} {r r' : Root} {l : Loc} {fp : Loc → Bool} (hr : get sto k = some r) (hm : r'.mem = r.mem) (hl : l.root = k) (hs : l.steps = [])
    (ht : There (put (invS fp sto) k r') l) : There sto l := by
  unfold There at ht ⊢
  simp only [hs] at ht ⊢
  obtain ⟨r1, e1, h2, h3⟩ := ht
  rw [hl, get_put, if_pos rfl] at h2
  simp only [Option.some.injEq] at h2
  subst h2
  exact ⟨r, e1, by rw [hl]; exact hr, by rw [← hm]; exact h3⟩
theorem locA_put {g : G} {w w' : World} {sto : List (Nat × Root)} {k : Nat} {r r' : Root} {l : Loc} {fp : Loc → Bool} {F' Bk : Nat → Prop} {vv : Nat → Value} (hr : get sto k = some r) (hm : r'.mem = r.mem)
    (hl : l.root = k) (hs : l.steps = []) : locA P (g.set F' k Bk (g.ad k) vv) w' (put (invS fp sto) k r') l = locA P g w sto l := by
  unfold locA
  rw [hl, get_put, if_pos rfl, hr]
  simp [hs, hm, G.set]
theorem not_live_of_free {β : Base} {g : G} {sto : List (Nat × Root)} {w : World} {N : Nat → Prop} (hN : Free β g sto w N) {k : Nat} {r : Root} (hr : get sto k = some r) {b : Nat} (hb : N b) : ¬ g.B k b :=
  fun hk => (hN b hb).1 ⟨k, r, hr, hk⟩
theorem move_putM {β : Base} {g : G} {sto : List (Nat × Root)} {w : World} (h : SRep P g sto w) (hk : Kept β g sto w) {k : Nat} {r : Root} (hr : get sto k = some r) {e0 : TypeId} (hm : r.mem = some e0) {j : Nat} (hj : j < r.cells.length)
    (e : E) (v : Value) (N : Nat → Prop) (hN : Free β g sto w N)
    (hrep : match e with | .o d t => RepM P w g.F d t v N | .rf l => VRep P g w sto (.pt l) v ∧ fpC k j l = false | .mv => True) :
    ∃ g', Move P β g sto w g' (put (invS (fpC k j) sto) k (r.set (fpC k j) j e)) (w.setCell ⟨g.ad k, j, none⟩ v) (faC k j) (fpC k j) ∧ g'.F = g.F ∧ g'.ad = g.ad ∧
      ∀ b, Live g' (put (invS (fpC k j) sto) k (r.set (fpC k j) j e)) b → Live g sto b ∨ N b := by
  obtain ⟨h1, Bs, hsp, hcell⟩ := h.root k r hr
  have hadB : g.B k (g.ad k) := hsp.1 _ (by simp [hm])
  have hadF : ¬ g.F (g.ad k) := (h.own k r hr _ hadB).1
  have hadN : ¬ N (g.ad k) := fun hn => (hN _ hn).1 ⟨k, r, hr, hadB⟩
  obtain ⟨cs, hcs, hsz⟩ := h1 e0 hm
  have hcs' := heap_setCell_same w (g.ad k) j cs e0 v hcs
  refine ⟨g.set g.F k (fun b => (g.B k b ∧ ¬ Bs j b) ∨ N b) (g.ad k) (g.vv k), ?_, rfl, by funext i; simp only [G.set]; split <;> simp_all, fun b hb => (live_put _ _ _ _ _ hb).elim (fun h => .inl (liveBut_live h)) fun h => h.elim (fun h => .inl ⟨k, r, hr, h.1⟩) .inr⟩
  refine move_cell h hk hr hj hsp hcell e v g.F N (g.vv k) (faC k j) (fpC k j) faC_other ?_ ?_ (fun _ h => h) (fun b hb => .inl hb) ?_ (by simp) ?_ rfl rfl rfl ?_ ?_ ?_ ?_ ?_
  · intro l hl ho hf
    simp [faC, hl, ho] at hf
  · intro l hl ho hf ht
    simp only [fpC, hl, ho, BEq.rfl, Bool.and_true, Bool.true_and, Bool.not_eq_false', List.isEmpty_iff] at hf
    exact ⟨there_put hr (r' := Root.set _ r j _) rfl hl hf ht, locA_put hr (r' := Root.set _ r j _) rfl hl hf⟩
  · refine same_setCell _ _ _ _ fun hb => ?_
    rcases hb with hb | ⟨i, r1, hi, h2, h3⟩ | ⟨i, _, h3⟩
    · exact hadF hb
    · exact hi (h.apart i k r1 r h2 hr _ h3 hadB)
    · exact (hsp.2.1 i _ h3).2 (by simp [hm])
  · intro b hb hB
    refine heap_setCell_other w _ b v fun he => ?_
    simp only at he
    subst he
    rcases hk.B k r hr _ hadB with h2 | h2
    · exact hB h2
    · omega
  · intro e1 he1
    rw [hm] at he1
    simp only [Option.some.injEq] at he1
    subst he1
    exact ⟨_, hcs', by simpa using hsz⟩
  · intro i u hi hu
    simp only [rootV, hm] at hu ⊢
    rw [cell_of_row _ _ _ _ _ _ hcs', Array.getElem?_setIfInBounds_ne (Ne.symm hi), ← cell_of_row w _ i cs e0 _ hcs]
    exact hu
  · simp only [hm]
    rw [cell_of_row _ _ _ _ _ _ hcs']
    simp [hsz, hj]
  · intro hval
    cases e with
    | o d t =>
      refine RepM.mono d (same_setCell _ _ _ _ fun hb => ?_) (fun _ h => h) (fun _ h => h) hrep
      rcases hb with hb | hb
      · exact hadF hb
      · exact hadN hb
    | rf l => exact hval l v hrep.2 hrep.1
    | mv => trivial
  · intro b hb
    exact ⟨fun hl => (hN b hb).1 (liveBut_live hl), fun hB => absurd hB (not_live_of_free hN hr hb), (hN b hb).2.1, by simpa using (hN b hb).2.2.1, (hN b hb).2.2.2⟩
theorem move_freeze {β : Base} {g : G} {sto : List (Nat × Root)} {w : World} (h : SRep P g sto w) (hk : Kept β g sto w) {k : Nat} {r : Root} (hr : get sto k = some r) {j d : Nat} {t : T} (hc : r.cells[j]? = some (.o d t))
    {Bs : Nat → Nat → Prop} (hsp : Split (g.B k) (r.mem.map fun _ => g.ad k) Bs) (hcell : ∀ i e, r.cells[i]? = some e → ∃ u, rootV g w k r i = some u ∧ ERep P g w sto e u (Bs i)) :
    Move P β g sto w (g.set (fun b => g.F b ∨ Bs j b) k (fun b => (g.B k b ∧ ¬ Bs j b) ∨ False) (g.ad k) (g.vv k)) (put (invS (fun _ => false) sto) k (r.set (fun _ => false) j (.o 0 t))) w (fun _ => false) (fun _ => false) := by
  obtain ⟨h1, _⟩ := h.root k r hr
  obtain ⟨u, hu, hrep⟩ := hcell j _ hc
  have hT : RepT P w (fun b => g.F b ∨ Bs j b) t u := RepM.give d hrep
  refine move_cell h hk hr (get_lt hc) hsp hcell (.o 0 t) u (fun b => g.F b ∨ Bs j b) (fun _ => False) (g.vv k) _ _ (fun _ _ => ⟨rfl, rfl⟩) ?_ ?_ (fun _ h => .inl h) (fun b hb => hb.elim .inl fun h => .inr (.inl h)) (SameOn.refl _ w) (Nat.le_refl _) (fun _ _ _ => rfl) rfl rfl rfl h1 ?_ ?_ (fun _ => hT) (fun b hb => hb.elim)
  · intro l hl ho _ d1 e nl xs ha
    obtain ⟨r1, d2, t2, h2, h3, h4⟩ := at_root ha
    rw [hl, get_put, if_pos rfl] at h2
    simp only [Option.some.injEq] at h2
    subst h2
    rw [ho, set_cells_eq (get_lt hc)] at h3
    simp only [Option.some.injEq, E.o.injEq] at h3
    obtain ⟨rfl, rfl⟩ := h3
    cases hs : l.steps with
    | cons q s => rw [hs] at h4; simp [walkT] at h4
    | nil =>
      rw [hs] at h4
      simp only [walkT, Option.some.injEq, Prod.mk.injEq] at h4
      obtain ⟨rfl, rfl⟩ := h4
      refine ⟨d, nl, xs, by unfold at_; rw [hl, hr]; simp only [ho, hc, hs, walkT], rfl, ?_⟩
      unfold locV
      rw [hs, hl, get_put, if_pos rfl, hr]
      simp [rootV, Root.set, G.set]
  · intro l hl ho _ ht
    cases hs : l.steps with
    | nil => exact ⟨there_put hr (r' := Root.set _ r j _) rfl hl hs ht, locA_put hr (r' := Root.set _ r j _) rfl hl hs⟩
    | cons q s =>
      unfold There at ht
      rw [hs] at ht
      obtain ⟨x, hx⟩ := ht
      obtain ⟨r1, d2, t2, h2, h3, h4⟩ := at_root hx
      rw [hl, get_put, if_pos rfl] at h2
      simp only [Option.some.injEq] at h2
      subst h2
      rw [ho, set_cells_eq (get_lt hc)] at h3
      simp only [Option.some.injEq, E.o.injEq] at h3
      obtain ⟨rfl, rfl⟩ := h3
      rw [hs] at h4
      simp [walkT] at h4
  · intro i v hi hv
    simp only [rootV] at hv
    exact hv
  · simp only [rootV] at hu
    exact hu
theorem move_newE {β : Base} {g : G} {sto : List (Nat × Root)} {w : World} (h : SRep P g sto w) (hk : Kept β g sto w) (k : Nat) (mem : Option TypeId) (cs : List E) (ad : Nat) (vv : Nat → Value)
    (N : Nat → Prop) (Bs : Nat → Nat → Prop) (hN : Free β g sto w N) (hsp : Split N (mem.map fun _ => ad) Bs)
    (hmem : ∀ e, mem = some e → ∃ us, w.heap[ad]? = some (.cells us e (0, 0)) ∧ us.size = cs.length)
    (hcell : ∀ j e, cs[j]? = some e → ∃ u, (match mem with | some _ => w.cell? ⟨ad, j, none⟩ | none => some (vv j)) = some u ∧
      (match e with | .o d t => RepM P w g.F d t u (Bs j) | .rf l => VRep P g w sto (.pt l) u ∧ l.root ≠ k | .mv => True)) :
    Move P β g sto w (g.set g.F k N ad vv) (put (invS (fun l => l.root == k) sto) k ⟨mem, cs⟩) w (fun l => l.root == k) (fun l => l.root == k) ∧
      ∀ b, Live (g.set g.F k N ad vv) (put (invS (fun l => l.root == k) sto) k ⟨mem, cs⟩) b → Live g sto b ∨ N b := by
  refine ⟨?_, fun b hb => (live_put _ _ _ _ _ hb).imp liveBut_live id⟩
  refine move_root h hk k _ g.F N ad vv _ _ (fun l hl => by simp [hl]) (fun l hl hf => by simp [hl] at hf) (fun l hl hf => by simp [hl] at hf) (fun _ h => h) hk.F' (SameOn.refl _ w) (Nat.le_refl _) (fun _ _ _ => rfl) rfl rfl rfl ?_ ?_ ?_ ?_ ?_
  · intro hval
    refine ⟨fun e he => ?_, Bs, by simpa [G.set] using hsp, fun j e he => ?_⟩
    · obtain ⟨us, h1, h2⟩ := hmem e he
      exact ⟨us, by simpa [G.set] using h1, h2⟩
    · obtain ⟨u, hu, hrep⟩ := hcell j e he
      refine ⟨u, by cases mem <;> (simp only [rootV, G.set, if_true] at hu ⊢; exact hu), ?_⟩
      cases e with
      | o d t => exact hrep
      | rf l => exact hval l u (by simp [hrep.2]) hrep.1
      | mv => trivial
  · exact fun b hb hl => (hN b hb).1 (liveBut_live hl)
  · exact fun b hb => ⟨(hN b hb).2.1, (hN b hb).2.2.1⟩
  · exact fun b ⟨j, r, _, h1, h2⟩ => (h.own j r h1 b h2).1
  · exact fun b hb => (hN b hb).2.2.2
end Go.Eng
namespace Go.Eng
variable {P : Program}
def T.leaf : T → Bool
  | .sl _ _ _ => false
  | .p _ _ => false
  | .ag _ => false
  | _ => true
structure Told (P : Program) (w w' : World) (t t' : T) (u : Value) (d : Nat) (p : List (Nat × Nat)) : Prop where
  tree : ∀ x d1, walkT d t' p = some (d1, x) → ∃ y, walkT d t p = some (d1, y) ∧ (∀ e nl xs, x = .sl e nl xs → ∃ nl0 xs0, y = .sl e nl0 xs0 ∧ xs0.length = xs.length)
  addr : ∀ q s x, p = q :: s → walkT d t' p = some x → walkA P w' t' u q s = walkA P w t u q s
  cell : ∀ q s x d1 a, p = q :: s → walkT d t' p = some (d1, x) → x.leaf = false → walkA P w t u q s = some a → w'.cell? a = w.cell? a
theorem upd_step_sl {e : TypeId} {nl : Bool} {xs : List T} {q : Nat × Nat} {c c' : T} (h : (T.sl e nl xs).step q = some c) (hag : c'.isAg = false) :
    ((T.sl e nl xs).upd1 q c').step q = some c' ∧ (∀ p, p ≠ q → ((T.sl e nl xs).upd1 q c').step p = (T.sl e nl xs).step p) ∧
    (∃ xs', (T.sl e nl xs).upd1 q c' = .sl e nl xs' ∧ xs'.length = xs.length) := by
  obtain ⟨x, hx, ho⟩ := step_sl h
  rw [upd1_sl c' hx]
  have hlt := get_lt hx
  have hlo := get_lt ho
  refine ⟨?_, fun p hp => ?_, _, rfl, by simp⟩
  · simp only [T.step, List.getElem?_set_self hlt, Option.bind_some]
    rw [setCell_cells ho hag, List.getElem?_set_self hlo]
  · simp only [T.step]
    by_cases h1 : p.1 = q.1
    · rw [h1, List.getElem?_set_self hlt, hx]
      simp only [Option.bind_some]
      rw [setCell_cells ho hag, List.getElem?_set_ne]
      intro h2
      exact hp (Prod.ext h1 h2.symm)
    · rw [List.getElem?_set_ne (Ne.symm h1)]
theorem upd_step_p {e : TypeId} {x : T} {q : Nat × Nat} {c c' : T} (h : (T.p e x).step q = some c) (hag : c'.isAg = false) :
    ((T.p e x).upd1 q c').step q = some c' ∧ (∀ p, p ≠ q → ((T.p e x).upd1 q c').step p = (T.p e x).step p) := by
  simp only [T.step] at h
  split at h
  case isFalse => cases h
  rename_i h0
  refine ⟨?_, fun p hp => ?_⟩
  · simp only [T.step, T.upd1, h0, if_true]
    rw [setCell_cells h hag, List.getElem?_set_self (get_lt h)]
  · simp only [T.step, T.upd1]
    split
    · rename_i h1
      rw [setCell_cells h hag, List.getElem?_set_ne]
      intro h2
      exact hp (Prod.ext (h1.trans h0.symm) h2.symm)
    · rfl
end Go.Eng
namespace Go.Eng
variable {P : Program}
theorem get_set_self {sto : List (Nat × Root)} {k : Nat} {r : Root} : get (put sto k r) k = some r := by rw [get_put, if_pos rfl]
theorem deep_base {β : Base} {g : G} {sto : List (Nat × Root)} {w : World} (h : SRep P g sto w) (hk : Kept β g sto w) {k : Nat} {r : Root} (hr : get sto k = some r) {j d : Nat} {t : T} (hc : r.cells[j]? = some (.o d t))
    {Bs : Nat → Nat → Prop} (hsp : Split (g.B k) (r.mem.map fun _ => g.ad k) Bs) (hcell : ∀ i e, r.cells[i]? = some e → ∃ u, rootV g w k r i = some u ∧ ERep P g w sto e u (Bs i))
    {q : Nat × Nat} {s : List (Nat × Nat)} {d' : Nat} {c : T} (hw : walkT d t (q :: s) = some (d', c)) (c' : T) (v' : Value) (N0 : Nat → Prop) (hag : c'.isAg = false)
    (hN0 : Free β g sto w N0) (hrep : RepM P w g.F d' c' v' N0) {u : Value} (hu : rootV g w k r j = some u) {a : Addr} (ha : walkA P w t u q s = some a) (fa fp : Loc → Bool)
    (hfo : ∀ l, l.root ≠ k ∨ l.off ≠ j → fa l = false ∧ fp l = false)
    (hfa : ∀ l, l.root = k → l.off = j → fa l = false → ∀ d1 e nl xs, walkT d (updT t (q :: s) c') l.steps = some (d1, .sl e nl xs) → ∃ nl0 xs0, walkT d t l.steps = some (d1, .sl e nl0 xs0) ∧ xs0.length = xs.length ∧
      (∀ q1 s1, l.steps = q1 :: s1 → walkA P (w.setCell a v') (updT t (q :: s) c') u q1 s1 = walkA P w t u q1 s1 ∧ ∀ b, walkA P w t u q1 s1 = some b → (w.setCell a v').cell? b = w.cell? b))
    (hfp : ∀ l, l.root = k → l.off = j → fp l = false → ∀ q1 s1 x, l.steps = q1 :: s1 → walkT d (updT t (q :: s) c') (q1 :: s1) = some x →
      (∃ y, walkT d t (q1 :: s1) = some y) ∧ walkA P (w.setCell a v') (updT t (q :: s) c') u q1 s1 = walkA P w t u q1 s1) :
    ∃ g', Move P β g sto w g' (put (invS fp sto) k (r.set fp j (.o d (updT t (q :: s) c')))) (w.setCell a v') fa fp ∧ g'.F = g.F ∧ g'.ad = g.ad := by
  obtain ⟨h1, _⟩ := h.root k r hr
  obtain ⟨u0, hu0, hrep0⟩ := hcell j _ hc
  rw [hu] at hu0
  simp only [Option.some.injEq] at hu0
  subst hu0
  obtain ⟨a', u', B', ha', hsp', hcl', hfz', hBa, hR', hsub', _⟩ := walk_read s q d t u (Bs j) d' c hrep0 hw
  rw [ha] at ha'
  simp only [Option.some.injEq] at ha'
  subst ha'
  have hBaK : g.B k a.block := (hsp.2.1 j _ hBa).1
  have haF : ¬ g.F a.block := (h.own k r hr _ hBaK).1
  have hN0B : ∀ b, N0 b → ¬ Bs j b := fun b hb hb2 => (hN0 b hb).1 ⟨k, r, hr, (hsp.2.1 j b hb2).1⟩
  have haN0 : ¬ N0 a.block := fun hn => hN0B _ hn hBa
  have hrep' : RepM P (w.setCell a v') g.F d' c' v' N0 := RepM.mono d' (same_setCell _ _ _ _ fun hb => hb.elim haF haN0) (fun _ h => h) (fun _ h => h) hrep
  have hnew := walk_write (P := P) (N := N0) s q d t u (Bs j) d' c a c' v' hrep0 hw ha hag (fun b hb => (h.own k r hr b (hsp.2.1 j b hb).1).1) hN0B hrep'
  have hadne : ∀ e, r.mem = some e → a.block ≠ g.ad k := fun e he hae => (hsp.2.1 j _ hBa).2 (by simp [he, hae])
  refine ⟨g.set g.F k (fun b => (g.B k b ∧ ¬ Bs j b) ∨ (Bs j b ∨ N0 b)) (g.ad k) (g.vv k), ?_, rfl, by funext i; simp only [G.set]; split <;> simp_all⟩
  have hrV : ∀ i u, rootV g w k r i = some u → rootV g (w.setCell a v') k r i = some u := by
    intro i u hi
    refine rootV_same (S := fun b => b ≠ a.block) (same_setCell _ _ _ _ (by simp)) (fun e he => Ne.symm (hadne e he)) hi
  refine move_cell h hk hr (get_lt hc) hsp hcell (.o d (updT t (q :: s) c')) u g.F (fun b => Bs j b ∨ N0 b) (g.vv k) fa fp hfo ?_ ?_ (fun _ h => h) (fun b hb => .inl hb) ?_ (by simp) ?_ rfl rfl rfl ?_ ?_ ?_ (fun _ => hnew) ?_
  · intro l hl ho hf d1 e nl xs hat
    obtain ⟨r1, d2, t2, h2, h3, h4⟩ := at_root hat
    rw [hl, get_set_self] at h2
    simp only [Option.some.injEq] at h2
    subst h2
    rw [ho, set_cells_eq (get_lt hc)] at h3
    simp only [Option.some.injEq, E.o.injEq] at h3
    obtain ⟨rfl, rfl⟩ := h3
    obtain ⟨nl0, xs0, h5, h6, h7⟩ := hfa l hl ho hf d1 e nl xs h4
    refine ⟨d1, nl0, xs0, by unfold at_; rw [hl, hr]; simp only [ho, hc]; exact h5, h6, ?_⟩
    cases hs : l.steps with
    | nil =>
      unfold locV
      rw [hs, hl, get_set_self, hr]
      simp only [Option.bind_some, ho]
      have : rootV (g.set g.F k (fun b => (g.B k b ∧ ¬ Bs j b) ∨ (Bs j b ∨ N0 b)) (g.ad k) (g.vv k)) (w.setCell a v') k (r.set fp j (.o d (updT t (q :: s) c'))) j = rootV g (w.setCell a v') k r j := by
        simp [rootV, Root.set, G.set]
      rw [this, hrV j u hu, hu]
    | cons q1 s1 =>
      obtain ⟨h8, h9⟩ := h7 q1 s1 hs
      unfold locV locA
      rw [hs, hl, get_set_self, hr]
      simp only [ho, set_cells_eq (get_lt hc), hc]
      have : rootV (g.set g.F k (fun b => (g.B k b ∧ ¬ Bs j b) ∨ (Bs j b ∨ N0 b)) (g.ad k) (g.vv k)) (w.setCell a v') k (r.set fp j (.o d (updT t (q :: s) c'))) j = rootV g (w.setCell a v') k r j := by
        simp [rootV, Root.set, G.set]
      rw [this, hrV j u hu, hu]
      simp only [Option.bind_some]
      rw [h8]
      cases hb : walkA P w t u q1 s1 with
      | none => rfl
      | some b => simp only [Option.bind_some]; exact h9 b hb
  · intro l hl ho hf ht
    cases hs : l.steps with
    | nil => exact ⟨there_put hr (r' := Root.set _ r j _) rfl hl hs ht, locA_put hr (r' := Root.set _ r j _) rfl hl hs⟩
    | cons q1 s1 =>
      unfold There at ht
      rw [hs] at ht
      obtain ⟨x, hx⟩ := ht
      obtain ⟨r1, d2, t2, h2, h3, h4⟩ := at_root hx
      rw [hl, get_set_self] at h2
      simp only [Option.some.injEq] at h2
      subst h2
      rw [ho, set_cells_eq (get_lt hc)] at h3
      simp only [Option.some.injEq, E.o.injEq] at h3
      obtain ⟨rfl, rfl⟩ := h3
      rw [hs] at h4
      obtain ⟨⟨y, hy⟩, h5⟩ := hfp l hl ho hf q1 s1 x hs h4
      refine ⟨?_, ?_⟩
      · unfold There
        rw [hs]
        exact ⟨y, by unfold at_; rw [hl, hr]; simp only [ho, hc, hs]; exact hy⟩
      · unfold locA
        rw [hs, hl, get_set_self, hr]
        simp only [ho, set_cells_eq (get_lt hc), hc]
        have : rootV (g.set g.F k (fun b => (g.B k b ∧ ¬ Bs j b) ∨ (Bs j b ∨ N0 b)) (g.ad k) (g.vv k)) (w.setCell a v') k (r.set fp j (.o d (updT t (q :: s) c'))) j = rootV g (w.setCell a v') k r j := by
          simp [rootV, Root.set, G.set]
        rw [this, hrV j u hu, hu]
        simp only [Option.bind_some]
        exact h5
  · refine same_setCell _ _ _ _ fun hb => ?_
    rcases hb with hb | ⟨i, r1, hi, h2, h3⟩ | ⟨i, hi, h3⟩
    · exact haF hb
    · exact hi (h.apart i k r1 r h2 hr _ h3 hBaK)
    · exact hi (hsp.2.2 _ _ _ h3 hBa)
  · intro b hb hB
    refine heap_setCell_other w _ b v' fun he => ?_
    subst he
    rcases hk.B k r hr _ hBaK with h2 | h2
    · exact hB h2
    · omega
  · intro e he
    obtain ⟨cs, hcs, hsz⟩ := h1 e he
    exact ⟨cs, by rw [heap_setCell_other w a (g.ad k) v' (Ne.symm (hadne e he))]; exact hcs, hsz⟩
  · intro i v hi hv
    have := hrV i v hv
    simp only [rootV] at this
    exact this
  · have := hrV j u hu
    simp only [rootV] at this
    exact this
  · intro b hb
    rcases hb with hb | hb
    · refine ⟨fun ⟨i, r1, hi, h2, h3⟩ => hi (h.apart i k r1 r h2 hr _ h3 (hsp.2.1 j b hb).1), fun _ => hb, (h.own k r hr b (hsp.2.1 j b hb).1).1, by simpa using (h.own k r hr b (hsp.2.1 j b hb).1).2, hk.B k r hr b (hsp.2.1 j b hb).1⟩
    · exact ⟨fun hl => (hN0 b hb).1 (liveBut_live hl), fun hB => absurd hB (not_live_of_free hN0 hr hb), (hN0 b hb).2.1, by simpa using (hN0 b hb).2.2.1, (hN0 b hb).2.2.2⟩
theorem upd_len {t : T} {q : Nat × Nat} {s : List (Nat × Nat)} {c c' : T} {d d' : Nat} (hw : walkT d t (q :: s) = some (d', c)) : ∀ e nl xs, updT t (q :: s) c' = .sl e nl xs → ∃ nl0 xs0, t = .sl e nl0 xs0 ∧ xs0.length = xs.length := by
  intro e nl xs he
  cases d with
  | zero => simp [walkT] at hw
  | succ d =>
    simp only [walkT, Option.bind_eq_some_iff] at hw
    obtain ⟨c1, h1, _⟩ := hw
    rw [updT, h1] at he
    simp only at he
    cases t with
    | sl e0 nl0 xs0 =>
      obtain ⟨x, hx, _⟩ := step_sl h1
      rw [upd1_sl _ hx] at he
      simp only [T.sl.injEq] at he
      obtain ⟨rfl, rfl, rfl⟩ := he
      exact ⟨nl0, xs0, rfl, by simp⟩
    | p e0 x0 => simp [T.upd1] at he
    | _ => simp [T.step] at h1
end Go.Eng
namespace Go.Eng
variable {P : Program}
theorem Move.trans {β : Base} {g g1 g2 : G} {sto sto1 sto2 : List (Nat × Root)} {w w1 w2 : World} {fa fp fa' fp' : Loc → Bool}
    (h : Move P β g sto w g1 sto1 w1 fa fp) (h' : Move P β g1 sto1 w1 g2 sto2 w2 fa' fp') (hs : w.heap.size ≤ w1.heap.size) :
    Move P β g sto w g2 sto2 w2 (fun l => fa l || fa' l) (fun l => fp l || fp' l) where
  same := SameOn.trans h.same (h'.same.mono fun b hb => h.F b hb) hs
  F := fun b hb => h'.F b (h.F b hb)
  ar := fun l hl d e nl xs ha => by
    simp only [Bool.or_eq_false_iff] at hl
    obtain ⟨d1, nl1, xs1, h1, h2, h3⟩ := h'.ar l hl.2 d e nl xs ha
    obtain ⟨d0, nl0, xs0, h4, h5, h6⟩ := h.ar l hl.1 d1 e nl1 xs1 h1
    exact ⟨d0, nl0, xs0, h4, h5.trans h2, h3.trans h6⟩
  pt := fun l hl ht => by
    simp only [Bool.or_eq_false_iff] at hl
    obtain ⟨h1, h2⟩ := h'.pt l hl.2 ht
    obtain ⟨h3, h4⟩ := h.pt l hl.1 h1
    exact ⟨h3, h2.trans h4⟩
  srep := h'.srep
  kept := h'.kept
theorem move_give {β : Base} {g : G} {sto : List (Nat × Root)} {w : World} (h : SRep P g sto w) (hk : Kept β g sto w) (N : Nat → Prop) (hN : Free β g sto w N) :
    Move P β g sto w { g with F := fun b => g.F b ∨ N b } sto w (fun _ => false) (fun _ => false) := by
  have hA : ∀ l, locA P { g with F := fun b => g.F b ∨ N b } w sto l = locA P g w sto l := fun l => rfl
  have hV : ∀ l, locV P { g with F := fun b => g.F b ∨ N b } w sto l = locV P g w sto l := fun l => rfl
  refine ⟨SameOn.refl _ w, fun _ hb => .inl hb, fun l _ d e nl xs ha => ⟨d, nl, xs, ha, rfl, hV l⟩, fun l _ ht => ⟨ht, hA l⟩, ⟨fun k r hr => ?_, h.apart, fun k r hr b hb => ?_⟩, ?_⟩
  · obtain ⟨h1, Bs, hsp, hc⟩ := h.root k r hr
    refine ⟨h1, Bs, hsp, fun j e hj => ?_⟩
    obtain ⟨u, hu, he⟩ := hc j e hj
    refine ⟨u, hu, ?_⟩
    cases e with
    | o d t => exact RepM.mono d (SameOn.refl _ w) (fun _ hb => .inl hb) (fun _ hb => hb) he
    | mv => trivial
    | rf l =>
      have hr' : VRep P g w sto (.pt l) u := he
      cases hr' with
      | pt _ _ h1 => exact VRep.pt l u h1
  · obtain ⟨h1, h2⟩ := h.own k r hr b hb
    refine ⟨fun hf => ?_, h2⟩
    rcases hf with hf | hf
    · exact h1 hf
    · exact (hN b hf).1 ⟨k, r, hr, hb⟩
  · refine ⟨hk.os, hk.tape, hk.output, hk.size, hk.block, fun b hb => .inl (hk.F b hb), fun b hb => ?_, hk.B⟩
    rcases hb with hb | hb
    · exact hk.F' b hb
    · exact .inr (hN b hb).2.2.2
theorem move_grow {β : Base} {g : G} {sto : List (Nat × Root)} {w w' : World} (h : SRep P g sto w) (hk : Kept β g sto w) (hf : ∀ b, g.F b → b < w.heap.size)
    (hs : ∀ b, b < w.heap.size → w'.heap[b]? = w.heap[b]?) (hsz : w.heap.size ≤ w'.heap.size) (hos : w'.os = w.os) (htape : w'.tape = w.tape) (hout : w'.output = w.output) :
    Move P β g sto w g sto w' (fun _ => false) (fun _ => false) ∧ Free β g sto w' (fun b => w.heap.size ≤ b ∧ b < w'.heap.size) := by
  refine ⟨move_world h hk (fun b _ hb => hs b hb) hsz (fun b hb _ => hs b (Nat.lt_of_lt_of_le hb hk.size)) hos htape hout, fun b hb => ⟨?_, ?_, hb.2, .inr (Nat.le_trans hk.size hb.1)⟩⟩
  · rintro ⟨k, r, hr, hB⟩
    have := (h.own k r hr b hB).2
    omega
  · intro h1; have := hf b h1; omega
end Go.Eng
namespace Go.Eng
variable {P : Program}
def Loc.add (l : Loc) (n : Nat) : Loc :=
  match l.steps.reverse with
  | [] => { l with off := l.off + n }
  | (i, o) :: r => { l with steps := ((i, o + n) :: r).reverse }
def Loc.into (l : Loc) (i o : Nat) : Loc := { l with steps := l.steps ++ [(i, o)] }
theorem walkA_last {w : World} : ∀ (pre : List (Nat × Nat)) (i o j : Nat) (t : T) (u : Value) (q : Nat × Nat) (s : List (Nat × Nat)) (q' : Nat × Nat) (s' : List (Nat × Nat)) (a : Addr), q :: s = pre ++ [(i, o)] → q' :: s' = pre ++ [(i, o + j)] →
    walkA P w t u q s = some a → walkA P w t u q' s' = some ⟨a.block, a.off + j, none⟩ := by
  intro pre
  induction pre with
  | nil =>
    intro i o j t u q s q' s' a h1 h2 h
    simp only [List.nil_append, List.cons.injEq] at h1 h2
    obtain ⟨rfl, rfl⟩ := h1
    obtain ⟨rfl, rfl⟩ := h2
    simp only [walkA] at h ⊢
    unfold stepA at h ⊢
    split at h
    · simp only [Option.some.injEq] at h
      subst h
      simp [Nat.add_assoc]
    · simp only [Option.some.injEq] at h
      subst h
      simp [Nat.add_assoc]
    · cases h
  | cons p pre ih =>
    intro i o j t u q s q' s' a h1 h2 h
    simp only [List.cons_append, List.cons.injEq] at h1 h2
    obtain ⟨rfl, hs⟩ := h1
    obtain ⟨rfl, hs'⟩ := h2
    cases s with
    | nil => cases pre <;> simp at hs
    | cons q1 s1 =>
      cases s' with
      | nil => cases pre <;> simp at hs'
      | cons q2 s2 =>
        simp only [walkA, Option.bind_eq_some_iff] at h ⊢
        obtain ⟨a1, h3, c, h4, u', h5, h6⟩ := h
        exact ⟨a1, h3, c, h4, u', h5, ih i o j c u' q1 s1 q2 s2 a hs hs' h6⟩
theorem add_nil {l : Loc} {n : Nat} (h : l.steps = []) : l.add n = { l with off := l.off + n } := by simp [Loc.add, h]
theorem add_cons {l : Loc} {n : Nat} {pre : List (Nat × Nat)} {i o : Nat} (h : l.steps = pre ++ [(i, o)]) : l.add n = { l with steps := pre ++ [(i, o + n)] } := by simp [Loc.add, h]
theorem steps_last {l : List (Nat × Nat)} (h : l ≠ []) : ∃ pre i o, l = pre ++ [(i, o)] := by
  refine ⟨l.dropLast, (l.getLast h).1, (l.getLast h).2, ?_⟩
  exact (List.dropLast_concat_getLast h).symm
theorem locA_add {g : G} {w : World} {sto : List (Nat × Root)} {l : Loc} {a : Addr} (h : locA P g w sto l = some a) (j : Nat) : locA P g w sto (l.add j) = some ⟨a.block, a.off + j, none⟩ := by
  cases hs : l.steps with
  | nil =>
    rw [add_nil hs]
    unfold locA at h ⊢
    cases hr : get sto l.root with
    | none => rw [hr] at h; cases h
    | some r =>
      simp only [hr, hs] at h ⊢
      cases hm : r.mem with
      | none => rw [hm] at h; cases h
      | some e =>
        simp only [hm, Option.map_some, Option.some.injEq] at h ⊢
        subst h
        rfl
  | cons q s =>
    obtain ⟨pre, i, o, hpre⟩ := steps_last (l := l.steps) (by simp [hs])
    rw [add_cons hpre]
    unfold locA at h ⊢
    cases hr : get sto l.root with
    | none => rw [hr] at h; cases h
    | some r =>
      simp only [hr, hs] at h ⊢
      cases hc : r.cells[l.off]? with
      | none => rw [hc] at h; cases h
      | some e =>
        simp only [hc] at h
        cases e with
        | o d t =>
          simp only [Option.bind_eq_some_iff] at h
          obtain ⟨u, h1, h2⟩ := h
          rw [hs] at hpre
          cases hp' : pre ++ [(i, o + j)] with
          | nil => simp at hp'
          | cons q' s' =>
            simp only [h1, Option.bind_some]
            exact walkA_last pre i o j t u q s q' s' a hpre hp'.symm h2
        | _ => cases h
theorem locA_spot {g : G} {w : World} {sto : List (Nat × Root)} {l : Loc} {a : Addr} (h : locA P g w sto l = some a) : a.spot = none := by
  have := locA_add h 0
  cases hs : l.steps with
  | nil =>
    unfold locA at h
    cases hr : get sto l.root with
    | none => rw [hr] at h; cases h
    | some r =>
      simp only [hr, hs] at h
      cases hm : r.mem with
      | none => rw [hm] at h; cases h
      | some e =>
        simp only [hm, Option.map_some, Option.some.injEq] at h
        subst h; rfl
  | cons q s =>
    obtain ⟨pre, i, o, hpre⟩ := steps_last (l := l.steps) (by simp [hs])
    have he : l.add 0 = l := by rw [add_cons hpre]; simp [← hpre]
    rw [he, h] at this
    simp only [Option.some.injEq] at this
    rw [this]
theorem locA_into {g : G} {w : World} {sto : List (Nat × Root)} {l : Loc} {i o : Nat} {d : Nat} {t : T} {u : Value} (h : SRep P g sto w) (hat : at_ sto l = some (d, t)) (hV : locV P g w sto l = some u) :
    locA P g w sto (l.into i o) = stepA P t u (i, o) := by
  obtain ⟨r, d1, t1, h1, h2, h3⟩ := at_root hat
  obtain ⟨_, Bs, hsp, hcell⟩ := h.root _ _ h1
  obtain ⟨u1, hu1, hrep⟩ := hcell _ _ h2
  unfold locA Loc.into
  simp only [h1]
  cases hs : l.steps with
  | nil =>
    rw [hs] at h3
    simp only [walkT, Option.some.injEq, Prod.mk.injEq] at h3
    obtain ⟨rfl, rfl⟩ := h3
    simp only [locV, hs, h1, Option.bind_some, hu1, Option.some.injEq] at hV
    subst hV
    simp only [List.nil_append, h2, hu1, Option.bind_some, walkA]
  | cons q s =>
    rw [hs] at h3
    have key : ∀ (s : List (Nat × Nat)) (q : Nat × Nat) (d1 : Nat) (t1 : T) (u1 : Value) (B : Nat → Prop), RepM P w g.F d1 t1 u1 B → walkT d1 t1 (q :: s) = some (d, t) → ∀ a, walkA P w t1 u1 q s = some a → w.cell? a = some u →
        walkA P w t1 u1 q (s ++ [(i, o)]) = stepA P t u (i, o) := by
      intro s
      induction s with
      | nil =>
        intro q d1 t1 u1 B hr hw a ha hc
        simp only [walkA] at ha
        cases d1 with
        | zero => simp [walkT] at hw
        | succ d1 =>
          simp only [walkT, Option.bind_eq_some_iff, Option.some.injEq, Prod.mk.injEq] at hw
          obtain ⟨c, hc1, rfl, rfl⟩ := hw
          simp only [List.nil_append, walkA, ha, hc1, hc, Option.bind_some]
      | cons q' s ih =>
        intro q d1 t1 u1 B hr hw a ha hc
        simp only [walkA, Option.bind_eq_some_iff] at ha
        obtain ⟨a1, h5, c, h6, u', h7, h8⟩ := ha
        cases d1 with
        | zero => simp [walkT] at hw
        | succ d1 =>
          rw [walkT] at hw
          simp only [h6, Option.bind_some] at hw
          have hw1 : walkT (d1 + 1) t1 [q] = some (d1, c) := by simp [walkT, h6]
          obtain ⟨a2, u2, B2, h9, _, h10, _, _, h11, _⟩ := walk_read [] q (d1 + 1) t1 u1 B d1 c hr hw1
          simp only [walkA] at h9
          rw [h5] at h9
          simp only [Option.some.injEq] at h9
          subst h9
          rw [h7] at h10
          simp only [Option.some.injEq] at h10
          subst h10
          simp only [List.cons_append, walkA, h5, h6, h7, Option.bind_some]
          exact ih q' d1 c u' B2 h11 hw a h8 hc
    obtain ⟨a, u', B', h5, _, h6, _⟩ := walk_read s q d1 t1 u1 (Bs l.off) d t hrep h3
    have hVa : w.cell? a = some u := by
      unfold locV locA at hV
      simp only [hs, h1, h2, hu1, Option.bind_some, h5] at hV
      exact hV
    simp only [List.cons_append, h2, hu1, Option.bind_some]
    exact key s q d1 t1 u1 (Bs l.off) hrep h3 a h5 hVa
def kn (P : Program) (t : TypeId) : Bool := (P.underlying t).isSome
theorem kn_some {t : TypeId} (h : kn P t = true) : ∃ d, P.underlying t = some d := by
  unfold kn at h
  exact Option.isSome_iff_exists.1 h
theorem info_of_kn {t : TypeId} (h : kn P t = true) : ∃ i, P.info? t = some i := by
  obtain ⟨d, hd⟩ := kn_some h
  unfold Program.underlying at hd
  cases hi : P.info? t with
  | none => simp [hi] at hd
  | some i => exact ⟨i, rfl⟩
theorem run_isAgg {t : TypeId} (h : kn P t = true) (w : World) : (isAgg t).run P w = .ok (aggOf P t) w := by
  obtain ⟨d, hd⟩ := kn_some h
  unfold isAgg aggOf
  simp only [Sem.run_bind, run_underlying hd, Result.andThen_ok, hd]
  cases d <;> rfl
theorem run_size {t : TypeId} (h : kn P t = true) (w : World) : (sizeOf t).run P w = .ok (P.cellsOf t) w := by
  obtain ⟨i, hi⟩ := info_of_kn h
  unfold sizeOf typeInfo Program.cellsOf
  simp [hi]
theorem addr_add (b o n : Nat) : (⟨b, o, none⟩ : Addr).add n = ⟨b, o + n, none⟩ := by
  unfold Addr.add; split <;> simp_all
theorem run_loadVar {t : TypeId} (h : kn P t = true) {w : World} {b o : Nat} {us : Nat → Value} (hc : ∀ j, j < P.cellsOf t → w.cell? ⟨b, o + j, none⟩ = some (us j)) (ha : aggOf P t = true) :
    (loadVar t ⟨b, o, none⟩).run P w = .ok (.agg ((List.range (P.cellsOf t)).map us).toArray) w := by
  have hl : (loadCells ⟨b, o, none⟩ (P.cellsOf t)).run P w = .ok ((List.range (P.cellsOf t)).map us).toArray w := by
    have h2 := run_loadCells_list (P := P) (w := w) ⟨b, o, none⟩ ((List.range (P.cellsOf t)).map us) (fun j v hj => by
      rw [addr_add]
      rw [List.getElem?_map, Option.map_eq_some_iff] at hj
      obtain ⟨j', h3, rfl⟩ := hj
      have h4 : j' = j := by
        rw [List.getElem?_range (by have := get_lt h3; simpa using this)] at h3
        simpa using h3.symm
      subst h4
      exact hc j' (by have := get_lt h3; simpa using this))
    simpa using h2
  unfold loadVar
  simp only [Sem.run_bind, run_isAgg h, Result.andThen_ok, ha, if_true, run_size h, hl, Sem.run_pure]
theorem run_loadVar1 {t : TypeId} (h : kn P t = true) {w : World} {a : Addr} {u : Value} (hc : w.cell? a = some u) (ha : aggOf P t = false) : (loadVar t a).run P w = .ok u w := by
  unfold loadVar
  simp only [Sem.run_bind, run_isAgg h, Result.andThen_ok, ha, Bool.false_eq_true, if_false]
  unfold load
  simp [Sem.run, hc]
theorem run_sure (b o : Nat) (w : World) : (Instr.sureAddr (.pointer (some ⟨b, o, none⟩))).run P w = .ok ⟨b, o, none⟩ w := rfl
end Go.Eng
namespace Go.Eng
variable {P : Program}
theorem RepM.lower {w : World} {F : Nat → Prop} : ∀ (n d : Nat) {t : T} {v : Value} {B : Nat → Prop}, RepM P w F (d + n) t v B →
    ∃ B' V : Nat → Prop, (∀ b, B' b → B b) ∧ (∀ b, V b → B b) ∧ (∀ b, B' b → ¬ V b) ∧ RepM P w (fun b => F b ∨ V b) d t v B'
  | n, 0, t, v, B, h => ⟨fun _ => False, B, fun _ h => h.elim, fun _ h => h, fun _ h => h.elim, RepM.give _ h⟩
  | n, d + 1, t, v, B, h => by
    have plain : RepT P w F t v → ∃ B' V : Nat → Prop, (∀ b, B' b → B b) ∧ (∀ b, V b → B b) ∧ (∀ b, B' b → ¬ V b) ∧ (RepT P w (fun b => F b ∨ V b) t v) := fun h =>
      ⟨fun _ => False, fun _ => False, fun _ h => h.elim, fun _ h => h.elim, fun _ h => h.elim, RepT.mono (SameOn.refl _ w) (fun _ hb => .inl hb) h⟩
    rw [show d + 1 + n = (d + n) + 1 by omega] at h
    have pick : ∀ (ts : List T) (us : List Value) (Bs : Nat → Nat → Prop) (own : Option Nat), Split B own Bs → (∀ j t u, ts[j]? = some t → us[j]? = some u → RepM P w F (d + n) t u (Bs j)) →
        ∃ Cs Vs : Nat → Nat → Prop, (∀ j b, Cs j b → Bs j b) ∧ (∀ j b, Vs j b → Bs j b) ∧ (∀ j b, Cs j b → ¬ Vs j b) ∧ ∀ j t u, ts[j]? = some t → us[j]? = some u → RepM P w (fun b => F b ∨ Vs j b) d t u (Cs j) := by
      intro ts us Bs own _ hc
      have : ∀ j, ∃ C V : Nat → Prop, (∀ b, C b → Bs j b) ∧ (∀ b, V b → Bs j b) ∧ (∀ b, C b → ¬ V b) ∧ ∀ t u, ts[j]? = some t → us[j]? = some u → RepM P w (fun b => F b ∨ V b) d t u C := by
        intro j
        cases ht : ts[j]? with
        | none => exact ⟨fun _ => False, fun _ => False, fun _ h => h.elim, fun _ h => h.elim, fun _ h => h.elim, fun t u h => by cases h⟩
        | some t =>
          cases hu : us[j]? with
          | none => exact ⟨fun _ => False, fun _ => False, fun _ h => h.elim, fun _ h => h.elim, fun _ h => h.elim, fun t u _ h => by cases h⟩
          | some u =>
            obtain ⟨C, V, h1, h2, h3, h4⟩ := RepM.lower n d (hc j t u ht hu)
            refine ⟨C, V, h1, h2, h3, fun t' u' ht' hu' => ?_⟩
            simp only [Option.some.injEq] at ht' hu'
            subst ht'; subst hu'
            exact h4
      refine ⟨fun j => (this j).choose, fun j => (this j).choose_spec.choose, fun j => (this j).choose_spec.choose_spec.1, fun j => (this j).choose_spec.choose_spec.2.1, fun j => (this j).choose_spec.choose_spec.2.2.1, fun j => (this j).choose_spec.choose_spec.2.2.2⟩
    have fin : ∀ (ts : List T) (us : List Value) (Bs Cs Vs : Nat → Nat → Prop) (own : Option Nat), Split B own Bs → (∀ j b, Cs j b → Bs j b) → (∀ j b, Vs j b → Bs j b) → (∀ j b, Cs j b → ¬ Vs j b) →
        (∀ b, ((own = some b) ∨ ∃ j, Cs j b) → B b) ∧ (∀ b, (∃ j, Vs j b) → B b) ∧ (∀ b, ((own = some b) ∨ ∃ j, Cs j b) → ¬ ∃ j, Vs j b) ∧ Split (fun b => (own = some b) ∨ ∃ j, Cs j b) own Cs := by
      intro ts us Bs Cs Vs own hsp h1 h2 h3
      refine ⟨fun b hb => hb.elim (hsp.1 b) fun ⟨j, hb⟩ => (hsp.2.1 j b (h1 j b hb)).1, fun b ⟨j, hb⟩ => (hsp.2.1 j b (h2 j b hb)).1, fun b hb ⟨i, hv⟩ => ?_, fun b hb => .inl hb, fun j b hb => ⟨.inr ⟨j, hb⟩, (hsp.2.1 j b (h1 j b hb)).2⟩, fun j k b hj hk => hsp.2.2 j k b (h1 j b hj) (h1 k b hk)⟩
      rcases hb with hb | ⟨j, hb⟩
      · exact (hsp.2.1 i b (h2 i b hv)).2 hb
      · have := hsp.2.2 j i b (h1 j b hb) (h2 i b hv)
        subst this
        exact h3 j b hb hv
    cases t with
    | sl e nl xs =>
      obtain ⟨us, ho, hs, Bs, hsp, hc⟩ := h
      obtain ⟨Cs, Vs, h1, h2, h3, h4⟩ := pick (flat xs) us Bs _ hsp hc
      obtain ⟨h5, h6, h7, h8⟩ := fin (flat xs) us Bs Cs Vs _ hsp h1 h2 h3
      exact ⟨_, fun b => ∃ j, Vs j b, h5, h6, h7, us, ho, hs, Cs, h8, fun j t u ht hu => RepM.mono d (SameOn.refl _ w) (fun b hb => hb.imp id fun hb => ⟨j, hb⟩) (fun _ h => h) (h4 j t u ht hu)⟩
    | p e x =>
      obtain ⟨b, us, hv, hb, hsz, hs, Bs, hsp, hc⟩ := h
      obtain ⟨Cs, Vs, h1, h2, h3, h4⟩ := pick x.cells us.toList Bs _ hsp (fun j t u ht hu => hc j t u ht (by simpa using hu))
      obtain ⟨h5, h6, h7, h8⟩ := fin x.cells us.toList Bs Cs Vs _ hsp h1 h2 h3
      exact ⟨_, fun b => ∃ j, Vs j b, h5, h6, h7, b, us, hv, hb, hsz, hs, Cs, h8, fun j t u ht hu => RepM.mono d (SameOn.refl _ w) (fun b hb => hb.imp id fun hb => ⟨j, hb⟩) (fun _ h => h) (h4 j t u ht (by simpa using hu))⟩
    | b x => exact plain h
    | i k n => exact plain h
    | s x => exact plain h
    | np => exact plain h
    | nf => exact plain h
    | ni => exact plain h
    | ifc t x => exact plain h
    | ag cs => exact plain h
    | fl hp => exact plain h
theorem walkT_more (n : Nat) : ∀ (s : List (Nat × Nat)) (d : Nat) (t : T) (x : Nat × T), walkT d t s = some x → walkT (d + n) t s = some (x.1 + n, x.2)
  | [], d, t, x, h => by simp only [walkT, Option.some.injEq] at h ⊢; subst h; rfl
  | q :: s, 0, t, x, h => by simp [walkT] at h
  | q :: s, d + 1, t, x, h => by
    rw [show d + 1 + n = (d + n) + 1 by omega]
    simp only [walkT, Option.bind_eq_some_iff] at h ⊢
    obtain ⟨c, h1, h2⟩ := h
    exact ⟨c, h1, walkT_more n s d c x h2⟩
theorem move_lower {β : Base} {g : G} {sto : List (Nat × Root)} {w : World} (h : SRep P g sto w) (hk : Kept β g sto w) {k : Nat} {r : Root} (hr : get sto k = some r) {j d n : Nat} {t : T} (hc : r.cells[j]? = some (.o (d + n) t)) :
    ∃ g', Move P β g sto w g' (put (invS (fun _ => false) sto) k (r.set (fun _ => false) j (.o d t))) w (fun _ => false) (fun _ => false) ∧ (∀ b, g'.F b → g.F b ∨ g.B k b) := by
  obtain ⟨h1, Bs, hsp, hcell⟩ := h.root k r hr
  obtain ⟨u, hu, hrep⟩ := hcell j _ hc
  obtain ⟨C, V, hC, hV, hCV, hlow⟩ := RepM.lower n d hrep
  have hat : ∀ l : Loc, l.root = k → l.off = j → ∀ x, at_ (put (invS (fun _ => false) sto) k (r.set (fun _ => false) j (.o d t))) l = some x → at_ sto l = some (x.1 + n, x.2) := by
    intro l hl ho x ha
    obtain ⟨r1, d2, t2, h2, h3, h4⟩ := at_root ha
    rw [hl, get_put, if_pos rfl] at h2
    simp only [Option.some.injEq] at h2
    subst h2
    rw [ho, set_cells_eq (get_lt hc)] at h3
    simp only [Option.some.injEq, E.o.injEq] at h3
    obtain ⟨rfl, rfl⟩ := h3
    unfold at_
    rw [hl, hr]
    simp only [ho, hc]
    exact walkT_more n _ _ _ _ h4
  have hloc : ∀ (g' : G) (l : Loc), l.root = k → l.off = j → g'.ad k = g.ad k → g'.vv k = g.vv k → locA P g' w (put (invS (fun _ => false) sto) k (r.set (fun _ => false) j (.o d t))) l = locA P g w sto l := by
    intro g' l hl ho h5 h6
    unfold locA
    rw [hl, get_put, if_pos rfl, hr]
    simp only
    cases l.steps with
    | nil => simp only [Root.set, h5]
    | cons q s =>
      simp only [ho, set_cells_eq (get_lt hc), hc]
      unfold rootV
      simp only [Root.set, h5, h6]
  refine ⟨_, move_cell h hk hr (get_lt hc) hsp hcell (.o d t) u (fun b => g.F b ∨ V b) C (g.vv k) _ _ (fun _ _ => ⟨rfl, rfl⟩) ?_ ?_ (fun _ h => .inl h) (fun b hb => hb.elim .inl fun h => .inr (.inl (hV b h))) (SameOn.refl _ w) (Nat.le_refl _) (fun _ _ _ => rfl) rfl rfl rfl h1 ?_ ?_ (fun _ => hlow) ?_, ?_⟩
  · intro l hl ho _ d1 e nl xs ha
    refine ⟨_, nl, xs, hat l hl ho _ ha, rfl, ?_⟩
    have hA := hloc (g.set (fun b => g.F b ∨ V b) k (fun b => (g.B k b ∧ ¬ Bs j b) ∨ C b) (g.ad k) (g.vv k)) l hl ho (by simp [G.set]) (by simp [G.set])
    unfold locV
    rw [hA]
    cases l.steps with
    | nil =>
      simp only [hl, get_put, if_pos rfl, hr, Option.bind_some]
      simp [rootV, Root.set, G.set]
    | cons q s => rfl
  · intro l hl ho _ ht
    refine ⟨?_, hloc _ l hl ho (by simp [G.set]) (by simp [G.set])⟩
    cases hs : l.steps with
    | nil => exact there_put hr (r' := Root.set _ r j _) rfl hl hs ht
    | cons q s =>
      unfold There at ht ⊢
      rw [hs] at ht ⊢
      obtain ⟨x, hx⟩ := ht
      exact ⟨_, hat l hl ho x hx⟩
  · intro i v hi hv
    simp only [rootV] at hv
    exact hv
  · simp only [rootV] at hu
    exact hu
  · intro b hb
    obtain ⟨h5, h6⟩ := h.own k r hr b (hsp.2.1 j b (hC b hb)).1
    refine ⟨fun ⟨i, r1, hi, h7, h8⟩ => hi (h.apart i k r1 r h7 hr b h8 (hsp.2.1 j b (hC b hb)).1), fun _ => hC b hb, fun hf => hf.elim h5 (hCV b hb), h6, hk.B k r hr b (hsp.2.1 j b (hC b hb)).1⟩
  · intro b hb
    simp only [G.set] at hb
    exact hb.imp id fun hb => (hsp.2.1 j b (hV b hb)).1
end Go.Eng
namespace Go.Y
inductive Ty where
  | unit | bool | int (k : IntKind) | str
  | pair (a b : Ty) | st (f : Ty) | sl (e : TypeId) (a : Ty) | ptr (e : TypeId) (a : Ty) | err | fn (a b : Ty)
  deriving DecidableEq, Inhabited, Repr
inductive Err where
  | nil | no (n : Int) | at (n : Int) (e : Err) | txt (s : List UInt8)
  deriving DecidableEq, Inhabited
@[reducible] def Ty.den : Ty → Type
  | .unit => Unit
  | .bool => Bool
  | .int _ => Int
  | .str => List UInt8
  | .pair a b => a.den × b.den
  | .st f => f.den
  | .sl _ a => List a.den
  | .ptr _ a => Option a.den
  | .err => Err
  | .fn a b => a.den → Option b.den
def Ty.dflt : (A : Ty) → A.den
  | .unit => ()
  | .bool => false
  | .int _ => (0 : Int)
  | .str => ([] : List UInt8)
  | .pair a b => (a.dflt, b.dflt)
  | .st f => f.dflt
  | .sl _ _ => []
  | .ptr _ _ => none
  | .err => Err.nil
  | .fn _ _ => fun _ => none
def Ty.beq : (A : Ty) → A.den → A.den → Bool
  | .unit, _, _ => true
  | .bool, x, y => x == y
  | .int _, x, y => decide ((x : Int) = y)
  | .str, x, y => decide ((x : List UInt8) = y)
  | .pair a b, x, y => a.beq x.1 y.1 && b.beq x.2 y.2
  | .st f, x, y => f.beq x y
  | _, _, _ => false
def Ty.isAgg : Ty → Bool
  | .unit => true
  | .pair _ _ => true
  | .st _ => true
  | _ => false
def Ty.eqOk : Ty → Bool
  | .unit => true
  | .bool => true
  | .int _ => true
  | .str => true
  | .pair a b => a.eqOk && b.eqOk
  | .st f => f.eqOk
  | _ => false
def Ty.fieldy : Ty → Bool
  | .pair _ _ => false
  | .unit => false
  | _ => true
def errNil : Err → Bool
  | .nil => true
  | _ => false
def Ty.flat : Ty → List Ty
  | .st f => f.flat
  | .pair a b => a.flat ++ b.flat
  | .unit => []
  | t => [t]
def wr (k : IntKind) (n : Int) : Int := k.wrap n
@[reducible] def len {α : Type} (xs : List α) : Int := (xs.length : Int)
def pIf {ρ : Type} (c : Bool) (a b : Option ρ) : Option ρ := match c with | true => a | false => b
def pCk {ρ : Type} (c : Bool) (k : Option ρ) : Option ρ := match c with | true => k | false => none
def ix {α : Type} (xs : List α) (i : Int) : Option α := match decide (0 ≤ i) with | true => xs[i.toNat]? | false => none
def pIdx {α ρ : Type} (xs : List α) (i : Int) (k : α → Option ρ) : Option ρ := (ix xs i).bind k
def pIdxG {α ρ : Type} (c : Bool) (d : α) (xs : List α) (i : Int) (k : α → Option ρ) : Option ρ := (match c with | true => ix xs i | false => some d).bind k
def pCall {α ρ : Type} (o : Option α) (k : α → Option ρ) : Option ρ := o.bind k
def pCallG {α ρ : Type} (c : Bool) (d : α) (o : Option α) (k : α → Option ρ) : Option ρ := (match c with | true => o | false => some d).bind k
def pLet {α ρ : Type} (a : α) (k : α → Option ρ) : Option ρ := k a
noncomputable def pBoth {ρ : Type} (a b : Option ρ) : Option ρ := @ite _ (a = b) (Classical.propDecidable _) a none
noncomputable def pNil {α ρ : Type} (xs : List α) (a b : Option ρ) : Option ρ := match xs with | [] => pBoth a b | _ :: _ => b
def pJoin {α ρ : Type} (k : α → Option ρ) (b : (α → Option ρ) → Option ρ) : Option ρ := b k
def setI {α : Type} (xs : List α) (i : Int) (v : α) : List α := xs.set i.toNat v
def sub {α : Type} (xs : List α) (lo hi : Int) : List α := (xs.take hi.toNat).drop lo.toNat
def rep {α : Type} (n : Int) (z : α) : List α := List.replicate n.toNat z
def room (b : Nat) (n : Int) : Bool := !decide (140737488355328 < n * b) && !decide (140737488355328 < n)
theorem room_iff {b : Nat} {n : Int} : room b n = true ↔ n * b ≤ 140737488355328 ∧ n ≤ 140737488355328 := by
  unfold room
  simp only [Bool.and_eq_true, Bool.not_eq_true', decide_eq_false_iff_not, Int.not_lt]
def pick {α : Type} (c : Bool) (a b : α) : α := match c with | true => a | false => b
def band (k : IntKind) (x y : Int) : Int := k.wrap (BitVec.ofInt k.bits x &&& BitVec.ofInt k.bits y).toNat
def bor (k : IntKind) (x y : Int) : Int := k.wrap (BitVec.ofInt k.bits x ||| BitVec.ofInt k.bits y).toNat
def bxor (k : IntKind) (x y : Int) : Int := k.wrap (BitVec.ofInt k.bits x ^^^ BitVec.ofInt k.bits y).toNat
def bandn (k : IntKind) (x y : Int) : Int := k.wrap (BitVec.ofInt k.bits x &&& ~~~(BitVec.ofInt k.bits y)).toNat
def quoI (k : IntKind) (x y : Int) : Int := k.wrap (x.tdiv y)
def remI (x y : Int) : Int := x.tmod y
def shlI (k : IntKind) (x n : Int) : Int := k.wrap (x * 2 ^ min n.toNat k.bits)
def shrI (k : IntKind) (x n : Int) : Int := x.fdiv (2 ^ min n.toNat k.bits)
def mnI (x y : Int) : Int := match decide (y < x) with | true => y | false => x
def mxI (x y : Int) : Int := match decide (x < y) with | true => y | false => x
def strLt (a b : List UInt8) : Bool := Op.bytesLess a b
def toStr (xs : List Int) : List UInt8 := xs.map fun n => UInt8.ofNat n.toNat
def toBytes (s : List UInt8) : List Int := s.map fun b => (b.toNat : Int)
class LAlg (V : Type) where
  ty : V → Ty
  litB : Bool → V
  litI : IntKind → Int → V
  litS : List UInt8 → V
  zero : Ty → V
  bin : BinOp → V → V → Option V
  un : UnOp → V → Option V
  errV : V → Option V
  conv : IntKind → V → Option V
  lenV : V → Option V
  minV : Bool → V → V → Option V
  unst : V → Option V
  mkst : V → V
  fst : V → Option V
  snd : V → Option V
  mkpair : V → V → V
  unitV : V
  setV : V → V → V → Option V
  appV : V → V → Option V
  mkL : TypeId → Ty → List V → Option V
  repV : TypeId → V → V → Option V
  subV : V → V → V → Option V
  pickV : V → V → V → Option V
  roomV : Nat → V → Option V
  toStrV : V → Option V
  toBytesV : TypeId → V → Option V
  andV : V → V → Option V
  fnV : Nat → Ty → Option V
class RF (R : Type) where
  fail : String → R
class RAlg (V R : Type) where
  ite : V → R → R → R
  nilc : V → R → R → R
  check : Option V → V → R → R
  idx : Option V → V → V → (V → R) → R
  call : Nat → Ty → Option V → List V → (V → R) → R
  callV : V → Option V → List V → (V → R) → R
  join : Ty → (V → R) → ((V → R) → R) → R
  loop : Nat → List V → List (Ty × (V → R)) → R
  letV : V → (V → R) → R
end Go.Y
namespace Go.Y
structure Loc (V : Type) where
  root : Nat
  gen : Nat
  off : Nat
  stamp : Nat
  steps : List (V × Nat)
inductive AV (V : Type) where
  | lf (v : V)
  | zs (e : TypeId) (a : Ty)
  | tl (v : V)
  | ar (l : Loc V)
  | pt (l : Loc V)
  | fp (v : V)
  | ag (t : Ty) (cs : List (AV V))
  | tu (vs : List (AV V))
  | fn (f : FuncId) (cs : List (AV V))
  | u
inductive E (V : Type) where
  | o (d : Nat) (v : V)
  | rf (l : Loc V)
  | mv
structure Cell (V : Type) where
  stamp : Nat
  e : E V
structure Root (V : Type) where
  gen : Nat
  mem : Option TypeId
  cells : List (Cell V)
structure St (V : Type) where
  env : List (Nat × AV V)
  gnv : List (Nat × (Nat × Bool) × AV V)
  sto : List (Nat × Root V)
structure Gd (V : Type) where
  keys : List (Nat × Bool)
  c : V
def get {α : Type} : List (Nat × α) → Nat → Option α
  | [], _ => none
  | (j, x) :: r, k => match Nat.beq j k with | true => some x | false => get r k
def put {α : Type} : List (Nat × α) → Nat → α → List (Nat × α)
  | [], k, x => [(k, x)]
  | (j, y) :: r, k, x => match Nat.beq j k with
    | true => (k, x) :: r
    | false => match Nat.blt k j with
      | true => (k, x) :: (j, y) :: r
      | false => (j, y) :: put r k x
def getL {α : Type} : List α → Nat → Option α
  | [], _ => none
  | x :: _, 0 => some x
  | _ :: r, n + 1 => getL r n
def setL {α : Type} : List α → Nat → α → List α
  | [], _, _ => []
  | _ :: r, 0, y => y :: r
  | x :: r, n + 1, y => x :: setL r n y
def memN (k : Nat) : List Nat → Bool
  | [] => false
  | j :: r => match Nat.beq j k with | true => true | false => memN k r
def nodupN : List Nat → Bool
  | [] => true
  | k :: r => !memN k r && nodupN r
structure TI where
  ty : Ty
  cells : Nat
  agg : Bool
  bytes : Nat
  elem : TypeId
  fields : List (Nat × TypeId)
  cmp : Bool
  zok : Bool
instance {V : Type} : Inhabited (St V) := ⟨⟨[], [], []⟩⟩
structure JH where
  live : List Nat
  co : List Nat
  add : List (Nat × Ty)
  low : List (Nat × Nat × Nat)
  deriving Inhabited, Repr
structure SH where
  h : JH
  sh : St Ty
  deriving Inhabited
structure Sig where
  ins : St Ty
  out : St Ty
  many : Bool
  keep : List Nat
  h : JH
  alt : Option (St Ty) := none
instance : Inhabited Sig := ⟨⟨default, default, false, [], default, none⟩⟩
structure Tabs where
  tt : List (Nat × TI)
  sigs : List (Nat × Sig)
  leafs : List Nat
section
variable {V R : Type} [LAlg V] [RF R] [RAlg V R]
open LAlg RF RAlg
def oCase {α : Type} (o : Option α) (w : String) (k : α → R) : R :=
  match o with
  | some x => k x
  | none => fail w
def cellsOf : Ty → V → Option (List V)
  | .st f, v => match unst v with
    | some w => cellsOf f w
    | none => none
  | .pair a b, v => match fst v, snd v with
    | some x, some y => match cellsOf a x, cellsOf b y with
      | some xs, some ys => some (xs ++ ys)
      | _, _ => none
    | _, _ => none
  | .unit, _ => some []
  | _, v => some [v]
def packC : Ty → List V → Option (V × List V)
  | .st f, vs => match packC f vs with
    | some (x, r) => some (mkst x, r)
    | none => none
  | .pair a b, vs => match packC a vs with
    | some (x, r) => match packC b r with
      | some (y, r') => some (mkpair x y, r')
      | none => none
    | none => none
  | .unit, vs => some (unitV, vs)
  | _, v :: vs => match (ty v).isAgg with
    | true => none
    | false => some (v, vs)
  | _, [] => none
def packAll (t : Ty) (vs : List V) : Option V :=
  match packC t vs with
  | some (x, []) => some x
  | _ => none
def projR : Ty → Nat → V → Option V
  | .pair _ _, 0, v => fst v
  | .pair _ b, i + 1, v => match snd v with
    | some w => projR b i w
    | none => none
  | .unit, _, _ => none
  | _, 0, v => some v
  | _, _ + 1, _ => none
def proj (i : Nat) (v : V) : Option V :=
  match ty v with
  | .st f => match unst v with
    | some w => projR f i w
    | none => none
  | _ => none
def lfs : List (AV V) → Option (List V)
  | [] => some []
  | .lf v :: r => match lfs r with
    | some vs => some (v :: vs)
    | none => none
  | .tl v :: r => match lfs r with
    | some vs => some (v :: vs)
    | none => none
  | _ :: _ => none
def stat1 : AV V → Bool
  | .lf _ => true
  | .tl _ => true
  | .fp _ => true
  | _ => false
def allStat1 : List (AV V) → Bool
  | [] => true
  | x :: r => stat1 x && allStat1 r
def statA : AV V → Bool
  | .lf _ => true
  | .tl _ => true
  | .fp _ => true
  | .zs _ _ => true
  | .fn _ cs => allStat1 cs
  | _ => false
def allStat : List (AV V) → Bool
  | [] => true
  | x :: r => statA x && allStat r
def mkAg (t : Ty) (cs : List (AV V)) : AV V :=
  match lfs cs with
  | some vs => match packAll t vs with
    | some v => .lf v
    | none => .ag t cs
  | none => .ag t cs
def rootAt (st : St V) (l : Loc V) : Option (Root V) :=
  match get st.sto l.root with
  | some r => match Nat.beq r.gen l.gen with | true => some r | false => none
  | none => none
def cellAt (st : St V) (l : Loc V) : Option (Cell V) :=
  match rootAt st l with
  | some r => getL r.cells l.off
  | none => none
def setCell (st : St V) (k j : Nat) (c : Cell V) : St V :=
  match get st.sto k with
  | some r => { st with sto := put st.sto k { r with cells := setL r.cells j c } }
  | none => st
def gdKeys : Option (Gd V) → List (Nat × Bool)
  | some x => x.keys
  | none => []
def scrubG (d : Nat) : List (Nat × (Nat × Bool) × AV V) → List (Nat × (Nat × Bool) × AV V)
  | [] => []
  | (s, (k, b), x) :: r => match Nat.beq s d || Nat.beq k d with
    | true => scrubG d r
    | false => (s, (k, b), x) :: scrubG d r
def del {α : Type} (d : Nat) : List (Nat × α) → List (Nat × α)
  | [] => []
  | (s, x) :: r => match Nat.beq s d with
    | true => del d r
    | false => (s, x) :: del d r
def putE (st : St V) (g : Option (Gd V)) (d : Nat) (x : AV V) : St V :=
  match g with
  | none => { st with env := put st.env d x, gnv := scrubG d st.gnv }
  | some gd => match gd.keys with
    | k :: _ => { st with env := del d st.env, gnv := (d, k, x) :: scrubG d st.gnv }
    | [] => { st with env := del d st.env, gnv := scrubG d st.gnv }
def newRoot (st : St V) (d : Nat) (mem : Option TypeId) (es : List (E V)) : St V × Nat :=
  let g := match get st.sto d with | some r => r.gen + 1 | none => 0
  ({ st with sto := put st.sto d ⟨g, mem, es.map fun e => ⟨0, e⟩⟩ }, g)
def Ty.isSl : Ty → Bool
  | .sl _ _ => true
  | _ => false
def takeL {α : Type} : Nat → List α → List α
  | 0, _ => []
  | _ + 1, [] => []
  | n + 1, x :: r => x :: takeL n r
def dropL {α : Type} : Nat → List α → List α
  | 0, l => l
  | _ + 1, [] => []
  | n + 1, _ :: r => dropL n r
def Loc.plus (l : Loc V) (n : Nat) : Loc V :=
  match l.steps with
  | [] => { l with off := l.off + n, stamp := 0 }
  | _ => { l with steps := go l.steps }
where go : List (V × Nat) → List (V × Nat)
  | [] => []
  | [(i, o)] => [(i, o + n)]
  | x :: y :: r => x :: go (y :: r)
def cellAV (st : St V) (l : Loc V) (c : Cell V) : AV V :=
  match c.e with
  | .o 0 v => .lf v
  | .o (_ + 1) v => match ty v with
    | .sl _ _ => .ar { l with stamp := c.stamp }
    | .ptr _ _ => .u
    | _ => .lf v
  | .rf l' => match rootAt st l' with
    | some r => match r.mem with
      | some _ => .pt l'
      | none => .u
    | none => .u
  | .mv => .u
def Ty.scalar : Ty → Bool
  | .unit => true
  | .bool => true
  | .int _ => true
  | .str => true
  | .pair a b => a.scalar && b.scalar
  | .st f => f.scalar
  | _ => false
def Ty.plain : Ty → Bool
  | .sl _ _ => false
  | .ptr _ _ => false
  | _ => true
def allPlain : List V → Bool
  | [] => true
  | v :: r => (ty v).plain && allPlain r
def loadK (st : St V) (g : Option V) (agg : Bool) (t : Ty) (n : Nat) (l : Loc V) (k : AV V → R) : R :=
  oCase (rootAt st l) "load: no root" fun r => match l.steps with
    | [] => match r.mem with
      | none => fail "load: no variable"
      | some _ =>
        let avs := loadL st l 0 (takeL n (dropL l.off r.cells))
        match Nat.beq avs.length n with
        | false => fail "load: cells"
        | true => match agg with
          | true => k (mkAg t avs)
          | false => match avs with
            | [x] => k x
            | _ => fail "load: cells"
    | [(i, o)] => match getL r.cells l.off with
      | some ⟨stp, .o (d + 1) v⟩ => match Nat.beq stp l.stamp with
        | false => fail "load: stale"
        | true => idx g v i fun x => oCase (cellsOf (ty x) x) "load: deep" fun ys =>
          let zs := takeL n (dropL o ys)
          match Nat.beq zs.length n && (Nat.beq d 0 || allPlain zs) with
          | false => fail "load: owned deep"
          | true => match agg with
            | true => match n with
              | 0 => fail "load: no cells"
              | _ => oCase (packAll t zs) "load: pack" fun y => k (.lf y)
            | false => match zs with
              | [y] => k (.lf y)
              | _ => fail "load: deep cells"
      | _ => fail "load: deep root"
    | _ => fail "load: deep"
where loadL (st : St V) (l : Loc V) : Nat → List (Cell V) → List (AV V)
  | _, [] => []
  | j, c :: r => cellAV st { l with off := l.off + j } c :: loadL st l (j + 1) r
def peekA (st : St V) (l : Loc V) : Option V :=
  match l.steps with
  | [] => match cellAt st l with
    | some ⟨s, .o _ v⟩ => match Nat.beq s l.stamp && (ty v).isSl with
      | true => some v
      | false => none
    | _ => none
  | _ => none
def peekK (st : St V) (g : Option V) : AV V → (V → R) → R
  | .lf v, k => k v
  | .tl v, k => k v
  | .zs e a, k => k (zero (.sl e a))
  | .ar l, k => oCase (peekA st l) "peek" k
  | .ag t cs, k => match t.isAgg with
    | true => peekL cs [] fun vs => oCase (packAll t vs) "peek: pack" k
    | false => fail "peek: no aggregate"
  | .fn f [], k => oCase (fnV f .unit) "peek: function" k
  | _, _ => fail "peek"
where peekL : List (AV V) → List V → (List V → R) → R
  | [], acc, k => k acc.reverse
  | c :: cs, acc, k => match c with
    | .lf v => peekL cs (v :: acc) k
    | .tl v => peekL cs (v :: acc) k
    | .zs e a => peekL cs (zero (.sl e a) :: acc) k
    | .ar l => oCase (peekA st l) "peek: part" fun v => peekL cs (v :: acc) k
    | _ => fail "peek: part"
def peekAll (st : St V) (g : Option V) : List (AV V) → List V → (List V → R) → R
  | [], acc, k => k acc.reverse
  | c :: cs, acc, k => peekK st g c fun v => peekAll st g cs (v :: acc) k
def freezeL (st : St V) (l : Loc V) : St V :=
  match cellAt st l with
  | some ⟨s, .o _ v⟩ => setCell st l.root l.off ⟨s, .o 0 v⟩
  | _ => st
def frP (st : St V) (c : AV V) : St V := match c with | .ar l => freezeL st l | _ => st
def frL (st : St V) : List (AV V) → St V
  | [] => st
  | c :: r => frL (frP st c) r
def freezeA (st : St V) : AV V → St V
  | .ar l => freezeL st l
  | .ag _ cs => frL st cs
  | _ => st
def constAV (tb : Tabs) (t : TypeId) : Value → Option (AV V)
  | .bool b => some (.lf (litB b))
  | .int k n => some (.lf (litI k n))
  | .string s => some (.lf (litS s.data.toList))
  | .slice none 0 0 => match get tb.tt t with
    | some i => match i.ty with
      | .sl e a => some (.zs e a)
      | _ => none
    | none => none
  | .pointer none => match get tb.tt t with
    | some i => match i.ty with
      | .ptr e a => some (.lf (zero (.ptr e a)))
      | _ => none
    | none => none
  | .nilIface => some (.lf (zero .err))
  | .func (.func f) ⟨[]⟩ ⟨[]⟩ => some (.fn f [])
  | _ => none
def memK (k : Nat × Bool) : List (Nat × Bool) → Bool
  | [] => false
  | j :: r => match Nat.beq j.1 k.1 && (j.2 == k.2) with
    | true => true
    | false => memK k r
def evalO (tb : Tabs) (st : St V) (ks : List (Nat × Bool)) (t : TypeId) : Operand → Option (AV V)
  | .tmp s => match get st.env s with
    | some x => some x
    | none => match get st.gnv s with
      | some (k, x) => match memK k ks with
        | true => some x
        | false => none
      | none => none
  | .const v => constAV tb t v
  | .func f => some (.fn f [])
  | .global _ => none
def avCells (st : St V) : AV V → Option (List (AV V))
  | .lf v => match ty v with
    | .st f => match cellsOf (.st f) v with
      | some cs => some (cs.map .lf)
      | none => none
    | .unit => none
    | .pair _ _ => none
    | .fn _ _ => none
    | _ => some [.lf v]
  | .ag _ cs => some cs
  | .tu _ => none
  | .u => none
  | .ar l => match peekA st l with
    | some _ => some [.ar l]
    | none => none
  | x => some [x]
def Ty.dep : Ty → Nat
  | .sl _ a => a.dep + 1
  | .st f => f.dep
  | .pair a b => max a.dep b.dep
  | _ => 0
def absorb (st : St V) : AV V → Option (E V × St V)
  | .lf v => some (.o 0 v, st)
  | .tl v => some (.o 0 v, st)
  | .zs e a => some (.o (Ty.sl e a).dep (zero (.sl e a)), st)
  | .ar l => match l.steps with
    | [] => match cellAt st l with
      | some ⟨s, .o d v⟩ => match Nat.beq s l.stamp && (ty v).isSl with
        | true => some (.o d v, setCell st l.root l.off ⟨s + 1, .mv⟩)
        | false => none
      | _ => none
    | _ => none
  | .pt l => match l.steps with
    | [] => some (.rf l, st)
    | _ => none
  | .u => some (.mv, st)
  | _ => none
def absorbL (st : St V) : List (AV V) → Option (List (E V) × St V)
  | [] => some ([], st)
  | c :: cs => match absorb st c with
    | some (e, st') => match absorbL st' cs with
      | some (es, st'') => some (e :: es, st'')
      | none => none
    | none => none
def storeCells (st : St V) (k : Nat) : Nat → List (E V) → St V
  | _, [] => st
  | j, e :: es => match get st.sto k with
    | some r => match getL r.cells j with
      | some c => storeCells (setCell st k j ⟨c.stamp + 1, e⟩) k (j + 1) es
      | none => st
    | none => st
end
section
variable {V : Type}
def stepsL : List (V × Nat) → List V
  | [] => []
  | (v, _) :: r => v :: stepsL r
def leafsA : AV V → List V
  | .lf v => [v]
  | .tl v => [v]
  | .fp v => [v]
  | .ar l => stepsL l.steps
  | .pt l => stepsL l.steps
  | .ag _ cs => go cs
  | .tu cs => go cs
  | .fn _ cs => go cs
  | _ => []
where go : List (AV V) → List V
  | [] => []
  | .lf v :: r => v :: go r
  | .tl v :: r => v :: go r
  | .fp v :: r => v :: go r
  | .ar l :: r => stepsL l.steps ++ go r
  | .pt l :: r => stepsL l.steps ++ go r
  | _ :: r => go r
def leafsC : List (Cell V) → List V
  | [] => []
  | ⟨_, .o _ v⟩ :: r => v :: leafsC r
  | ⟨_, .rf l⟩ :: r => stepsL l.steps ++ leafsC r
  | _ :: r => leafsC r
def leafs (st : St V) : List V :=
  go1 st.env ++ go2 st.sto
where
  go1 : List (Nat × AV V) → List V
  | [] => []
  | (_, x) :: r => leafsA x ++ go1 r
  go2 : List (Nat × Root V) → List V
  | [] => []
  | (_, x) :: r => leafsC x.cells ++ go2 r
def ren (m : List (Nat × Nat)) (k : Nat) : Nat := match get m k with | some j => j | none => k
def renLoc (m : List (Nat × Nat)) (l : Loc V) : Loc V := { l with root := ren m l.root }
def renA1 (m : List (Nat × Nat)) : AV V → AV V
  | .lf v => .lf v
  | .zs e a => .zs e a
  | .tl v => .tl v
  | .fp v => .fp v
  | .ar l => .ar (renLoc m l)
  | .pt l => .pt (renLoc m l)
  | _ => .u
def renA (m : List (Nat × Nat)) : AV V → AV V
  | .ag t cs => .ag t (cs.map (renA1 m))
  | .tu cs => .tu (cs.map (renA1 m))
  | .fn f cs => .fn f (cs.map (renA1 m))
  | x => renA1 m x
def renE (m : List (Nat × Nat)) : E V → E V
  | .rf l => .rf (renLoc m l)
  | e => e
def renR (m : List (Nat × Nat)) (r : Root V) : Root V := ⟨r.gen, r.mem, r.cells.map fun c => ⟨c.stamp, renE m c.e⟩⟩
def renSto (m : List (Nat × Nat)) : List (Nat × Root V) → List (Nat × Root V)
  | [] => []
  | (k, r) :: s => put (renSto m s) (ren m k) (renR m r)
def dropSto (ks : List Nat) : List (Nat × Root V) → List (Nat × Root V)
  | [] => []
  | (k, x) :: r => match memN k ks with
    | true => dropSto ks r
    | false => (k, x) :: dropSto ks r
def putAll : List (Nat × Root V) → List (Nat × Root V) → List (Nat × Root V)
  | [], s => s
  | (k, x) :: r, s => put (putAll r s) k x
def mergeSto (ks : List Nat) (sto sto' : List (Nat × Root V)) : List (Nat × Root V) := putAll sto' (dropSto ks sto)
end
section
variable {V W : Type} [LAlg V]
def fillS : List (W × Nat) → List V → List (V × Nat) × List V
  | [], vs => ([], vs)
  | (_, o) :: r, v :: vs => let (a, b) := fillS r vs; ((v, o) :: a, b)
  | _ :: _, [] => ([], [])
def fillLoc (l : Loc W) (vs : List V) : Loc V × List V := let (s, r) := fillS l.steps vs; (⟨l.root, l.gen, l.off, l.stamp, s⟩, r)
def fillA1 : AV W → List V → AV V × List V
  | .lf _, v :: vs => (.lf v, vs)
  | .tl _, v :: vs => (.tl v, vs)
  | .fp _, v :: vs => (.fp v, vs)
  | .zs e a, vs => (.zs e a, vs)
  | .ar l, vs => let (l', r) := fillLoc l vs; (.ar l', r)
  | .pt l, vs => let (l', r) := fillLoc l vs; (.pt l', r)
  | _, vs => (.u, vs)
def fillAL : List (AV W) → List V → List (AV V) × List V
  | [], vs => ([], vs)
  | x :: r, vs => let (y, vs') := fillA1 x vs; let (ys, vs'') := fillAL r vs'; (y :: ys, vs'')
def fillA : AV W → List V → AV V × List V
  | .ag t cs, vs => let (a, b) := fillAL cs vs; (.ag t a, b)
  | .tu cs, vs => let (a, b) := fillAL cs vs; (.tu a, b)
  | .fn f cs, vs => let (a, b) := fillAL cs vs; (.fn f a, b)
  | x, vs => fillA1 x vs
def fillC : List (Cell W) → List V → List (Cell V) × List V
  | [], vs => ([], vs)
  | ⟨s, .o d _⟩ :: r, v :: vs => let (a, b) := fillC r vs; (⟨s, .o d v⟩ :: a, b)
  | ⟨_, .o _ _⟩ :: _, [] => ([], [])
  | ⟨s, .rf l⟩ :: r, vs => let (l', vs') := fillLoc l vs; let (a, b) := fillC r vs'; (⟨s, .rf l'⟩ :: a, b)
  | ⟨s, .mv⟩ :: r, vs => let (a, b) := fillC r vs; (⟨s, .mv⟩ :: a, b)
def fillE : List (Nat × AV W) → List V → List (Nat × AV V) × List V
  | [], vs => ([], vs)
  | (k, x) :: r, vs => let (y, vs') := fillA x vs; let (a, b) := fillE r vs'; ((k, y) :: a, b)
def fillR : List (Nat × Root W) → List V → List (Nat × Root V) × List V
  | [], vs => ([], vs)
  | (k, x) :: r, vs => let (cs, vs') := fillC x.cells vs; let (a, b) := fillR r vs'; ((k, ⟨x.gen, x.mem, cs⟩) :: a, b)
def fill (sh : St W) (vs : List V) : St V :=
  let (e, r) := fillE sh.env vs
  ⟨e, [], (fillR sh.sto r).1⟩
end
section
variable {V : Type} [LAlg V]
open LAlg
def sameSteps : List (V × Nat) → List (Ty × Nat) → Bool
  | [], [] => true
  | (v, o) :: r, (t, o') :: r' => decide (ty v = t) && (Nat.beq o o' && sameSteps r r')
  | _, _ => false
def sameLoc (l : Loc V) (m : Loc Ty) : Bool := Nat.beq l.root m.root && (Nat.beq l.gen m.gen && (Nat.beq l.off m.off && (Nat.beq l.stamp m.stamp && sameSteps l.steps m.steps)))
def sameA1 : AV V → AV Ty → Bool
  | .lf v, .lf t => decide (ty v = t)
  | .tl v, .tl t => decide (ty v = t)
  | .fp v, .fp t => decide (ty v = t)
  | .zs e a, .zs e' a' => Nat.beq e e' && decide (a = a')
  | .ar l, .ar m => sameLoc l m
  | .pt l, .pt m => sameLoc l m
  | .u, .u => true
  | _, _ => false
def sameAL : List (AV V) → List (AV Ty) → Bool
  | [], [] => true
  | x :: r, y :: s => sameA1 x y && sameAL r s
  | _, _ => false
def sameA : AV V → AV Ty → Bool
  | .ag t cs, .ag t' cs' => decide (t = t') && sameAL cs cs'
  | .tu cs, .tu cs' => sameAL cs cs'
  | .fn f cs, .fn f' cs' => Nat.beq f f' && sameAL cs cs'
  | x, y => sameA1 x y
def sameC : List (Cell V) → List (Cell Ty) → Bool
  | [], [] => true
  | ⟨s, .o d v⟩ :: r, ⟨s', .o d' w⟩ :: r' => Nat.beq s s' && (Nat.beq d d' && (decide (ty v = w) && sameC r r'))
  | ⟨s, .rf l⟩ :: r, ⟨s', .rf m⟩ :: r' => Nat.beq s s' && (sameLoc l m && sameC r r')
  | ⟨s, .mv⟩ :: r, ⟨s', .mv⟩ :: r' => Nat.beq s s' && sameC r r'
  | _, _ => false
def sameE : List (Nat × AV V) → List (Nat × AV Ty) → Bool
  | [], [] => true
  | (k, x) :: r, (k', y) :: r' => Nat.beq k k' && (sameA x y && sameE r r')
  | _, _ => false
def sameR : List (Nat × Root V) → List (Nat × Root Ty) → Bool
  | [], [] => true
  | (k, x) :: r, (k', y) :: r' => Nat.beq k k' && (Nat.beq x.gen y.gen && (decide (x.mem = y.mem) && (sameC x.cells y.cells && sameR r r')))
  | _, _ => false
def sameSt (a : St V) (b : St Ty) : Bool := sameE a.env b.env && sameR a.sto b.sto
def tup : List V → V
  | [] => unitV
  | [v] => v
  | v :: r => mkpair v (tup r)
def untup : Nat → V → Option (List V)
  | 0, _ => some []
  | 1, v => some [v]
  | n + 2, v => match fst v, snd v with
    | some x, some y => match untup (n + 1) y with
      | some xs => some (x :: xs)
      | none => none
    | _, _ => none
end
def tupTy : List Ty → Ty
  | [] => .unit
  | [t] => t
  | t :: r => .pair t (tupTy r)
section
variable {V R : Type} [LAlg V] [RF R] [RAlg V R]
open LAlg RF RAlg
def selK (st : St V) (g : Option V) : List (AV Ty) → List (AV V) → List (AV V) → (List (AV V) → R) → R
  | [], [], acc, k => k acc.reverse
  | p :: ps, x :: xs, acc, k => match p with
    | .lf _ => peekK st g x fun v => selK st g ps xs (.lf v :: acc) k
    | _ => selK st g ps xs (x :: acc) k
  | _, _, _, _ => fail "selK"
def frSel (st : St V) : List (AV Ty) → List (AV V) → St V
  | p :: ps, x :: xs => match p with
    | .lf _ => frSel (freezeA st x) ps xs
    | _ => frSel st ps xs
  | _, _ => st
def zipN : Nat → List (AV V) → List (Nat × AV V)
  | _, [] => []
  | n, x :: r => (n, x) :: zipN (n + 1) r
def patsOf : List (Nat × AV Ty) → List (AV Ty)
  | [] => []
  | (_, x) :: r => x :: patsOf r
def eOk : E V → Bool
  | .o _ v => match ty v with
    | .unit => false
    | .pair _ _ => false
    | .st _ => false
    | .fn _ _ => false
    | _ => true
  | .rf _ => true
  | .mv => false
def allE : List (E V) → Bool
  | [] => true
  | e :: es => eOk e && allE es
def rfOk (d : Nat) : List (E V) → Bool
  | [] => true
  | .rf l :: es => !Nat.beq l.root d && rfOk d es
  | _ :: es => rfOk d es
def storeK (st : St V) (l : Loc V) (x : AV V) (n : Nat) (k : St V → R) : R :=
  match rootAt st l with
  | none => fail "store: no root"
  | some r => match l.steps with
    | [] => match r.mem with
      | none => fail "store: no variable"
      | some _ => oCase (avCells st x) "store cells" fun cs => oCase (absorbL st cs) "store absorb" fun (es, st') =>
        match allE es && (Nat.beq es.length n && Nat.ble (l.off + n) r.cells.length) with
        | true => k (storeCells st' l.root l.off es)
        | false => fail "store: cells"
    | [(i, o)] => peekK st none x fun xv => oCase (avCells st (.lf xv)) "store: value" fun ps => oCase (lfs ps) "store: value" fun zs => match cellAt (freezeA st x) l with
      | some ⟨stp, .o 1 v⟩ => match Nat.beq stp l.stamp && (Nat.beq zs.length n && allE (zs.map fun z => E.o 0 z)) with
        | true => idx none v i fun xe => oCase (cellsOf (ty xe) xe) "store: element" fun ys => match Nat.ble (o + n) ys.length && Nat.ble 1 n with
          | true => oCase (packAll (ty xe) (takeL o ys ++ (zs ++ dropL (o + n) ys))) "store: pack" fun y => oCase (setV v i y) "store: set" fun v' => k (setCell (freezeA st x) l.root l.off ⟨stp, .o 1 v'⟩)
          | false => fail "store: place"
        | false => fail "store: stale"
      | _ => fail "store: deep root"
    | _ => fail "store: deep"
def constInt : Operand → Option Int
  | .const (.int _ n) => some n
  | _ => none
def checkIdx (g : Option V) (n : V) (hi : V) (k : R) : R :=
  oCase (bin .leq (litI .i64 0) n) "chk" fun c1 => oCase (bin .leq n hi) "chk" fun c2 => oCase (andV c1 c2) "chk" fun c => check g c k
def freezeAll (st : St V) : List (AV V) → St V
  | [] => st
  | x :: r => freezeAll (freezeA st x) r
def backM (d : Nat) : List (Nat × Root Ty) → List (Nat × Nat)
  | [] => []
  | (k, _) :: r => (k, 100000 * (d + 1) + k) :: backM d r
def keysFree (sto : List (Nat × Root V)) : List (Nat × Root V) → Bool
  | [] => true
  | (k, _) :: r => (match get sto k with | some _ => false | none => true) && keysFree sto r
def allLf : List (AV Ty) → Bool
  | [] => true
  | .lf t :: r => t.scalar && allLf r
  | _ :: _ => false
def keepB (sg : Sig) : Bool := allLf (patsOf sg.out.env) && (sg.out.sto.isEmpty && sg.ins.sto.isEmpty)
def ownC (d : Nat) : Ty → Bool
  | .sl _ a => Nat.ble 1 d && a.scalar
  | t => t.scalar
def ownE : List (Cell Ty) → Bool
  | [] => true
  | ⟨_, .o d t⟩ :: r => ownC d t && ownE r
  | _ :: _ => false
def ownS : List (Nat × Root Ty) → Bool
  | [] => true
  | (_, x) :: r => ownE x.cells && ownS r
def ownP : List (AV Ty) → Bool
  | [] => true
  | .lf t :: r => t.scalar && ownP r
  | .ar _ :: r => ownP r
  | .pt _ :: r => ownP r
  | _ :: _ => false
def keepO (sg : Sig) : Bool := ownP (patsOf sg.out.env) && (sg.ins.sto.isEmpty && ownS sg.out.sto)
def resA (many : Bool) (xs : List (AV V)) : Option (AV V) :=
  match many with
  | true => some (.tu xs)
  | false => match xs with
    | [x] => some x
    | _ => none
def vals : List (Nat × AV V) → List (AV V)
  | [] => []
  | (_, x) :: r => x :: vals r
def AV.roots : AV V → List Nat
  | .ar l => [l.root]
  | .pt l => [l.root]
  | .ag _ cs => rootsL cs
  | .fn _ cs => rootsL cs
  | .tu cs => rootsL cs
  | _ => []
where rootsL : List (AV V) → List Nat
  | [] => []
  | c :: r => AV.roots c ++ rootsL r
def cellRoots : List (Cell V) → List Nat
  | [] => []
  | ⟨_, .rf l⟩ :: r => l.root :: cellRoots r
  | _ :: r => cellRoots r
def keepEnv (live : List Nat) : List (Nat × AV V) → List (Nat × AV V)
  | [] => []
  | (k, x) :: r => match memN k live with
    | true => (k, x) :: keepEnv live r
    | false => keepEnv live r
def keepSto (ks : List Nat) : List (Nat × Root V) → List (Nat × Root V)
  | [] => []
  | (k, x) :: r => match memN k ks with
    | true => (k, x) :: keepSto ks r
    | false => keepSto ks r
def stoIn (ks : List Nat) : List (Nat × Root V) → Bool
  | [] => true
  | (k, _) :: r => memN k ks && stoIn ks r
def rfIn (ks : List Nat) : List (Cell V) → Bool
  | [] => true
  | ⟨_, .rf l⟩ :: r => memN l.root ks && rfIn ks r
  | _ :: r => rfIn ks r
def closed (ks : List Nat) : List (Nat × Root V) → Bool
  | [] => true
  | (k, x) :: r => (!memN k ks || rfIn ks x.cells) && closed ks r
def envRoots : List (Nat × AV V) → List Nat
  | [] => []
  | (_, x) :: r => x.roots ++ envRoots r
def stoRoots (ks : List Nat) : List (Nat × Root V) → List Nat
  | [] => []
  | (k, x) :: r => match memN k ks with
    | true => cellRoots x.cells ++ stoRoots ks r
    | false => stoRoots ks r
def clean (live : List Nat) (st : St V) : St V :=
  let env := keepEnv live st.env
  let k0 := envRoots env
  let k1 := k0 ++ stoRoots k0 st.sto
  let k2 := k1 ++ stoRoots k1 st.sto
  ⟨env, [], keepSto k2 st.sto⟩
def normLoc (st : St V) (deep : Bool) (l : Loc V) : Option (Loc V) :=
  match get st.sto l.root with
  | some r => match Nat.beq r.gen l.gen with
    | true => match deep || !l.steps.isEmpty with
      | false => some { l with gen := 0, stamp := 0 }
      | true => match getL r.cells l.off with
        | some c => match Nat.beq c.stamp l.stamp with
          | true => some { l with gen := 0, stamp := 0 }
          | false => none
        | none => none
    | false => none
  | none => none
def norm1 (st : St V) : AV V → AV V
  | .lf v => .lf v
  | .zs e a => .zs e a
  | .tl v => .tl v
  | .fp v => .fp v
  | .ar l => match normLoc st true l with | some l' => .ar l' | none => .u
  | .pt l => match normLoc st false l with | some l' => .pt l' | none => .u
  | _ => .u
def normA (st : St V) : AV V → AV V
  | .ag t cs => .ag t (cs.map (norm1 st))
  | .fn f cs => .fn f (cs.map (norm1 st))
  | .tu cs => .tu (cs.map (norm1 st))
  | x => norm1 st x
def normE (st : St V) : E V → E V
  | .rf l => match normLoc st false l with | some l' => .rf l' | none => .mv
  | e => e
def normR (st : St V) (r : Root V) : Root V := ⟨0, r.mem, r.cells.map fun c => ⟨0, normE st c.e⟩⟩
def normalize (st : St V) : St V := ⟨st.env.map fun p => (p.1, normA st p.2), [], st.sto.map fun p => (p.1, normR st p.2)⟩
def maskL : List (AV V) → List (AV V)
  | [] => []
  | .lf _ :: r => .u :: maskL r
  | x :: r => x :: maskL r
def nameL (k g : Nat) : Nat → List (AV V) → List (AV V)
  | _, [] => []
  | j, .lf v :: r => .lf v :: nameL k g (j + 1) r
  | j, _ :: r => .ar ⟨k, g, j, 0, []⟩ :: nameL k g (j + 1) r
def noRf : List (E V) → Bool
  | [] => true
  | .rf _ :: _ => false
  | _ :: r => noRf r
def coerce1 (st : St V) : List Nat → St V
  | [] => st
  | s :: r => match get st.env s with
    | some (.zs e a) =>
      let (st', gen) := newRoot st (2000 + s) none [.o 1 (zero (.sl e a))]
      coerce1 { st' with env := put st'.env s (.ar ⟨2000 + s, gen, 0, 0, []⟩) } r
    | some (.ag t cs) => match absorbL st (maskL cs) with
      | some (es, st1) => match noRf es with
        | true =>
          let (st', gen) := newRoot st1 (2000 + s) none es
          coerce1 { st' with env := put st'.env s (.ag t (nameL (2000 + s) gen 0 cs)) } r
        | false => coerce1 st r
      | none => coerce1 st r
    | _ => coerce1 st r
def renames : List (Nat × AV V) → List (Nat × Nat) → List (Nat × Nat)
  | [], m => m
  | (s, .ar l) :: r, m => renames r (match l.steps, get m l.root with | [], none => put m l.root (1000 + s) | _, _ => m)
  | (s, .pt l) :: r, m => renames r (match l.steps, get m l.root with | [], none => put m l.root (1000 + s) | _, _ => m)
  | (s, .ag _ cs) :: r, m => renames r (match firstAr cs with
    | some k => match get m k with
      | none => put m k (1000 + s)
      | some _ => m
    | none => m)
  | _ :: r, m => renames r m
where firstAr : List (AV V) → Option Nat
  | [] => none
  | .ar l :: _ => some l.root
  | _ :: r => firstAr r
def renSt (m : List (Nat × Nat)) (st : St V) : St V := ⟨st.env.map fun p => (p.1, renA m p.2), [], renSto m st.sto⟩
def renamesC (nm : Nat) : Nat → List (Cell V) → List (Nat × Nat) → List (Nat × Nat)
  | _, [], m => m
  | j, ⟨_, .rf l⟩ :: r, m => renamesC nm (j + 1) r (match get m l.root with | none => put m l.root (10 * nm + j) | some _ => m)
  | j, _ :: r, m => renamesC nm (j + 1) r m
def renamesR : List (Nat × Root V) → List (Nat × Nat) → List (Nat × Nat)
  | [], m => m
  | (k, r) :: s, m => renamesR s (match get m k with | some nm => renamesC nm 0 r.cells m | none => m)
def renM (st : St V) : List (Nat × Nat) := renamesR st.sto (renamesR st.sto (renames st.env []))
def rename (st : St V) : St V :=
  let m := renM st
  match nodupN (st.sto.map fun p => ren m p.1) with
  | false => st
  | true => renSt m st
def lower (st : St V) : List (Nat × Nat × Nat) → St V
  | [] => st
  | (k, j, d) :: r => match get st.sto k with
    | some rt => match getL rt.cells j with
      | some ⟨s, .o d' v⟩ => lower (setCell st k j ⟨s, .o (match Nat.ble d d' with | true => d | false => d') v⟩) r
      | _ => lower st r
    | none => lower (newRoot st k none []).1 r
def prep (h : JH) (st : St V) : St V := lower (rename (normalize (clean h.live (coerce1 (normalize (clean h.live st)) h.co)))) h.low
def toSh (s : SH) (w : String) (k : List V → R) (st : St V) : R :=
  let st1 := prep s.h st
  match sameSt st1 s.sh with
  | true => k (leafs st1)
  | false => fail w
def normLoc0 (l : Loc V) : Bool := Nat.beq l.gen 0 && Nat.beq l.stamp 0
def norm0A : AV V → Bool
  | .u => true
  | .lf _ => true
  | .zs _ _ => true
  | .ar l => normLoc0 l
  | .pt l => normLoc0 l
  | _ => false
def norm0E : List (Nat × AV V) → Bool
  | [] => true
  | (_, x) :: r => norm0A x && norm0E r
def norm0C : List (Cell V) → Bool
  | [] => true
  | ⟨s, .rf l⟩ :: r => Nat.beq s 0 && (normLoc0 l && norm0C r)
  | ⟨s, _⟩ :: r => Nat.beq s 0 && norm0C r
def norm0S : List (Nat × Root V) → Bool
  | [] => true
  | (_, x) :: r => Nat.beq x.gen 0 && (norm0C x.cells && norm0S r)
def labG (sto : List (Nat × Root V)) (A : List Nat) (k : Nat) : Nat :=
  match get sto k with
  | some r => match memN k A with | true => r.gen | false => r.gen + 1
  | none => 0
def labS (sto : List (Nat × Root V)) (A : List Nat) (k j : Nat) : Nat :=
  match memN k A with
  | true => match get sto k with
    | some r => match getL r.cells j with
      | some c => c.stamp + 1
      | none => 0
    | none => 0
  | false => 0
def labL (sto : List (Nat × Root V)) (A : List Nat) (l : Loc V) : Loc V := { l with gen := labG sto A l.root, stamp := labS sto A l.root l.off }
def labE (sto : List (Nat × Root V)) (A : List Nat) : E V → E V
  | .rf l => .rf (labL sto A l)
  | e => e
def labC (sto : List (Nat × Root V)) (A : List Nat) (k : Nat) : Nat → List (Cell V) → List (Cell V)
  | _, [] => []
  | j, c :: r => ⟨labS sto A k j, labE sto A c.e⟩ :: labC sto A k (j + 1) r
def labR (sto : List (Nat × Root V)) (A : List Nat) (k : Nat) (r : Root V) : Root V := ⟨labG sto A k, r.mem, labC sto A k 0 r.cells⟩
def labA (sto : List (Nat × Root V)) (A : List Nat) : AV V → AV V
  | .ar l => .ar (labL sto A l)
  | .pt l => .pt (labL sto A l)
  | x => x
def labSt (sto : List (Nat × Root V)) (A : List Nat) (so : St V) : St V := ⟨so.env.map fun p => (p.1, labA sto A p.2), [], so.sto.map fun p => (p.1, labR sto A p.1 p.2)⟩
def backR (m : List (Nat × Nat)) (ks : List Nat) (d : Option Nat) (n : Nat) (keep : List Nat) (all : List (Nat × Root Ty)) : List (Nat × Root Ty) → List (Nat × Nat)
  | [] => []
  | (k', _) :: r => (k', match inv m (inN k') with
      | some k => match memN k ks && !(Nat.blt k' (1000 + n) && twice (inN k') all) with | true => k | false => fresh k'
      | none => fresh k') :: backR m ks d n keep all r
where
  in1 (k' : Nat) : Nat := match Nat.ble (1000 + n) k' with
    | true => match getL keep (k' - (1000 + n)) with
      | some p => 1000 + p
      | none => k'
    | false => k'
  inN (k' : Nat) : Nat := match Nat.ble 10000 k' with
    | true => 10 * in1 (k' / 10) + k' % 10
    | false => in1 k'
  fresh (k' : Nat) : Nat := 100000 * (match d with | some d => d + 1 | none => 0) + k'
  twice (j : Nat) : List (Nat × Root Ty) → Bool
    | [] => false
    | (k', _) :: r => (Nat.ble (1000 + n) k' && Nat.beq (inN k') j) || twice j r
  inv : List (Nat × Nat) → Nat → Option Nat
    | [], _ => none
    | (k, k') :: r, j => match Nat.beq k' j with | true => some k | false => inv r j
def kept (ys : List (AV V)) : List Nat → List (AV V) → List (AV V × AV V)
  | p :: ps, z :: zs => match getL ys p with
    | some y => (y, z) :: kept ys ps zs
    | none => kept ys ps zs
  | _, _ => []
def dirA (s1 s2 : List (Nat × Root V)) : List (AV V × AV V) → List Nat
  | [] => []
  | (.pt l, .pt l') :: r => match l.steps.isEmpty && (l'.steps.isEmpty && (Nat.beq l.root l'.root && (Nat.beq l.off l'.off && okA l))) with
    | true => l.root :: dirA s1 s2 r
    | false => dirA s1 s2 r
  | _ :: r => dirA s1 s2 r
where
  okA (l : Loc V) : Bool := match get s1 l.root, get s2 l.root with
    | some r1, some r2 => r1.mem.isSome && (r2.mem.isSome && (Nat.beq r1.cells.length r2.cells.length && Nat.beq r1.gen l.gen))
    | _, _ => false
def sameN (a b : Loc V) : Bool := a.steps.isEmpty && (b.steps.isEmpty && (Nat.beq a.root b.root && (Nat.beq a.gen b.gen && (Nat.beq a.off b.off && Nat.beq a.stamp b.stamp))))
def rebA (st1 : St V) (sto : List (Nat × Root V)) (A : List Nat) : List (AV V × AV V) → Loc V → AV V
  | [], l => .ar l
  | (.ar l0, .ar l') :: r, l => match sameN l0 l && (peekA st1 l0).isSome with
    | true => .ar (labL sto A l')
    | false => rebA st1 sto A r l
  | _ :: r, l => rebA st1 sto A r l
def rebX (st1 : St V) (sto : List (Nat × Root V)) (A : List Nat) (ps : List (AV V × AV V)) : AV V → AV V
  | .ar l => rebA st1 sto A ps l
  | x => x
def rebE (st1 : St V) (sto : List (Nat × Root V)) (A : List Nat) (ps : List (AV V × AV V)) (env : List (Nat × AV V)) : List (Nat × AV V) := env.map fun p => (p.1, rebX st1 sto A ps p.2)
def crPs (ys : List (AV V)) (keep : List Nat) (so1 : St V) : List (AV V × AV V) := kept ys keep (dropL (so1.env.length - keep.length) (vals so1.env))
def crSo (st1 so1 : St V) (ys : List (AV V)) (keep : List Nat) : St V := labSt st1.sto (dirA st1.sto so1.sto (crPs ys keep so1)) so1
def crSt (st1 so1 : St V) (ys : List (AV V)) (keep ks : List Nat) : St V :=
  ⟨rebE st1 st1.sto (dirA st1.sto so1.sto (crPs ys keep so1)) (crPs ys keep so1) st1.env, st1.gnv, mergeSto ks st1.sto (crSo st1 so1 ys keep).sto⟩
def keysNew (sto : List (Nat × Root V)) (ks : List Nat) : List Nat → Bool
  | [] => true
  | k :: r => (memN k ks || (match get sto k with | some _ => false | none => true)) && keysNew sto ks r
def keysAll (sto : List (Nat × Root V)) (keys : List Nat) : List Nat → Bool
  | [] => true
  | k :: r => (memN k keys || (match get sto k with | some _ => false | none => true)) && keysAll sto keys r
def resV (keep : List Nat) (env : List (Nat × AV V)) : List (AV V) :=
  match keep with
  | [] => vals env
  | _ => takeL (env.length - keep.length) (vals env)
def reachK (env : List (Nat × AV V)) (sto : List (Nat × Root V)) : List Nat :=
  let k0 := envRoots env
  let k1 := k0 ++ stoRoots k0 sto
  k1 ++ stoRoots k1 sto
def crM (sg : Sig) (d : Option Nat) (env : List (Nat × AV V)) (sto : List (Nat × Root V)) : List (Nat × Nat) :=
  backR (renM (normalize (clean sg.h.live (coerce1 (normalize (clean sg.h.live ⟨env, [], keepSto (reachK env sto) sto⟩)) sg.h.co)))) (reachK env sto) d (sg.out.env.length - sg.keep.length) sg.keep sg.out.sto sg.out.sto
def crN (mm : List (Nat × Nat)) (sg : Sig) : List Nat := sg.out.sto.map fun p => ren mm p.1
def altTy (o : St Ty) : Option (St Ty) → Ty
  | none => tupTy (leafs o)
  | some a => .pair .bool (.pair (tupTy (leafs o)) (tupTy (leafs a)))
def resTy (sg : Sig) : Ty := altTy sg.out sg.alt
def altK (sg : Sig) (r : V) (K : St Ty → V → R) : R := match sg.alt with
  | none => K sg.out r
  | some a => oCase (fst r) "alt" fun t => oCase (snd r) "alt" fun q => oCase (fst q) "alt" fun x => oCase (snd q) "alt" fun y => ite t (K sg.out x) (K a y)
def callP (st1 : St V) (d : Option Nat) (sg : Sig) (ys : List (AV V)) (k : St V → R) (r : V) : R :=
  let mm := crM sg d (zipN 0 ys) st1.sto
  match closed (reachK (zipN 0 ys) st1.sto ++ crN mm sg) st1.sto && (keysNew st1.sto (reachK (zipN 0 ys) st1.sto) (crN mm sg) && (keysAll st1.sto (crN mm sg) (reachK (zipN 0 ys) st1.sto) && nodupN (crN mm sg))) with
  | false => fail "call: roots"
  | true => oCase (untup (leafs sg.out).length r) "call: results" fun rs =>
    match norm0E (fill sg.out rs).env && norm0S (fill sg.out rs).sto with
    | false => fail "call: names"
    | true => oCase (resA sg.many (resV sg.keep (crSo st1 (renSt mm (fill sg.out rs)) ys sg.keep).env)) "call: results" fun x => match d with
      | some d => k (putE (crSt st1 (renSt mm (fill sg.out rs)) ys sg.keep (reachK (zipN 0 ys) st1.sto ++ crN mm sg)) none d x)
      | none => k (crSt st1 (renSt mm (fill sg.out rs)) ys sg.keep (reachK (zipN 0 ys) st1.sto ++ crN mm sg))
def callR (st : St V) (d : Option Nat) (f : Nat) (sg : Sig) (args : List (AV V)) (k : St V → R) : R :=
  selK st none (patsOf sg.ins.env) args [] fun ys =>
    let st1 := frSel st (patsOf sg.ins.env) args
    toSh ⟨sg.h, sg.ins⟩ "call: shapes" (fun vs => call f (resTy sg) none vs fun r => altK sg r fun o x => callP st1 d { sg with out := o } ys k x) ⟨zipN 0 ys, [], keepSto (reachK (zipN 0 ys) st1.sto) st1.sto⟩
def zAll (sto : List (Nat × Root Ty)) : List (AV Ty) → Option (List (AV V))
  | [] => some []
  | .lf t :: r => match zAll sto r with
    | some xs => some (.lf (zero t) :: xs)
    | none => none
  | .ar l :: r => match get sto l.root with
    | some rt => match getL rt.cells l.off with
      | some ⟨_, .o _ t⟩ => match zAll sto r with
        | some xs => some (.lf (zero t) :: xs)
        | none => none
      | _ => none
    | none => none
  | _ :: _ => none
def call1P (st : St V) (gd : Option (Gd V)) (d : Nat) (sg : Sig) (args : List (AV V)) (k : St V → R) (r : V) : R :=
  oCase (untup (leafs sg.out).length r) "call: results" fun rs =>
    let so := fill sg.out rs
    match keepB sg with
    | true => match sameE so.env sg.out.env with
      | true => oCase (resA sg.many (vals so.env)) "call: results" fun x => k (putE st gd d x)
      | false => fail "call: results"
    | false => match so.sto, gd with
      | [], _ => oCase (resA sg.many (vals so.env)) "call: results" fun x => k (putE (freezeAll st args) gd d x)
      | _ :: _, none =>
        let m := backM d sg.out.sto
        let st1 := match keepO sg && sameSt so sg.out with | true => st | false => freezeAll st args
        let rsto := renSto m so.sto
        match keysFree st1.sto rsto && nodupN (so.sto.map fun p => ren m p.1) with
        | true => oCase (resA sg.many (vals (so.env.map fun p => (p.1, renA m p.2)))) "call: results" fun x => k (putE { st1 with sto := putAll rsto st1.sto } none d x)
        | false => fail "call: keys"
      | _, _ => fail "call: under a guard"
def altG (sg : Sig) (gd : Option (Gd V)) : Bool := match sg.alt, gd with
  | some _, some _ => false
  | _, _ => true
def call2 (st : St V) (gd : Option (Gd V)) (d : Option Nat) (rts : Bool) (key : Nat) (sg : Sig) (args : List (AV V)) (k : St V → R) : R :=
  match sg.ins.sto with
    | _ :: _ => match rts with
      | true => match gd with
        | none => callR st d key sg args k
        | some g1 => match d with
          | some d1 => oCase ((zAll sg.out.sto (resV sg.keep sg.out.env)).bind (resA sg.many)) "call: guarded" fun z => ite g1.c (callR st d key sg args k) (k (putE st gd d1 z))
          | none => fail "call: guarded"
      | false => fail "call: roots"
    | [] => selK st (gd.map (·.c)) (patsOf sg.ins.env) args [] fun ys => match sameE (zipN 0 ys) sg.ins.env && (sg.keep.isEmpty && altG sg gd) with
      | false => fail "call: types"
      | true => oCase (match allStat ys with | true => some (leafs.go1 (zipN 0 ys)) | false => none) "call: values" fun vs =>
        call key (resTy sg) (gd.map (·.c)) vs fun r => match d with
          | none => fail "call: no slot"
          | some d => altK sg r fun o x => call1P st gd d { sg with out := o } args k x
def misfit : AV Ty → AV V → Bool
  | .lf _, .pt _ => true
  | .lf _, .fn _ (_ :: _) => true
  | .pt _, .lf _ => true
  | .ar _, .lf _ => true
  | .ar _, .tl _ => true
  | .fn f _, .fn f' _ => !Nat.beq f f'
  | .fn _ _, _ => true
  | .lf _, .fp _ => true
  | .fp _, .fp _ => false
  | .fp _, _ => true
  | _, _ => false
def misfits : List (AV Ty) → List (AV V) → Bool
  | p :: ps, x :: xs => misfit p x || misfits ps xs
  | _, _ => false
def ownOnly (sg : Sig) : Bool := match sg.ins.sto, sg.out.sto with
  | [], _ :: _ => true
  | _, _ => false
def pickSig (g : Bool) (sigs : List (Nat × Sig)) (args : List (AV V)) : Nat → Nat → Option (Nat × Sig)
  | 0, _ => none
  | n + 1, key => match get sigs key with
    | some sg => match misfits (patsOf sg.ins.env) args || (g && ownOnly sg) with
      | false => some (key, sg)
      | true => pickSig g sigs args n (key + 100000)
    | none => pickSig g sigs args n (key + 100000)
def fnOf (key : Nat) : Nat := key % 100000
def call1 (tb : Tabs) (st : St V) (gd : Option (Gd V)) (d : Option Nat) (rts : Bool) (f : Nat) (args : List (AV V)) (k : St V → R) : R :=
  match Nat.blt f 100000 with
  | false => fail "call: number"
  | true => oCase (pickSig (match gd with | some _ => true | none => false) tb.sigs args 6 f) (match get tb.sigs f with | some _ => "gone: call" | none => "no sig") fun p => call2 st gd d rts p.1 p.2 args k
def isFn : Operand → Bool
  | .func _ => true
  | _ => false
def sameSort : Ty → Ty → Bool
  | .str, .str => true
  | .sl _ _, .sl _ _ => true
  | _, _ => false
def sameSl : Ty → Ty → Bool
  | .sl e _, .sl e' _ => Nat.beq e e'
  | _, _ => false
def sameRow : Ty → Ty → Bool
  | .str, .str => true
  | .sl e _, .sl e' _ => Nat.beq e e'
  | _, _ => false
def cmpK (tb : Tabs) (t : TypeId) (A : Ty) (go : R) : R :=
  oCase (get tb.tt t) "type" fun i => match i.cmp && decide (i.ty = A) with
    | true => go
    | false => fail "comparison"
def eqK (tb : Tabs) (t : TypeId) (y0 : Operand) (A : Ty) (go : R) : R :=
  match A with
  | .int _ => go
  | .str => go
  | .err => match y0 with
    | .const _ => oCase (get tb.tt t) "type" fun i => match decide (i.ty = .err) with
      | true => go
      | false => fail "comparison of errors"
    | _ => fail "comparison of errors"
  | .ptr e A => oCase (get tb.tt t) "type" fun i => match decide (i.ty = .ptr e A) with
    | true => go
    | false => fail "comparison of pointers"
  | A => cmpK tb t A go
def seqN : Nat → List (Nat × Operand) → Nat → Bool
  | j, [], n => Nat.beq j n
  | j, (i, _) :: r, n => Nat.beq i j && seqN (j + 1) r n
def ptNil (op : BinOp) (y0 : Operand) (x : AV V) : Option Bool :=
  match y0 with
  | .const (.pointer none) => match x with
    | .pt _ => go op
    | .fp _ => go op
    | _ => none
  | _ => none
where go : BinOp → Option Bool
  | .eql => some false
  | .neq => some true
  | _ => none
def isSt : Ty → Bool
  | .st _ => true
  | _ => false
def rootG (gd : Option (Gd V)) (body other : R) : R := match gd with
  | none => body
  | some g1 => ite g1.c body other
def boxed (leafs : List Nat) : Option Nat → Option Nat
  | some d => match memN d leafs with | true => some d | false => none
  | none => none
def Ty.hasFn : Ty → Bool
  | .fn _ _ => true
  | .pair a b => a.hasFn || b.hasFn
  | .st f => f.hasFn
  | _ => false
def AV.isAr : AV V → Bool
  | .ar _ => true
  | _ => false
def keepY (st : St V) (a : Ty) (y : AV V) : St V := match a.scalar && y.isAr with
  | true => st
  | false => freezeA st y
def opK (tb : Tabs) (st : St V) (gd : Option (Gd V)) (dst : Option Nat) (rt : TypeId) (o : Op) (k : St V → R) : R :=
  let g : Option V := gd.map (·.c)
  let ks : List (Nat × Bool) := gdKeys gd
  let ev (t : TypeId) (x : Operand) (k : AV V → R) : R := oCase (evalO tb st ks t x) "operand" k
  let ret (x : AV V) : R := match dst with
    | some d => k (putE st gd d x)
    | none => k st
  let leaf (o : Option V) (w : String) : R := oCase o w fun v => ret (.lf v)
  let ti (t : TypeId) (k : TI → R) : R := oCase (get tb.tt t) "type" k
  let noG (k : R) : R := match gd with
    | none => k
    | some _ => fail "under a guard"
  match o with
  | .move x | .assign x => ev rt x ret
  | .pick c a b => match c with
    | .tmp dc => ev rt c fun c => oCase (evalO tb st ((dc, true) :: ks) rt a) "pick" fun a => oCase (evalO tb st ((dc, false) :: ks) rt b) "pick" fun b => match c, a, b with
      | .lf c, .lf a, .lf b => oCase (pickV c a b) "pick" fun v => letV v fun v => ret (.lf v)
      | _, _, _ => fail "pick"
    | _ => fail "pick"
  | .extract x i => ev rt x fun x => match x with
    | .tu vs => oCase (getL vs i) "extract" ret
    | _ => fail "extract"
  | .nilCheck x => ev rt x fun x => match x with
    | .pt l => ret (.pt l)
    | .fp v => ret (.fp v)
    | .lf _ => fail "gone: nil"
    | _ => fail "nilCheck"
  | .binOp op t x y0 u => ev t x fun x => ev u y0 fun y => match x, y with
    | .lf a, .lf b =>
      let go : R := leaf (bin op a b) "bin"
      match op with
      | .eql | .neq => eqK tb t y0 (ty a) go
      | .quo | .rem => match constInt y0 with
        | some (.ofNat (_ + 1)) => go
        | some (.negSucc _) => go
        | _ => match ty b with
          | .int kb => oCase (bin .neq b (litI kb 0)) "div" fun c => check g c go
          | _ => fail "div"
      | .add => match ty a with
        | .str => oCase (bin op a b) "concat" fun v => oCase (lenV v) "concat" fun n => oCase (roomV 1 n) "concat" fun c => check g c (ret (.lf v))
        | _ => go
      | .shl | .shr => match constInt y0 with
        | some (.ofNat _) => go
        | some (.negSucc _) => fail "shift"
        | none => match ty b with
          | .int kb => oCase (bin .geq b (litI kb 0)) "shift" fun c => check g c go
          | _ => fail "shift"
      | _ => go
    | x, y => match ptNil op y0 x with
      | some b => ti t fun i => match i.ty with
        | .ptr _ _ => ret (.lf (litB b))
        | _ => fail "nil"
      | none => peekK st g x fun a => peekK st g y fun b => match op with
        | .eql | .neq => cmpK tb t (ty a) (leaf (bin op a b) "bin2")
        | _ => fail "bin2"
  | .unOp op t x => ev t x fun x => match x with
    | .lf a => leaf (un op a) "un"
    | _ => fail "un"
  | .makeInterface t x => ev t x fun x => ti t fun i => match x with
    | .lf v => match i.ty with
      | .int _ => match i.elem with
        | 0 => fail "makeInterface"
        | _ + 1 => leaf (errV v) "makeInterface"
      | _ => fail "makeInterface"
    | _ => fail "makeInterface"
  | .convert s t x => ev s x fun x => ti s fun js => ti t fun i => match i.ty with
    | .int kd => match x with
      | .lf v => match ty v with
        | .int _ => leaf (conv kd v) "conv"
        | _ => fail "conv"
      | _ => fail "conv"
    | .str => peekK st g x fun v => match ty v with
      | .str => ret (.lf v)
      | _ => match js.ty with
        | .sl _ (.int .u8) => leaf (toStrV v) "str"
        | _ => fail "str"
    | .sl e (.int .u8) => match x with
      | .lf v => match ty v with
        | .str => match js.ty with
          | .str => oCase (toBytesV e v) "bytes" fun w => match dst with
            | some d => k (putE st gd d (.lf w))
            | none => fail "convert: no slot"
          | _ => fail "convert: bytes"
        | _ => fail "convert: bytes"
      | .ar l => noG <| match Nat.beq s t, absorb st (.ar l), dst with
        | true, some (.o (_ + 1) v, st'), some d => match decide (ty v = .sl e (.int .u8)) with
          | true => oCase (lenV v) "bytes" fun n => oCase (bin .lss (litI .i64 0) n) "bytes" fun c => check g c (k (putE st' none d (.lf v)))
          | false => fail "convert: bytes"
        | _, _, _ => fail "convert: bytes"
      | _ => fail "convert: bytes"
    | _ => fail "convert"
  | .alloc e => noG <| ti e fun i => match i.zok with
    | false => fail "alloc: zero"
    | true => oCase (cellsOf i.ty (zero i.ty)) "alloc" fun vs => match dst with
      | some d => let (st', gen) := newRoot st d (some e) (vs.map fun v => .o (ty v).dep v)
        k (putE st' none d (.pt ⟨d, gen, 0, 0, []⟩))
      | none => fail "alloc: no slot"
  | .box e x => noG <| ev e x fun x => ti e fun i => match boxed tb.leafs dst with
   | some d => peekK st g x fun v => match decide (i.ty = ty v) && !i.ty.hasFn with
    | true => k (putE (freezeA st x) none d (.fp v))
    | false => fail "box: type"
   | none => oCase (avCells st x) "box cells" fun cs => oCase (absorbL st cs) "box" fun (es, st') => match dst with
    | some d => match rfOk d es with
      | true =>
        let (st2, gen) := newRoot st' d (some e) es
        k (putE st2 none d (.pt ⟨d, gen, 0, 0, []⟩))
      | false => fail "box: its own address"
    | none => fail "box: no slot"
  | .build t ps => ti t fun i => match i.zok && !i.fields.isEmpty with
    | false => match i.zok && (i.fields.isEmpty && (isSt i.ty && Nat.ble 1 i.cells)) with
      | false => fail "build: zero"
      | true => ti i.elem fun j => match Nat.beq j.cells 1 with
        | false => fail "build: cells"
        | true => oCase (cellsOf i.ty (zero i.ty)) "build: zero" fun zs => buildG ((List.range i.cells).map fun q => (q, i.elem)) ps.toList (zs.map fun v => match ty v with | .sl e a => AV.zs e a | _ => .lf v) fun cs => ret (mkAg i.ty cs)
    | true => oCase (cellsOf i.ty (zero i.ty)) "build" fun zs => buildG i.fields ps.toList (zs.map fun v => match ty v with | .sl e a => AV.zs e a | _ => .lf v) fun cs => ret (mkAg i.ty cs)
  | .buildSlice t n ps => ti t fun i => match i.ty with
    | .sl e a => match seqN 0 ps.toList n with
      | false => fail "buildSlice: parts"
      | true => match n with
        | 0 => match dst with
          | some d => k (putE st gd d (.zs e a))
          | none => fail "buildSlice: no slot"
        | _ => ti e fun j => match j.zok && (decide (j.ty = a) && Nat.ble (n * (a.flat.length + 1)) 16777216) with
          | false => fail "buildSlice: zero"
          | true => evs (ps.toList.map fun p => (i.elem, p.2)) [] fun xs => peekAll st g xs [] fun vs => oCase (mkL e a vs) "literal" fun v => match dst with
            | none => fail "buildSlice: no slot"
            | some d => match tb.leafs.contains d with
              | true => k (putE (freezeAll st xs) gd d (.tl v))
              | false => rootG gd (
                let (st', gen) := newRoot (freezeAll st xs) d none [.o 1 v]
                k (putE st' none d (.ar ⟨d, gen, 0, 0, []⟩))) (k (putE st gd d (.zs e a)))
    | _ => fail "buildSlice"
  | .makeSlice t n c => noG <| ti t fun i => ev 0 n fun n => ev 0 c fun c => match i.ty, n, c with
    | .sl e a, .lf n, .lf c => ti e fun j => match j.zok && decide (j.ty = a) with
      | false => fail "makeSlice: zero"
      | true => checkIdx g n c (oCase (roomV j.bytes c) "make" fun rm => check g rm (oCase (repV e n (zero a)) "make" fun v => match dst with
        | some d => let (st', gen) := newRoot st d none [.o (Ty.sl e a).dep v]
          k (putE st' none d (.ar ⟨d, gen, 0, 0, []⟩))
        | none => fail "makeSlice: no slot"))
    | _, _, _ => fail "makeSlice"
  | .load t x => ev 0 x fun x => ti t fun i => match x with
    | .pt l => loadK st g i.agg i.ty i.cells l ret
    | .fp v => match decide (i.ty = ty v) with
      | true => ret (.lf v)
      | false => fail "load: type"
    | _ => fail "load"
  | .store t a x => noG <| ev 0 a fun a => ev t x fun x => ti t fun i => match a with
    | .pt l => match dst with
      | none => storeK st l x i.cells k
      | some _ => fail "store: a slot"
    | _ => fail "store"
  | .fieldAddr t x f => ev 0 x fun x => ti t fun i => oCase (getL i.fields f) "field" fun (off, ft) => ti ft fun j => match Nat.beq j.cells 0 with
    | true => fail "fieldAddr: no cells"
    | false => match x with
      | .pt l => ret (.pt (l.plus off))
      | .fp v => match decide (i.ty = ty v) with
        | true => oCase (proj f v) "field proj" fun w => ret (.fp w)
        | false => fail "fieldAddr: type"
      | _ => fail "fieldAddr"
  | .field t x f => ev t x fun x => ti t fun i => match x with
    | .lf v => match decide (i.ty = ty v) with
      | true => oCase (getL i.fields f) "field" fun _ => leaf (proj f v) "field"
      | false => fail "field: type"
    | .ag _ cs => oCase (getL i.fields f) "field" fun (off, ft) => ti ft fun j =>
      let zs := takeL j.cells (dropL off cs)
      match j.agg with
      | true => ret (mkAg j.ty zs)
      | false => match zs with
        | [y] => ret y
        | _ => fail "field cells"
    | _ => fail "field"
  | .indexAddr t x i => ev t x fun x => ev 0 i fun i => ti t fun j => match i with
    | .lf i => match x with
      | .ar l => oCase (peekA st l) "index" fun w => match cellAt st l with
        | some ⟨_, .o d _⟩ => match sameSl j.ty (ty w) with
          | true => match Nat.beq d 0 with
            | true => idx g w i fun y => ret (.fp y)
            | false => oCase (lenV w) "len" fun n => oCase (bin .leq (litI .i64 0) i) "chk" fun c1 => oCase (bin .lss i n) "chk" fun c2 => oCase (andV c1 c2) "chk" fun c =>
                check g c (ret (.pt { l with steps := [(i, 0)] }))
          | false => fail "index: type"
        | _ => fail "index place"
      | .lf w => match sameSl j.ty (ty w) with
        | true => idx g w i fun y => ret (.fp y)
        | false => fail "index: type"
      | .tl w => match sameSl j.ty (ty w) with
        | true => idx g w i fun y => ret (.fp y)
        | false => fail "index: type"
      | .zs e a => match sameSl j.ty (.sl e a), gd with
        | true, none => fail "gone: nothing there"
        | true, some _ => idx g (zero (.sl e a)) i fun y => ret (.fp y)
        | false, _ => fail "index: type"
      | _ => fail "index: no slice"
    | _ => fail "indexAddr"
  | .index t x i => ev t x fun x => ev 0 i fun i => match x, i with
    | .lf w, .lf i => match ty w with
      | .str => ti t fun j => match j.ty with
        | .str => oCase (toBytesV 0 w) "index" fun w => idx g w i fun y => ret (.lf y)
        | _ => fail "index"
      | .st F => ti t fun j => match j.fields.isEmpty && decide (j.ty = .st F) with
        | false => fail "index"
        | true => ti j.elem fun q => match Nat.beq q.cells 1 && !q.agg with
          | false => fail "index: cells"
          | true => oCase (cellsOf (.st F) w) "index" fun cs => oCase (mkL 0 q.ty cs) "index" fun l => idx g l i fun y => ret (.lf y)
      | _ => fail "index"
    | _, _ => fail "index"
  | .slice t x lo hi mx =>
    let low (k : V → R) : R := match lo with
      | none => k (litI .i64 0)
      | some l => ev 0 l fun l => match l with
        | .lf l => k l
        | _ => fail "slice lo"
    ev t x fun x => ti t fun i => match mx with
    | some m => match constInt m, hi.bind constInt, lo with
      | some 0, some 0, none => match x with
        | .zs e a => match sameSl i.ty (.sl e a) with
          | true => ret (.zs e a)
          | false => fail "slice: type"
        | x => peekK st g x fun v => match ty v with
          | .sl e a => match sameSl i.ty (.sl e a) with
            | true => ret (.zs e a)
            | false => fail "slice: type"
          | _ => fail "slice max"
      | _, _, _ => fail "slice max"
    | none => peekK st g x fun v => match sameRow i.ty (ty v) with
      | false => fail "slice: type"
      | true => oCase (lenV v) "slice" fun n => low fun lo =>
        let fin (hi : V) : R := checkIdx g hi n (checkIdx g lo hi (oCase (subV v lo hi) "slice" fun w => match dst with
          | some d => k (putE (freezeA st x) gd d (.lf w))
          | none => k st))
        match hi with
        | none => fin n
        | some h => ev 0 h fun h => match h with
          | .lf h => fin h
          | _ => fail "slice hi"
  | .makeFunc (.func f) ⟨[]⟩ cap => evs (cap.toList.map fun x => (0, x)) [] fun xs => ret (.fn f xs)
  | .call c => match c.callee with
    | .builtin .len => match c.args.toList, c.argTypes.toList with
      | [x], [t] => ev t x fun x => ti t fun i => peekK st g x fun v => match sameSort i.ty (ty v) with
        | true => leaf (lenV v) "len"
        | false => fail "len"
      | _, _ => fail "len"
    | .builtin .min => match c.args.toList with
      | [x, y] => ev 0 x fun x => ev 0 y fun y => match x, y with
        | .lf x, .lf y => leaf (minV false x y) "min"
        | _, _ => fail "min"
      | [x, y, z] => ev 0 x fun x => ev 0 y fun y => ev 0 z fun z => match x, y, z with
        | .lf x, .lf y, .lf z => oCase (minV false x y) "min" fun v => leaf (minV false v z) "min"
        | _, _, _ => fail "min"
      | _ => fail "min"
    | .builtin .max => match c.args.toList with
      | [x, y] => ev 0 x fun x => ev 0 y fun y => match x, y with
        | .lf x, .lf y => leaf (minV true x y) "max"
        | _, _ => fail "max"
      | _ => fail "max"
    | .builtin .append => (fun body => rootG gd body (match dst, c.argTypes.toList with
        | some d, t1 :: _ => ti t1 fun i => match i.ty with
          | .sl e a => k (putE st gd d (.zs e a))
          | _ => fail "append: under a guard"
        | _, _ => fail "append: under a guard")) <| match c.args.toList, c.argTypes.toList, dst with
      | [x, y], [t1, t2], some d => ev t1 x fun x => ev t2 y fun y => ti t1 fun i => ti t2 fun i2 => match i.ty with
        | .sl e a => ti e fun el => match decide (i2.ty = .sl e a) && (el.zok && decide (el.ty = a)) with
          | false => fail "append: types"
          | true => peekK st g y fun ys =>
            let st1 := keepY st a y
            let fin (st2 : St V) (xs : V) : R := oCase (appV xs ys) "append" fun zs => oCase (lenV zs) "append" fun n => oCase (roomV el.bytes n) "append" fun c => check g c (
              let (st3, gen) := newRoot st2 d none [.o 1 zs]
              k (putE st3 none d (.ar ⟨d, gen, 0, 0, []⟩)))
            match x with
            | .zs e' a' => match Nat.beq e' e && decide (a' = a) with
              | true => fin st1 (zero (.sl e a))
              | false => fail "append: types"
            | .ar l => match l.steps, cellAt st1 l with
              | [], some ⟨s, .o (_ + 1) v⟩ => match Nat.beq s l.stamp && decide (ty v = .sl e a) with
                | true => fin (setCell st1 l.root l.off ⟨s + 1, .mv⟩) v
                | false => fail "append: stale"
              | _, _ => fail "append: not owned"
            | _ => fail "append: what stays"
        | _ => fail "append: no slice"
      | _, _, _ => fail "append"
    | .value xf => match Nat.beq c.argTypes.size c.args.size with
     | false => fail "call: arguments"
     | true => ev 0 xf fun x => match x with
      | .fn f cap => evs ((c.argTypes.toList.zip c.args.toList)) [] fun xs => call1 tb st gd dst (isFn xf) f (xs ++ cap) k
      | .lf fv => match ty fv with
        | .fn _ B => evs ((c.argTypes.toList.zip c.args.toList)) [] fun xs => peekAll st g xs [] fun vs => callV fv g vs fun r => match dst with
          | some d => k (putE (match B.scalar with | true => st | false => freezeAll st xs) gd d (.lf r))
          | none => fail "call: no slot"
        | _ => fail "call of a value"
      | _ => fail "call of a value"
    | _ => fail "call"
  | _ => fail "op"
where
  evs (xs : List (TypeId × Operand)) (acc : List (AV V)) (k : List (AV V) → R) : R :=
    match xs with
    | [] => k acc.reverse
    | (t, x) :: r => oCase (evalO tb st (gdKeys gd) t x) "arg" fun a => evs r (a :: acc) k
  buildG (fs : List (Nat × TypeId)) (ps : List (Nat × Operand)) (cs : List (AV V)) (k : List (AV V) → R) : R :=
    match ps with
    | [] => k cs
    | (i, x) :: r => match getL fs i with
      | some (off, t) => oCase (evalO tb st (gdKeys gd) t x) "part" fun a => oCase (avCells st a) "part cells" fun ws => oCase (get tb.tt t) "part type" fun j => match Nat.beq ws.length j.cells && Nat.ble (off + ws.length) cs.length with
        | true => buildG fs r (takeL off cs ++ ws ++ dropL (off + ws.length) cs) k
        | false => fail "part size"
      | none => fail "part"
def fitG (want : Bool) (c : V) : Option V :=
  match ty c with
  | .bool => match want with
    | true => some c
    | false => un .not c
  | _ => none
def guardG (st : St V) : Nat → Nat → Bool → Option (Gd V)
  | 0, _, _ => none
  | n + 1, d, want =>
    match get st.env d with
    | some (.lf c) => match fitG want c with
      | some c => some ⟨[(d, want)], c⟩
      | none => none
    | some _ => none
    | none => match get st.gnv d with
      | some (k, .lf c) => match guardG st n k.1 k.2, fitG want c with
        | some p, some c => match andV p.c c with
          | some x => some ⟨(d, want) :: p.keys, x⟩
          | none => none
        | _, _ => none
      | _ => none
def guardV (ops : List Oper) (st : St V) : Option (Nat × Bool) → Option (Option (Gd V))
  | none => some none
  | some (j, want) => match getL ops j with
    | some o => match o.dst with
      | some d => match guardG st 8 d want with
        | some g => some (some g)
        | none => none
      | none => none
    | none => none
def selfOk (g : Option (Gd V)) (d : Option Nat) : Bool :=
  match g, d with
  | some gd, some d => gd.keys.all fun k => !Nat.beq k.1 d
  | _, _ => true
def opsK (tb : Tabs) (all : List Oper) : List Oper → St V → (St V → R) → R
  | [], st, k => k st
  | o :: os, st, k => oCase (guardV all st o.guard) "guard" fun g => match selfOk g o.dst with
    | true => opK tb st g o.dst o.type o.op fun st' => opsK tb all os st' k
    | false => fail "guard's own slot"
end
end Go.Y
namespace Go.Y
structure LH where
  h : JH
  sh : St Ty
  outs : List (Nat × SH)
  deriving Inhabited
structure Hints where
  joins : List (Nat × SH)
  blocks : List (Nat × SH)
  loops : List (Nat × LH)
  fin : SH
  fin2 : Option SH := none
  deriving Inhabited
section
variable {V R : Type} [LAlg V] [RF R] [RAlg V R]
open LAlg RF RAlg
end
section
variable {V R : Type} [LAlg V] [RF R] [RAlg V R]
open LAlg RF RAlg
def codeKey : Code → Nat
  | .region id _ _ => id + 1
  | .seq a b => match codeKey a with | 0 => codeKey b | n => n
  | .cond _ a b => match codeKey a with | 0 => codeKey b | n => n
  | .block _ c => codeKey c
  | .loop c => codeKey c
  | .scope c => codeKey c
  | _ => 0
def addN (k : Nat) (l : List Nat) : List Nat := match memN k l with | true => l | false => l ++ [k]
def exitsOf : Code → List Nat → List Nat → List Nat
  | .seq a b, ins, acc => exitsOf b ins (exitsOf a ins acc)
  | .cond _ a b, ins, acc => exitsOf b ins (exitsOf a ins acc)
  | .block id c, ins, acc => exitsOf c (id :: ins) acc
  | .loop c, ins, acc => exitsOf c ins acc
  | .scope c, ins, acc => exitsOf c ins acc
  | .exit id, ins, acc => match memN id ins with | true => acc | false => addN id acc
  | _, _, acc => acc
def findLoop (key : Nat) : Code → Option Code
  | .seq a b => match findLoop key a with | some c => some c | none => findLoop key b
  | .cond _ a b => match findLoop key a with | some c => some c | none => findLoop key b
  | .block _ c => findLoop key c
  | .scope c => findLoop key c
  | .loop c => match Nat.beq (codeKey c) key with | true => some c | false => findLoop key c
  | _ => none
def hasRet : Code → Bool
  | .seq a b => hasRet a || hasRet b
  | .cond _ a b => hasRet a || hasRet b
  | .block _ c => hasRet c
  | .loop c => hasRet c
  | .scope c => hasRet c
  | .ret => true
  | _ => false
def slotOf : Operand → Nat
  | .tmp s => s
  | _ => 0
def joinKey (c : Operand) (t e : Code) : Nat := slotOf c + 10000 * codeKey (.cond c t e)
def atSh (sh : St Ty) (w : String) (n : St V → R) (v : V) : R := oCase (untup (leafs sh).length v) w fun vs => n (fill sh vs)
def joinK (s : SH) (n : St V → R) (b : (St V → R) → R) : R :=
  join (tupTy (leafs s.sh)) (atSh s.sh "join" n) fun J => b (toSh s "join: shapes" fun vs => J (tup vs))
def contsOf (outs : List (Nat × SH)) (es : List (Nat × (St V → R))) : List Nat → Option (List (Ty × (V → R)))
  | [] => some []
  | id :: ids => match get es id, get outs id, contsOf outs es ids with
    | some k, some s, some r => some ((tupTy (leafs s.sh), atSh s.sh "exit" k) :: r)
    | _, _, _ => none
structure Fp where
  sl : List Nat
  ks : List Nat
  dst : Option Nat
  wr : Bool
def slotsOf : List Operand → List Nat
  | [] => []
  | .tmp s :: r => s :: slotsOf r
  | _ :: r => slotsOf r
def chain (gnv : List (Nat × (Nat × Bool) × AV V)) : Nat → List Nat → List Nat
  | 0, l => l
  | n + 1, l => l ++ chain gnv n (l.filterMap fun s => match get gnv s with | some (k, _) => some k.1 | none => none)
def readOnly (tb : Tabs) : Op → Bool
  | .move _ | .assign _ | .pick _ _ _ | .nilCheck _ | .binOp _ _ _ _ _ | .unOp _ _ _ | .load _ _ | .fieldAddr _ _ _ | .field _ _ _ | .indexAddr _ _ _ | .index _ _ _ | .extract _ _ | .makeFunc _ _ _ | .build _ _ | .makeInterface _ _ => true
  | .convert s t _ => !Nat.beq s t
  | .call c => match c.callee with
    | .builtin .len | .builtin .min | .builtin .max => true
    | .value (.func f) => keepAll f tb.sigs
    | _ => false
  | _ => false
where
  keepAll (f : Nat) : List (Nat × Sig) → Bool
    | [] => true
    | (k, sg) :: r => (!Nat.beq (fnOf k) (fnOf f) || (keepB sg && sg.alt.isNone)) && keepAll f r
def keepGnv (live : List Nat) : List (Nat × (Nat × Bool) × AV V) → List (Nat × (Nat × Bool) × AV V)
  | [] => []
  | (s, x) :: r => match memN s live with
    | true => (s, x) :: keepGnv live r
    | false => keepGnv live r
def gnvRoots : List (Nat × (Nat × Bool) × AV V) → List Nat
  | [] => []
  | (_, _, x) :: r => x.roots ++ gnvRoots r
def stays (st : St V) : Op → Bool
  | .slice _ (.tmp s) _ _ _ => match get st.env s with
    | some (.lf _) => true
    | some (.zs _ _) => true
    | some (.ar l) => match l.steps, cellAt st l with
      | [], some ⟨_, .o 0 _⟩ => true
      | _, _ => false
    | _ => false
  | _ => false
def ownKeys (tb : Tabs) (o : Oper) : List Nat :=
  match o.op with
  | .call c => match c.callee with
    | .value (.func f) => match o.dst with
      | some d => tb.sigs.flatMap fun (k, sg) => match Nat.beq (fnOf k) (fnOf f) with
        | true => (backM d sg.out.sto).map (·.2) ++ (match sg.alt with | some a => (backM d a.sto).map (·.2) | none => [])
        | false => []
      | none => []
    | _ => []
  | _ => []
def fpOf (tb : Tabs) (all : List Oper) (st : St V) (o : Oper) : Fp :=
  let s0 := slotsOf o.op.operands.toList ++ (match o.guard with | some (j, _) => (match getL all j with | some o' => (match o'.dst with | some d => [d] | none => []) | none => []) | none => [])
  let sl := chain st.gnv 8 s0
  let k0 := ((match o.dst with | some d => [d] | none => []) ++ ownKeys tb o) ++ envRoots (keepEnv sl st.env) ++ gnvRoots (keepGnv sl st.gnv)
  let k1 := k0 ++ stoRoots k0 st.sto
  let k2 := k1 ++ stoRoots k1 st.sto
  ⟨sl, k2, o.dst, !(readOnly tb o.op || stays st o.op)⟩
def cutF (f : Fp) (st : St V) : St V := ⟨keepEnv f.sl st.env, keepGnv f.sl st.gnv, keepSto f.ks st.sto⟩
def mergeF (f : Fp) (st st' : St V) : St V :=
  let sto := match f.wr with | true => mergeSto f.ks st.sto st'.sto | false => st.sto
  match f.dst with
  | none => ⟨st.env, st.gnv, sto⟩
  | some d => match get st'.env d with
    | some x => ⟨put st.env d x, scrubG d st.gnv, sto⟩
    | none => match get st'.gnv d with
      | some kx => ⟨del d st.env, (d, kx) :: scrubG d st.gnv, sto⟩
      | none => ⟨del d st.env, scrubG d st.gnv, sto⟩
def meet : List Nat → List Nat → Bool
  | [], _ => false
  | k :: r, l => memN k l || meet r l
def Fp.wsl (f : Fp) : List Nat := match f.dst with | some d => [d] | none => []
def Fp.wks (f : Fp) : List Nat := match f.wr with | true => f.ks | false => []
def apart (f g : Fp) : Bool :=
  !(meet f.wsl g.sl || (meet f.wsl g.wsl || (meet g.wsl f.sl || (meet f.wks g.ks || meet g.wks f.ks))))
def unionN : List Nat → List Nat → List Nat
  | [], l => l
  | k :: r, l => unionN r (addN k l)
def aheadS (acc : List (List Nat)) : List Nat → List Nat
  | [] => []
  | j :: r => addN j (unionN (match getL acc j with | some l => l | none => []) (aheadS acc r))
def aheadOf : List (List Nat) → List Oper → List (List Nat)
  | acc, [] => acc
  | acc, o :: r =>
    let direct := (o.after.toList.filter fun e => Region.binds .any e).map (·.on)
    aheadOf (acc ++ [aheadS acc direct]) r
def allIn : List Nat → List Nat → Bool
  | [], _ => true
  | k :: r, l => memN k l && allIn r l
def nextOp (ah : List (List Nat)) (ops : List Oper) (done : List Nat) (early : Bool) : Nat → List Oper → Option Nat
  | _, [] => none
  | i, o :: r => match !memN i done && (allIn (match getL ah i with | some l => l | none => [i]) done && (!early || isEarly o.op)) with
    | true => some i
    | false => nextOp ah ops done early (i + 1) r
where isEarly : Op → Bool
  | .call _ => false
  | .store _ _ _ => false
  | .slice _ _ _ _ _ => false
  | .buildSlice _ _ _ => false
  | .alloc _ => false
  | .box _ _ => false
  | .makeSlice _ _ _ => false
  | _ => true
def canon (ah : List (List Nat)) (ops : List Oper) : Nat → List Nat → List Nat
  | 0, done => done
  | n + 1, done => match nextOp ah ops done true 0 ops with
    | some i => canon ah ops n (done ++ [i])
    | none => match nextOp ah ops done false 0 ops with
      | some i => canon ah ops n (done ++ [i])
      | none => done
def softR (tb : Tabs) (st : St V) (ks : List (Nat × Bool)) : Op → Bool
  | .move _ | .assign _ | .fieldAddr _ _ _ | .field _ _ _ | .extract _ _ | .nilCheck _ => true
  | .load _ x => match evalO tb st ks 0 x with
    | some (.pt l) => l.steps.isEmpty
    | some (.fp _) => true
    | _ => false
  | _ => false
def softW (tb : Tabs) : Op → Bool
  | .call c => match c.callee with
    | .value (.func f) => softAll f tb.sigs
    | _ => true
  | _ => false
where
  softAll (f : Nat) : List (Nat × Sig) → Bool
    | [] => true
    | (k, sg) :: r => (!Nat.beq (fnOf k) (fnOf f) || sg.ins.sto.isEmpty) && softAll f r
def apartS (f g : Fp) : Bool :=
  !(meet f.wsl g.sl || (meet f.wsl g.wsl || (meet g.wsl f.sl || meet g.wsl f.ks)))
def softN : Op → Bool
  | .move _ | .assign _ | .fieldAddr _ _ _ | .field _ _ _ | .extract _ _ | .nilCheck _ => true
  | _ => false
structure Rec (V : Type) where
  i : Nat
  f : Fp
  st : St V
  soft : Bool
  mv : Bool
def noKey (d : Option Nat) (gnv : List (Nat × (Nat × Bool) × AV V)) : Bool :=
  match d with
  | none => true
  | some d => gnv.all fun e => !Nat.beq e.2.1.1 d
def apartAll (f : Fp) (sw : Bool) (ahead : List Nat) : List (Rec V) → Bool
  | [] => true
  | g :: r => (memN g.i ahead || (apart g.f f || (g.soft && ((sw || g.mv) && apartS g.f f)))) && (noKey f.dst g.st.gnv && apartAll f sw ahead r)
def keyIn (f : Fp) (st : St V) : Bool :=
  match f.dst with
  | none => true
  | some d => match get st.gnv d with
    | some (k, _) => memN k.1 f.sl
    | none => true
def noKeys (gnv : List (Nat × (Nat × Bool) × AV V)) : List Oper → Bool
  | [] => true
  | o :: r => noKey o.dst gnv && noKeys gnv r
def drawGo (tb : Tabs) (all : List Oper) (ah : List (List Nat)) : List Nat → List (Rec V) → St V → (St V → R) → R
  | [], _, st, n => n st
  | i :: r, fs, st, n => oCase (getL all i) "drawn" fun o => oCase (getL ah i) "drawn" fun a =>
    let f := fpOf tb all st o
    match apartAll f (softW tb o.op) a fs && closed f.ks st.sto with
    | false => fail ("drawn: not apart " ++ toString i)
    | true =>
      let stc := cutF f st
      oCase (guardV all stc o.guard) "guard" fun g => match selfOk g o.dst with
        | true => opK tb stc g o.dst o.type o.op fun st' => match stoIn f.ks st'.sto && keyIn f st' with
          | true => drawGo tb all ah r (fs ++ [⟨i, f, st', softR tb stc (gdKeys g) o.op, softN o.op⟩]) (mergeF f st st') n
          | false => fail "drawn: roots"
        | false => fail "guard's own slot"
def orderOk (ah : List (List Nat)) (n : Nat) : List Nat → List Nat → Bool
  | [], done => allIn (List.range n) done
  | i :: r, done => !memN i done && (allIn (match getL ah i with | some l => l | none => [i]) done && orderOk ah n r (i :: done))
def moveOf (ops : List Oper) : Nat → Nat → Nat
  | 0, s => s
  | n + 1, s => match ops.find? fun o => decide (o.dst = some s) with
    | some o => match o.op with
      | .move (.tmp s') => moveOf ops n s'
      | _ => s
    | none => s
def preFreeze (all : List Oper) (st : St V) : List Oper → St V
  | [] => st
  | o :: r => match o.op with
    | .slice _ (.tmp s) _ _ _ => match get st.env (moveOf all 3 s) with
      | some (.ar l) => preFreeze all (freezeA st (.ar l)) r
      | _ => preFreeze all st r
    | _ => preFreeze all st r
def drawK (tb : Tabs) (ops : List Oper) (st : St V) (n : St V → R) : R :=
  let ah := aheadOf [] ops
  let od := canon ah ops ops.length []
  let st := preFreeze ops st ops
  match orderOk ah ops.length od [] && noKeys st.gnv ops with
  | true => drawGo tb ops ah od [] st n
  | false => fail "drawn: order"
def nilCmp (o : Oper) : Option (TypeId × Nat × Nat) := match o.op with
  | .binOp .eql t (.tmp s) (.const (.slice none 0 0)) _ => match o.guard, o.dst with
    | none, some d => some (t, s, d)
    | _, _ => none
  | _ => none
def lastNil : List Oper → Option (List Oper × TypeId × Nat × Nat)
  | [] => none
  | o :: r => match r with
    | [] => match nilCmp o with
      | some x => some ([], x)
      | none => none
    | _ :: _ => match lastNil r with
      | some (pre, x) => some (o :: pre, x)
      | none => none
def nilK (tb : Tabs) (t : TypeId) (s d : Nat) (n : St V → R) (st : St V) : R := oCase (get tb.tt t) "nil" fun i => match i.ty with
  | .sl _ _ => match get st.env s with
    | some (.lf v) => match ty v with
      | .sl _ _ => nilc v (n (putE st none d (.lf (litB true)))) (n (putE st none d (.lf (litB false))))
      | _ => fail "nil"
    | _ => fail "nil"
  | _ => fail "nil"
def panics : List Oper → Bool
  | [] => false
  | o :: r => (match o.op with | .panic _ => true | _ => false) || panics r
def yrun (tb : Tabs) (H : Hints) (fin : St V → (V → R) → R) (rt : Ty) (ρ : V → R) : Code → St V → (St V → R) → List (Nat × (St V → R)) → R
  | .skip, st, n, _ => n st
  | .region _ ops d, st, n, _ => match d with
    | false => match panics ops.toList with
      | true => fail "panic"
      | false => match lastNil ops.toList with
        | some (pre, t, s, d) => opsK tb ops.toList pre { st with gnv := [] } (nilK tb t s d n)
        | none => opsK tb ops.toList ops.toList { st with gnv := [] } n
    | true => drawK tb ops.toList { st with gnv := [] } n
  | .seq a b, st, n, es => yrun tb H fin rt ρ a st (fun st' => yrun tb H fin rt ρ b st' n es) es
  | .cond c t e, st, n, es => match evalO tb st [] 0 c with
    | some (.lf v) => match get H.joins (joinKey c t e) with
      | none => ite v (yrun tb H fin rt ρ t st n es) (yrun tb H fin rt ρ e st n es)
      | some s => joinK s n fun n' => ite v (yrun tb H fin rt ρ t st n' es) (yrun tb H fin rt ρ e st n' es)
    | _ => fail "cond"
  | .block id body, st, n, es => match get H.blocks id with
    | none => yrun tb H fin rt ρ body st n ((id, n) :: es)
    | some s => joinK s n fun n' => yrun tb H fin rt ρ body st n' ((id, n') :: es)
  | .loop body, st, _, es => match get H.loops (codeKey body) with
    | some h => oCase (contsOf h.outs es (exitsOf body [] [])) "loop exits" fun ks =>
        toSh ⟨h.h, h.sh⟩ "loop: shapes" (fun vs => loop (codeKey body) vs (match hasRet body with | true => ks ++ [(rt, ρ)] | false => ks)) st
    | none => fail "loop: no hint"
  | .exit id, st, _, es => oCase (get es id) "exit" fun k => k st
  | .ret, st, _, _ => fin st ρ
  | .label _, st, n, _ => n st
  | _, _, _, _ => fail "code"
def exitKs (outs : List (Nat × SH)) : List Nat → List (V → R) → List (Nat × (St V → R))
  | id :: ids, k :: ks => match get outs id with
    | some s => (id, toSh s "exit: shapes" fun vs => k (tup vs)) :: exitKs outs ids ks
    | none => []
  | _, _ => []
def yround (tb : Tabs) (H : Hints) (fin : St V → (V → R) → R) (rt : Ty) (h : LH) (body : Code) (vs : List V) (rec : List V → R) (ks : List (V → R)) : R :=
  yrun tb H fin rt (match ks.getLast? with | some k => k | none => fun _ => fail "ret") body (fill h.sh vs) (toSh ⟨h.h, h.sh⟩ "round: shapes" rec) (exitKs h.outs (exitsOf body [] []) ks)
def resK (tb : Tabs) (st : St V) : List ResultVar → List (AV V) → (List (AV V) → R) → R
  | [], acc, k => k acc.reverse
  | .tmp s :: r, acc, k => oCase (get st.env s) "result" fun x => resK tb st r (x :: acc) k
  | .cell a t :: r, acc, k => oCase (get st.env a) "result cell" fun x => oCase (get tb.tt t) "result type" fun i => match x with
    | .pt l => loadK st none i.agg i.ty i.cells l fun y => resK tb st r (y :: acc) k
    | _ => fail "result cell"
def fin1 (s : SH) (st : St V) (xs : List (AV V)) (k : V → R) : R :=
  selK st none (patsOf s.sh.env) xs [] fun ys =>
    toSh s "result: shapes" (fun vs => k (tup vs)) ⟨zipN 0 ys, [], (frSel st (patsOf s.sh.env) xs).sto⟩
def finA (tb : Tabs) (H : Hints) (rs : List ResultVar) (st : St V) (k : V → R) : R :=
  resK tb st rs [] fun xs => match H.fin2 with
    | none => fin1 H.fin st xs k
    | some s2 => match misfits (patsOf H.fin.sh.env) xs with
      | false => fin1 H.fin st xs fun v => k (mkpair (litB true) (mkpair v (zero (tupTy (leafs s2.sh)))))
      | true => fin1 s2 st xs fun v => k (mkpair (litB false) (mkpair (zero (tupTy (leafs H.fin.sh))) v))
end
end Go.Y
namespace Go.Y
structure L where
  ty : Ty
  val : ty.den
def L.as (l : L) (A : Ty) : Option A.den :=
  match decEq l.ty A with
  | .isTrue h => some (h ▸ l.val)
  | .isFalse _ => none
def L.int : L → Option (IntKind × Int)
  | ⟨.int k, n⟩ => some (k, n)
  | _ => none
def L.bool : L → Option Bool
  | ⟨.bool, b⟩ => some b
  | _ => none
def mkI (k : IntKind) (n : Int) : L := ⟨.int k, n⟩
def mkB (b : Bool) : L := ⟨.bool, b⟩
def binI (op : BinOp) (k : IntKind) (a b : Int) : Option L :=
  match op with
  | .add => some (mkI k (wr k (a + b)))
  | .sub => some (mkI k (wr k (a - b)))
  | .mul => some (mkI k (wr k (a * b)))
  | .and => some (mkI k (band k a b))
  | .or => some (mkI k (bor k a b))
  | .xor => some (mkI k (bxor k a b))
  | .andNot => some (mkI k (bandn k a b))
  | .eql => some (mkB (decide (a = b)))
  | .neq => some (mkB (!decide (a = b)))
  | .lss => some (mkB (decide (a < b)))
  | .leq => some (mkB (decide (a ≤ b)))
  | .gtr => some (mkB (decide (b < a)))
  | .geq => some (mkB (decide (b ≤ a)))
  | .quo => some (mkI k (quoI k a b))
  | .rem => some (mkI k (remI a b))
  | _ => none
def eqL (x y : L) : Option Bool :=
  match x with
  | ⟨.bool, a⟩ => match y.as .bool with
    | some b => some (a == b)
    | none => none
  | ⟨.str, a⟩ => match y.as .str with
    | some b => some (decide ((a : List UInt8) = b))
    | none => none
  | ⟨.st f, a⟩ => match f.eqOk with
    | true => match y.as (.st f) with
      | some b => some (f.beq a b)
      | none => none
    | false => none
  | ⟨.ptr _ A, a⟩ => match y with
    | ⟨.ptr _ B, b⟩ => match (b : Option B.den) with
      | none => some (a : Option A.den).isNone
      | some _ => none
    | _ => none
  | ⟨.err, a⟩ => match y with
    | ⟨.err, b⟩ => match (b : Err) with
      | .nil => some (errNil a)
      | _ => none
    | _ => none
  | _ => none
def binI2 (op : BinOp) (k k' : IntKind) (a b : Int) : Option L :=
  match op with
  | .shl => some (mkI k (shlI k a b))
  | .shr => some (mkI k (shrI k a b))
  | _ => match decide (k = k') with
    | true => binI op k a b
    | false => none
def cmpS (op : BinOp) (a b : List UInt8) : Option L :=
  match op with
  | .lss => some (mkB (strLt a b))
  | .leq => some (mkB (strLt a b || decide (a = b)))
  | .gtr => some (mkB (!(strLt a b || decide (a = b))))
  | .geq => some (mkB (!strLt a b))
  | _ => none
def binL (op : BinOp) (x y : L) : Option L :=
  match x.int with
  | some (k, a) => match y.int with
    | some (k', b) => binI2 op k k' a b
    | none => none
  | none => match op with
    | .eql => match eqL x y with
      | some b => some (mkB b)
      | none => none
    | .neq => match eqL x y with
      | some b => some (mkB (!b))
      | none => none
    | .add => match x.as .str, y.as .str with
      | some a, some b => some ⟨.str, (a ++ b : List UInt8)⟩
      | _, _ => none
    | op => match x.as .str, y.as .str with
      | some a, some b => cmpS op a b
      | _, _ => none
structure Con where
  A : Ty
  B : Ty
  F : A.den → Option B.den
structure LoopC (ρ : Type) where
  X : Ty
  run : X.den → List (L → Option ρ) → Option ρ
def errL : L → Option L
  | ⟨.int .i64, n⟩ => some ⟨.err, Err.no n⟩
  | _ => none
def unL (op : UnOp) (x : L) : Option L := match op, x with
  | .not, ⟨.bool, b⟩ => some (mkB (!b))
  | .neg, ⟨.int k, n⟩ => some (mkI k (wr k (0 - n)))
  | _, _ => none
def convL (k : IntKind) (x : L) : Option L := match x.int with
  | some (_, n) => some (mkI k (wr k n))
  | none => none
def lenLv (x : L) : Option L := match x with
  | ⟨.sl _ a, xs⟩ => some (mkI .i64 (len (xs : List a.den)))
  | ⟨.str, xs⟩ => some (mkI .i64 (len (xs : List UInt8)))
  | _ => none
def minL (b : Bool) (x y : L) : Option L := match x.int, y.int with
  | some (k, a), some (k', c) => match decide (k = k') with
    | true => some (mkI k (match b with | true => mxI a c | false => mnI a c))
    | false => none
  | _, _ => none
def unstL (x : L) : Option L := match x with
  | ⟨.st f, v⟩ => some ⟨f, v⟩
  | _ => none
def fstL (x : L) : Option L := match x with
  | ⟨.pair a _, v⟩ => some ⟨a, v.1⟩
  | _ => none
def sndL (x : L) : Option L := match x with
  | ⟨.pair _ b, v⟩ => some ⟨b, v.2⟩
  | _ => none
def setIL (xs i v : L) : Option L := match xs with
  | ⟨.sl e a, l⟩ => match i.int, v.as a with
    | some (_, n), some w => some ⟨.sl e a, setI (l : List a.den) n w⟩
    | _, _ => none
  | _ => none
def appL (x y : L) : Option L := match x with
  | ⟨.sl e a, xs⟩ => match y.as (.sl e a) with
    | some ys => some ⟨.sl e a, ((xs : List a.den) ++ (ys : List a.den) : List a.den)⟩
    | none => none
  | _ => none
def litLL (a : Ty) : List L → Option (List a.den)
  | [] => some []
  | v :: r => match v.as a, litLL a r with
    | some x, some xs => some (x :: xs)
    | _, _ => none
def mkLL (e : TypeId) (a : Ty) (vs : List L) : Option L := match litLL a vs with
  | some xs => some ⟨.sl e a, xs⟩
  | none => none
def repL (e : TypeId) (n z : L) : Option L := match n.int with
  | some (_, m) => some ⟨.sl e z.ty, rep m z.val⟩
  | none => none
def subL (x lo hi : L) : Option L := match lo.int, hi.int with
  | some (_, a), some (_, b) => match x with
    | ⟨.sl e t, xs⟩ => some ⟨.sl e t, sub (xs : List t.den) a b⟩
    | ⟨.str, xs⟩ => some ⟨.str, sub (xs : List UInt8) a b⟩
    | _ => none
  | _, _ => none
def pickL (c a b : L) : Option L := match c.bool with
  | some c => match b.as a.ty with
    | some y => some ⟨a.ty, pick c a.val y⟩
    | none => none
  | none => none
def roomL (b : Nat) (n : L) : Option L := match n.int with
  | some (_, m) => some (mkB (room b m))
  | none => none
def toStrL (x : L) : Option L := match x with
  | ⟨.sl _ (.int .u8), xs⟩ => some ⟨.str, toStr xs⟩
  | _ => none
def toBytesL (e : TypeId) (x : L) : Option L := match x with
  | ⟨.str, s⟩ => some ⟨.sl e (.int .u8), toBytes s⟩
  | _ => none
def andL (x y : L) : Option L := match x.bool, y.bool with
  | some a, some b => some (mkB (a && b))
  | _, _ => none
def fnL (cs : List (Nat × Con)) (f : Nat) : Option L := match get cs (1000000 + f) with
  | some c => some ⟨.fn c.A c.B, c.F⟩
  | none => none
@[reducible] def semL (cs : List (Nat × Con)) : LAlg L where
  ty l := l.ty
  litB b := mkB b
  litI k n := mkI k n
  litS s := ⟨.str, s⟩
  zero A := ⟨A, A.dflt⟩
  bin := binL
  un := unL
  errV := errL
  conv := convL
  lenV := lenLv
  minV := minL
  unst := unstL
  mkst x := ⟨.st x.ty, x.val⟩
  fst := fstL
  snd := sndL
  mkpair x y := ⟨.pair x.ty y.ty, (x.val, y.val)⟩
  unitV := ⟨.unit, ()⟩
  setV := setIL
  appV := appL
  mkL := mkLL
  repV := repL
  subV := subL
  pickV := pickL
  roomV := roomL
  toStrV := toStrL
  toBytesV := toBytesL
  andV := andL
  fnV f _ := fnL cs f
instance semF (ρ : Type) : RF (Option ρ) := ⟨fun _ => none⟩
def tupL : List L → L
  | [] => ⟨.unit, ()⟩
  | [v] => v
  | v :: r => ⟨.pair v.ty (tupL r).ty, (v.val, (tupL r).val)⟩
def fieldyL : List L → Bool
  | [] => true
  | v :: r => v.ty.fieldy && fieldyL r
@[reducible] noncomputable def semR (ρ : Type) (cs : List (Nat × Con)) (ls : List (Nat × LoopC ρ)) : RAlg L (Option ρ) where
  ite c a b := match c.bool with
    | some c => pIf c a b
    | none => none
  nilc x a b := match x with
    | ⟨.sl _ _, xs⟩ => pNil xs a b
    | _ => none
  check g c k := match g, c.bool with
    | none, some c => pCk c k
    | some g, some c => match g.bool with
      | some g => pCk (!g || c) k
      | none => none
    | _, _ => none
  idx g xs i k := match i.int, xs with
    | some (_, n), ⟨.sl _ a, l⟩ => match g with
      | none => pIdx (l : List a.den) n fun x => k ⟨a, x⟩
      | some g => match g.bool with
        | some g => pIdxG g a.dflt (l : List a.den) n fun x => k ⟨a, x⟩
        | none => none
    | _, _ => none
  call f _ g vs k := match get cs f with
    | some c => match (tupL vs).as c.A with
      | some a => match g with
        | none => pCall (c.F a) fun r => k ⟨c.B, r⟩
        | some g => match g.bool with
          | some g => pCallG g c.B.dflt (c.F a) fun r => k ⟨c.B, r⟩
          | none => none
      | none => none
    | none => none
  callV fv g vs k := match fv with
    | ⟨.fn A B, F⟩ => match fieldyL vs, (tupL vs).as A with
      | true, some a => match g with
        | none => pCall (F a) fun r => k ⟨B, r⟩
        | some g => match g.bool with
          | some g => pCallG g B.dflt (F a) fun r => k ⟨B, r⟩
          | none => none
      | _, _ => none
    | _ => none
  join A k b := pJoin (fun (x : A.den) => k ⟨A, x⟩) fun J => b fun v => match v.as A with
    | some x => J x
    | none => none
  loop key vs ks := match get ls key with
    | some c => match (tupL vs).as c.X with
      | some x => c.run x (ks.map (·.2))
      | none => none
    | none => none
  letV v k := pLet v.val fun x => k ⟨v.ty, x⟩
end Go.Y
namespace Go.Y
open Go.Eng (T RepT HPred flat Fits)
structure Ids where
  errno : TypeId
  placedP : TypeId
  placedS : TypeId
  textP : TypeId
  textS : TypeId
  gl : List (Addr × Value)
abbrev FnP := (A B : Ty) → (A.den → Option B.den) → HPred
def one : Ty → List T → T
  | .unit, cs => .ag cs
  | .pair _ _, cs => .ag cs
  | .st _, cs => .ag cs
  | _, [c] => c
  | _, cs => .ag cs
section
variable (I : Ids) (φ : FnP)
def trE : Err → T
  | .nil => .ni
  | .no n => .ifc I.errno (.i .i64 n)
  | .at n e => .ifc I.placedP (.p I.placedS (.ag [.i .i64 n, trE e]))
  | .txt s => .ifc I.textP (.p I.textS (.ag [.s ⟨s.toArray⟩]))
def trc : (A : Ty) → A.den → List T
  | .unit, _ => []
  | .pair a b, x => trc a x.1 ++ trc b x.2
  | .st f, x => trc f x
  | .bool, b => [.b b]
  | .int k, n => [.i k n]
  | .str, s => [.s ⟨(s : List UInt8).toArray⟩]
  | .sl e a, xs => [.sl e false ((xs : List a.den).map fun x => one a (trc a x))]
  | .ptr e a, x => match (x : Option a.den) with
    | none => [.np]
    | some y => [.p e (one a (trc a y))]
  | .err, e => [trE I e]
  | .fn a b, F => [.fl (φ a b F)]
def tr (A : Ty) (x : A.den) : T := one A (trc I φ A x)
def trL (v : L) : T := tr I φ v.ty v.val
def trcL (v : L) : List T := trc I φ v.ty v.val
end
section
variable {I : Ids} {φ : FnP}
theorem trE_ag (e : Err) : (trE I e).isAg = false := by cases e <;> rfl
theorem trc_length : ∀ (A : Ty) (x : A.den), (trc I φ A x).length = A.flat.length
  | .unit, _ => rfl
  | .pair a b, x => by simp [trc, Ty.flat, trc_length a, trc_length b]
  | .st f, x => trc_length f x
  | .bool, b => rfl
  | .int k, n => rfl
  | .str, s => rfl
  | .sl e a, xs => rfl
  | .ptr e a, x => by cases x <;> rfl
  | .err, e => rfl
  | .fn a b, F => rfl
theorem cells_of_notAg {t : T} (h : t.isAg = false) : t.cells = [t] := by
  cases t <;> first | rfl | cases h
theorem trc_one (A : Ty) (h : A.isAgg = false) (x : A.den) : ∃ c, trc I φ A x = [c] ∧ c.isAg = false := by
  cases A with
  | unit => cases h
  | pair a b => cases h
  | st f => cases h
  | ptr e a => cases x <;> exact ⟨_, rfl, rfl⟩
  | err => exact ⟨_, rfl, trE_ag _⟩
  | _ => exact ⟨_, rfl, rfl⟩
theorem tr_cells (A : Ty) (x : A.den) : (tr I φ A x).cells = trc I φ A x := by
  cases hA : A.isAgg with
  | true => cases A <;> first | rfl | cases hA
  | false =>
    obtain ⟨c, h1, h2⟩ := trc_one (I := I) (φ := φ) A hA x
    have h3 : tr I φ A x = c := by
      unfold tr; rw [h1]
      cases A <;> first | rfl | cases hA
    rw [h3, h1, cells_of_notAg h2]
theorem tr_isAg (A : Ty) (x : A.den) : (tr I φ A x).isAg = A.isAgg := by
  cases hA : A.isAgg with
  | true => cases A <;> first | rfl | cases hA
  | false =>
    obtain ⟨c, h1, h2⟩ := trc_one (I := I) (φ := φ) A hA x
    have h3 : tr I φ A x = c := by
      unfold tr; rw [h1]
      cases A <;> first | rfl | cases hA
    rw [h3, h2]
theorem tr_single (A : Ty) (h : A.isAgg = false) (x : A.den) : trc I φ A x = [tr I φ A x] := by
  obtain ⟨c, h1, h2⟩ := trc_one (I := I) (φ := φ) A h x
  have h3 : tr I φ A x = c := by
    unfold tr; rw [h1]
    cases A <;> first | rfl | cases h
  rw [h3, h1]
theorem tr_agg (A : Ty) (h : A.isAgg = true) (x : A.den) : tr I φ A x = .ag (trc I φ A x) := by
  cases A <;> first | rfl | cases h
theorem fits_of_ty {P : Program} {e : TypeId} {a : Ty} (h1 : a.flat.length = P.cellsOf e) (h2 : a.isAgg = Eng.aggOf P e) (x : a.den) : Fits P e (tr I φ a x) :=
  ⟨by rw [tr_cells, trc_length, h1], by rw [tr_isAg, h2]⟩
variable {cs : List (Nat × Con)}
theorem cellsOf_ok : ∀ (A : Ty) (x : A.den) (vs : List L), @cellsOf L (semL cs) A ⟨A, x⟩ = some vs → vs.map (trL I φ) = trc I φ A x ∧ ∀ v ∈ vs, v.ty.isAgg = false
  | .unit, x, vs, h => by
    simp only [cellsOf, Option.some.injEq] at h; subst h; exact ⟨rfl, by simp⟩
  | .pair a b, x, vs, h => by
    simp only [cellsOf] at h
    split at h
    · rename_i p q hp hq
      split at h
      · rename_i xs ys hx hy
        simp only [Option.some.injEq] at h
        have hp : (some ⟨a, x.1⟩ : Option L) = some p := hp
        have hq : (some ⟨b, x.2⟩ : Option L) = some q := hq
        simp only [Option.some.injEq] at hp hq
        subst h; subst hp; subst hq
        have h1 := cellsOf_ok a x.1 xs hx
        have h2 := cellsOf_ok b x.2 ys hy
        refine ⟨by simp [trc, h1.1, h2.1], ?_⟩
        intro v hv
        rcases List.mem_append.1 hv with hv | hv
        · exact h1.2 v hv
        · exact h2.2 v hv
      · cases h
    · cases h
  | .st f, x, vs, h => by
    simp only [cellsOf] at h
    exact cellsOf_ok f x vs h
  | .bool, x, vs, h => by simp only [cellsOf, Option.some.injEq] at h; subst h; exact ⟨rfl, by simp [Ty.isAgg]⟩
  | .int k, x, vs, h => by simp only [cellsOf, Option.some.injEq] at h; subst h; exact ⟨rfl, by simp [Ty.isAgg]⟩
  | .str, x, vs, h => by simp only [cellsOf, Option.some.injEq] at h; subst h; exact ⟨rfl, by simp [Ty.isAgg]⟩
  | .sl e a, x, vs, h => by simp only [cellsOf, Option.some.injEq] at h; subst h; exact ⟨rfl, by simp [Ty.isAgg]⟩
  | .ptr e a, x, vs, h => by
    simp only [cellsOf, Option.some.injEq] at h; subst h
    exact ⟨by cases x <;> rfl, by simp [Ty.isAgg]⟩
  | .err, x, vs, h => by simp only [cellsOf, Option.some.injEq] at h; subst h; exact ⟨rfl, by simp [Ty.isAgg]⟩
  | .fn a b, x, vs, h => by simp only [cellsOf, Option.some.injEq] at h; subst h; exact ⟨rfl, by simp [Ty.isAgg]⟩
theorem packC_ok : ∀ (A : Ty) (vs : List L) (x : L) (r : List L), @packC L (semL cs) A vs = some (x, r) →
    ∃ us, vs = us ++ r ∧ us.map (trL I φ) = trcL I φ x ∧ x.ty.isAgg = A.isAgg := by
  intro A
  have leaf : ∀ (vs : List L) (x : L) (r : List L), (match vs with | v :: vs => (match v.ty.isAgg with | true => none | false => some (v, vs)) | [] => none) = some (x, r) →
      ∃ us, vs = us ++ r ∧ us.map (trL I φ) = trcL I φ x ∧ x.ty.isAgg = false := by
    intro vs x r h
    cases vs with
    | nil => cases h
    | cons v vs =>
      simp only at h
      cases hv' : v.ty.isAgg with
      | true => rw [hv'] at h; cases h
      | false =>
        rw [hv'] at h
        simp only [Option.some.injEq, Prod.mk.injEq] at h
        obtain ⟨rfl, rfl⟩ := h
        exact ⟨[v], rfl, by simp [trcL, trL, tr_single _ hv'], hv'⟩
  induction A with
  | unit =>
    intro vs x r h
    simp only [packC, Option.some.injEq, Prod.mk.injEq] at h
    obtain ⟨rfl, rfl⟩ := h
    exact ⟨[], rfl, rfl, rfl⟩
  | pair a b iha ihb =>
    intro vs x r h
    simp only [packC] at h
    split at h
    · rename_i x1 r1 h1
      split at h
      · rename_i y1 r2 h2
        simp only [Option.some.injEq, Prod.mk.injEq] at h
        obtain ⟨rfl, rfl⟩ := h
        obtain ⟨u1, rfl, e1, _⟩ := iha vs x1 r1 h1
        obtain ⟨u2, rfl, e2, _⟩ := ihb r1 y1 r2 h2
        exact ⟨u1 ++ u2, by simp, by rw [List.map_append, e1, e2]; rfl, rfl⟩
      · cases h
    · cases h
  | st f ih =>
    intro vs x r h
    simp only [packC] at h
    split at h
    · rename_i x1 r1 h1
      simp only [Option.some.injEq, Prod.mk.injEq] at h
      obtain ⟨rfl, rfl⟩ := h
      obtain ⟨u1, e0, e1, _⟩ := ih vs x1 r1 h1
      exact ⟨u1, e0, e1, rfl⟩
    · cases h
  | bool => exact fun vs x r h => leaf vs x r (by cases vs <;> exact h)
  | int k => exact fun vs x r h => leaf vs x r (by cases vs <;> exact h)
  | str => exact fun vs x r h => leaf vs x r (by cases vs <;> exact h)
  | sl e a _ => exact fun vs x r h => leaf vs x r (by cases vs <;> exact h)
  | ptr e a _ => exact fun vs x r h => leaf vs x r (by cases vs <;> exact h)
  | err => exact fun vs x r h => leaf vs x r (by cases vs <;> exact h)
  | fn a b _ _ => exact fun vs x r h => leaf vs x r (by cases vs <;> exact h)
theorem packAll_ok {A : Ty} {vs : List L} {x : L} (h : @packAll L (semL cs) A vs = some x) :
    vs.map (trL I φ) = trcL I φ x ∧ x.ty.isAgg = A.isAgg := by
  unfold packAll at h
  split at h
  · rename_i x1 h1
    simp only [Option.some.injEq] at h
    subst h
    obtain ⟨us, e0, e1, e2⟩ := packC_ok (I := I) (φ := φ) A vs x1 [] h1
    rw [List.append_nil] at e0
    subst e0
    exact ⟨e1, e2⟩
  · cases h
end
end Go.Y
namespace Go.Y
open Go.Eng (T RepT RepM SRep Kept Base G SameOn VRep Split Live Free)
theorem beq_iff (a b : Nat) : Nat.beq a b = true ↔ a = b := ⟨Nat.eq_of_beq_eq_true, fun h => by subst h; exact Nat.beq_refl a⟩
theorem beq_false {a b : Nat} (h : a ≠ b) : Nat.beq a b = false := by
  cases hb : Nat.beq a b with
  | false => rfl
  | true => exact absurd ((beq_iff a b).1 hb) h
theorem get_cons {α : Type} (j : Nat) (x : α) (r : List (Nat × α)) (k : Nat) : get ((j, x) :: r) k = if j = k then some x else get r k := by
  simp only [get]
  by_cases h : j = k
  · subst h; simp [Nat.beq_refl]
  · simp [beq_false h, h]
theorem get_put {α : Type} (l : List (Nat × α)) (k j : Nat) (x : α) : get (put l k x) j = if j = k then some x else get l j := by
  induction l with
  | nil =>
    simp only [put, get_cons]
    by_cases h : k = j
    · subst h; simp
    · simp [h, Ne.symm h]
  | cons p r ih =>
    obtain ⟨i, y⟩ := p
    simp only [put]
    by_cases hik : i = k
    · subst hik
      simp only [Nat.beq_refl, get_cons]
      by_cases h : i = j
      · subst h; simp
      · simp [h, Ne.symm h]
    · simp only [beq_false hik]
      cases hb : Nat.blt k i with
      | true =>
        simp only [get_cons]
        by_cases h : k = j
        · subst h; simp
        · simp [h, Ne.symm h]
      | false =>
        simp only [get_cons, ih]
        by_cases h : i = j
        · subst h; simp [hik]
        · simp [h]
theorem get_map {α β : Type} (f : α → β) (l : List (Nat × α)) (k : Nat) : get (l.map fun p => (p.1, f p.2)) k = (get l k).map f := by
  induction l with
  | nil => rfl
  | cons p r ih =>
    obtain ⟨j, x⟩ := p
    simp only [List.map_cons, get_cons, ih]
    split <;> rfl
theorem eget_map {α β : Type} (f : α → β) (l : List (Nat × α)) (k : Nat) : Eng.get (l.map fun p => (p.1, f p.2)) k = (get l k).map f := by
  induction l with
  | nil => rfl
  | cons p r ih =>
    obtain ⟨j, x⟩ := p
    simp only [List.map_cons, Eng.get, get_cons, ih]
    split <;> rfl
theorem getL_eq {α : Type} (l : List α) (n : Nat) : getL l n = l[n]? := by
  induction l generalizing n with
  | nil => simp [getL]
  | cons x r ih => cases n <;> simp [getL, ih]
theorem setL_eq {α : Type} (l : List α) (n : Nat) (y : α) : setL l n y = l.set n y := by
  induction l generalizing n with
  | nil => simp [setL]
  | cons x r ih => cases n <;> simp [setL, ih]
theorem takeL_eq {α : Type} (n : Nat) (l : List α) : takeL n l = l.take n := by
  induction n generalizing l with
  | zero => simp [takeL]
  | succ n ih => cases l <;> simp [takeL, ih]
theorem dropL_eq {α : Type} (n : Nat) (l : List α) : dropL n l = l.drop n := by
  induction n generalizing l with
  | zero => simp [dropL]
  | succ n ih => cases l <;> simp [dropL, ih]
def idxN (v : L) : Nat := match v with
  | ⟨.int _, n⟩ => Int.toNat n
  | _ => 0
def injLoc (l : Loc L) : Eng.Loc := ⟨l.root, l.off, l.steps.map fun q => (idxN q.1, q.2)⟩
section
variable {P : Program} {I : Ids} {φ : FnP}
def injE (I : Ids) (φ : FnP) (st : St L) : E L → Eng.E
  | .o d v => .o d (trL I φ v)
  | .rf l => match rootAt st l with
    | some _ => .rf (injLoc l)
    | none => .mv
  | .mv => .mv
def injR (I : Ids) (φ : FnP) (st : St L) (r : Root L) : Eng.Root := ⟨r.mem, r.cells.map fun c => injE I φ st c.e⟩
def injS (I : Ids) (φ : FnP) (st : St L) : List (Nat × Eng.Root) := st.sto.map fun p => (p.1, injR I φ st p.2)
theorem get_injS (st : St L) (k : Nat) : Eng.get (injS I φ st) k = (get st.sto k).map (injR I φ st) := eget_map _ _ _
def bnd (st : St L) (l : Loc L) : Prop :=
  ∃ r, get st.sto l.root = some r ∧ l.gen ≤ r.gen ∧ (l.gen = r.gen → ∀ c, r.cells[l.off]? = some c → l.stamp ≤ c.stamp)
def validA (st : St L) (l : Loc L) : Prop := ∃ c, cellAt st l = some c ∧ c.stamp = l.stamp
def validP (st : St L) (l : Loc L) : Prop := (∃ r, rootAt st l = some r) ∧ (l.steps ≠ [] → validA st l)
theorem rootAt_iff {st : St L} {l : Loc L} {r : Root L} : rootAt st l = some r ↔ get st.sto l.root = some r ∧ r.gen = l.gen := by
  unfold rootAt
  cases h : get st.sto l.root with
  | none => simp
  | some r' =>
    simp only
    cases hb : Nat.beq r'.gen l.gen with
    | true =>
      simp only [Option.some.injEq]
      constructor
      · rintro rfl; exact ⟨rfl, (beq_iff _ _).1 hb⟩
      · rintro ⟨rfl, _⟩; rfl
    | false =>
      simp only [reduceCtorEq, false_iff, not_and, Option.some.injEq]
      rintro rfl h2
      rw [h2, Nat.beq_refl] at hb
      cases hb
theorem cellAt_iff {st : St L} {l : Loc L} {c : Cell L} : cellAt st l = some c ↔ ∃ r, get st.sto l.root = some r ∧ r.gen = l.gen ∧ r.cells[l.off]? = some c := by
  unfold cellAt
  cases h : rootAt st l with
  | none =>
    simp only [reduceCtorEq, false_iff]
    rintro ⟨r, h1, h2, _⟩
    rw [rootAt_iff.2 ⟨h1, h2⟩] at h
    cases h
  | some r =>
    simp only [getL_eq]
    have := rootAt_iff.1 h
    constructor
    · intro hc; exact ⟨r, this.1, this.2, hc⟩
    · rintro ⟨r', h1, _, h3⟩
      rw [this.1] at h1
      cases h1
      exact h3
inductive ARep (P : Program) (I : Ids) (φ : FnP) (st : St L) (g : G) (w : World) : AV L → Value → Prop
  | lf (v u) (h : RepT P w g.F (trL I φ v) u) : ARep P I φ st g w (.lf v) u
  | zs (e a u) (h : u = .slice none 0 0 ∨ ∃ b, u = .slice (some b) 0 0) : ARep P I φ st g w (.zs e a) u
  | tl (v b n) (h : RepT P w g.F (trL I φ v) (.slice b n n)) : ARep P I φ st g w (.tl v) (.slice b n n)
  | ar (l u) (hb : bnd st l) (h : validA st l → l.steps = [] → ∀ d e nl xs, Eng.at_ (injS I φ st) (injLoc l) = some (d, .sl e nl xs) → Eng.locV P g w (injS I φ st) (injLoc l) = some u) : ARep P I φ st g w (.ar l) u
  | pt (l) (b o : Nat) (hb : bnd st l) (h : validP st l → Eng.There (injS I φ st) (injLoc l) → Eng.locA P g w (injS I φ st) (injLoc l) = some ⟨b, o, none⟩) : ARep P I φ st g w (.pt l) (.pointer (some ⟨b, o, none⟩))
  | fp (v b o) (us : Nat → Value) (hF : g.F b) (hc : ∀ j t, (trcL I φ v)[j]? = some t → w.cell? ⟨b, o + j, none⟩ = some (us j))
      (hr : ∀ j t, (trcL I φ v)[j]? = some t → RepT P w g.F t (us j)) : ARep P I φ st g w (.fp v) (.pointer (some ⟨b, o, none⟩))
  | ag (t cs) (vs : Array Value) (us : Nat → Value) (hl : vs.size = cs.length) (hv : ∀ j c, cs[j]? = some c → vs[j]? = some (us j))
      (hr : ∀ j c, cs[j]? = some c → ARep P I φ st g w c (us j)) : ARep P I φ st g w (.ag t cs) (.agg vs)
  | tu (cs) (vs : Array Value) (us : Nat → Value) (hl : vs.size = cs.length) (hv : ∀ j c, cs[j]? = some c → vs[j]? = some (us j))
      (hr : ∀ j c, cs[j]? = some c → ARep P I φ st g w c (us j)) : ARep P I φ st g w (.tu cs) (.tuple vs)
  | fn (f cs) (vs : Array Value) (us : Nat → Value) (hl : vs.size = cs.length) (hv : ∀ j c, cs[j]? = some c → vs[j]? = some (us j))
      (hr : ∀ j c, cs[j]? = some c → ARep P I φ st g w c (us j)) : ARep P I φ st g w (.fn f cs) (.func (.func f) #[] vs)
  | u (u) : ARep P I φ st g w .u u
def CBnd (st : St L) : Prop := ∀ k r (c : Cell L) l, get st.sto k = some r → c ∈ r.cells → c.e = .rf l → bnd st l ∧ l.steps = []
def factW (w : World) (a : Addr) : Value → Prop
  | .agg cs => ∃ t fz, w.heap[a.block]? = some (.cells cs t fz)
  | v => w.cell? a = some v
def GlobW (I : Ids) (w : World) : Prop := ∀ p ∈ I.gl, factW w p.1 p.2
def GlobB (I : Ids) (β : Base) : Prop := GlobW I β.w ∧ ∀ p ∈ I.gl, ¬ β.B p.1.block
structure Inv (P : Program) (I : Ids) (φ : FnP) (β : Base) (st : St L) (g : G) (w : World) : Prop where
  s : SRep P g (injS I φ st) w
  k : Kept β g (injS I φ st) w
  c : CBnd st
  f : ∀ b, g.F b → b < w.heap.size
  gl : GlobB I β := by first | assumption | exact Inv.gl (by assumption)
theorem glob_lt {w : World} {p : Addr × Value} (h : factW w p.1 p.2) : p.1.block < w.heap.size := by
  obtain ⟨a, v⟩ := p
  cases v with
  | agg cs =>
    obtain ⟨t, fz, h⟩ := h
    exact (Array.getElem?_eq_some_iff.1 h).1
  | _ => exact World.block_lt_of_cell? w a h
theorem factW_same {w w' : World} {a : Addr} {v : Value} (e : w'.heap[a.block]? = w.heap[a.block]?) (h : factW w a v) : factW w' a v := by
  cases v with
  | agg cs =>
    obtain ⟨t, fz, h⟩ := h
    exact ⟨t, fz, e.trans h⟩
  | _ => exact (World.cell?_of_block e).trans h
theorem Inv.globW {β : Base} {st : St L} {g : G} {w : World} (h : Inv P I φ β st g w) : GlobW I w := fun p hp => by
  have h1 := h.gl.1 p hp
  exact factW_same (h.k.block p.1.block (glob_lt h1) (h.gl.2 p hp)) h1
theorem Inv.globB {β : Base} {st : St L} {g : G} {w : World} (h : Inv P I φ β st g w) {k : Nat} {r : Root L} (hr : get st.sto k = some r) {p : Addr × Value} (hp : p ∈ I.gl) : ¬ g.B k p.1.block := fun hb => by
  have hr' : Eng.get (injS I φ st) k = some (injR I φ st r) := by rw [get_injS, hr]; rfl
  rcases h.k.B k _ hr' _ hb with h1 | h1
  · exact h.gl.2 p hp h1
  · have := glob_lt (h.gl.1 p hp)
    omega
structure Pass (P : Program) (I : Ids) (φ : FnP) (st : St L) (g : G) (w : World) (st' : St L) (g' : G) (w' : World) : Prop where
  a : ∀ x u, ARep P I φ st g w x u → ARep P I φ st' g' w' x u
  F : ∀ b, g.F b → g'.F b
  same : SameOn g.F w w'
  size : w.heap.size ≤ w'.heap.size
theorem Pass.refl (st : St L) (g : G) (w : World) : Pass P I φ st g w st g w := ⟨fun _ _ h => h, fun _ h => h, SameOn.refl _ w, Nat.le_refl _⟩
theorem Pass.trans {st st1 st2 : St L} {g g1 g2 : G} {w w1 w2 : World} (h : Pass P I φ st g w st1 g1 w1) (h' : Pass P I φ st1 g1 w1 st2 g2 w2) : Pass P I φ st g w st2 g2 w2 :=
  ⟨fun x u hx => h'.a x u (h.a x u hx), fun b hb => h'.F b (h.F b hb), SameOn.trans h.same (h'.same.mono fun b hb => h.F b hb) h.size, Nat.le_trans h.size h'.size⟩
theorem Pass.rep {st st' : St L} {g g' : G} {w w' : World} (h : Pass P I φ st g w st' g' w') {t : T} {u : Value} (ht : RepT P w g.F t u) : RepT P w' g'.F t u := ht.mono h.same h.F
def EnvR (P : Program) (I : Ids) (φ : FnP) (st : St L) (g : G) (w : World) (env : List (Nat × AV L)) (tmps : Array Value) : Prop :=
  ∀ s x, get env s = some x → ∃ u, tmps[s]? = some u ∧ ARep P I φ st g w x u
def GnvR (P : Program) (I : Ids) (φ : FnP) (st : St L) (g : G) (w : World) (gnv : List (Nat × (Nat × Bool) × AV L)) (tmps : Array Value) : Prop :=
  ∀ s k b x, (s, (k, b), x) ∈ gnv → ∃ u, tmps[s]? = some u ∧ (tmps[k]? = some (.bool b) → ARep P I φ st g w x u) ∧ (tmps[k]? ≠ some (.bool b) → u = undef)
structure RelG (P : Program) (I : Ids) (φ : FnP) (β : Base) (nt : Nat) (st : St L) (g : G) (a : Act) (w : World) : Prop where
  defers : a.defers = []
  size : a.tmps.size = nt
  i : Inv P I φ β st g w
  e : EnvR P I φ st g w st.env a.tmps
  n : GnvR P I φ st g w st.gnv a.tmps
theorem EnvR.pass {st st' : St L} {g g' : G} {w w' : World} {env : List (Nat × AV L)} {tmps : Array Value} (h : Pass P I φ st g w st' g' w') (he : EnvR P I φ st g w env tmps) : EnvR P I φ st' g' w' env tmps := by
  intro s x hs
  obtain ⟨u, hu, hr⟩ := he s x hs
  exact ⟨u, hu, h.a x u hr⟩
theorem EnvR.put {st : St L} {g : G} {w : World} {env : List (Nat × AV L)} {tmps : Array Value} (h : EnvR P I φ st g w env tmps) {d : Nat} (hd : d < tmps.size) {x : AV L} {u : Value}
    (hx : ARep P I φ st g w x u) : EnvR P I φ st g w (put env d x) (tmps.setIfInBounds d u) := by
  intro s y hs
  rw [get_put] at hs
  by_cases hsd : s = d
  · subst hsd
    simp only [if_true, Option.some.injEq] at hs
    subst hs
    exact ⟨u, by simp [hd], hx⟩
  · rw [if_neg hsd] at hs
    obtain ⟨u', h1, h2⟩ := h s y hs
    exact ⟨u', by rw [Array.getElem?_setIfInBounds_ne (Ne.symm hsd)]; exact h1, h2⟩
theorem GnvR.pass {st st' : St L} {g g' : G} {w w' : World} {gnv : List (Nat × (Nat × Bool) × AV L)} {tmps : Array Value} (h : Pass P I φ st g w st' g' w') (he : GnvR P I φ st g w gnv tmps) : GnvR P I φ st' g' w' gnv tmps := by
  intro s k b x hs
  obtain ⟨u, hu, h1, h2⟩ := he s k b x hs
  exact ⟨u, hu, fun hk => h.a x u (h1 hk), h2⟩
theorem scrubG_cons (d : Nat) (s k : Nat) (b : Bool) (x : AV L) (r : List (Nat × (Nat × Bool) × AV L)) :
    scrubG d ((s, (k, b), x) :: r) = if s = d ∨ k = d then scrubG d r else (s, (k, b), x) :: scrubG d r := by
  simp only [scrubG]
  by_cases h1 : s = d
  · simp [h1, Nat.beq_refl]
  · by_cases h2 : k = d
    · simp [h2, Nat.beq_refl]
    · simp [beq_false h1, beq_false h2, h1, h2]
theorem mem_scrubG {d : Nat} {e : Nat × (Nat × Bool) × AV L} {l : List (Nat × (Nat × Bool) × AV L)} (h : e ∈ scrubG d l) : e ∈ l ∧ e.1 ≠ d ∧ e.2.1.1 ≠ d := by
  induction l with
  | nil => simp [scrubG] at h
  | cons p r ih =>
    obtain ⟨s, ⟨k, b⟩, x⟩ := p
    rw [scrubG_cons] at h
    split at h
    · exact ⟨List.mem_cons_of_mem _ (ih h).1, (ih h).2⟩
    · rename_i hn
      rcases List.mem_cons.1 h with rfl | h
      · exact ⟨by simp, fun h => hn (.inl h), fun h => hn (.inr h)⟩
      · exact ⟨List.mem_cons_of_mem _ (ih h).1, (ih h).2⟩
theorem mem_of_get {α : Type} {l : List (Nat × α)} {k : Nat} {x : α} (h : get l k = some x) : (k, x) ∈ l := by
  induction l with
  | nil => simp [get] at h
  | cons p r ih =>
    obtain ⟨s, y⟩ := p
    rw [get_cons] at h
    split at h
    · rename_i hs
      simp only [Option.some.injEq] at h
      subst h; subst hs
      simp
    · exact List.mem_cons_of_mem _ (ih h)
theorem get_del {α : Type} (d : Nat) (l : List (Nat × α)) (k : Nat) : get (del d l) k = if k = d then none else get l k := by
  induction l with
  | nil => simp [del, get]
  | cons p r ih =>
    obtain ⟨s, x⟩ := p
    simp only [del]
    by_cases h : s = d
    · subst h
      simp only [Nat.beq_refl, ih, get_cons]
      by_cases hk : k = s
      · simp [hk]
      · simp [hk, Ne.symm hk]
    · simp only [beq_false h, get_cons, ih]
      by_cases hk : s = k
      · subst hk; simp [h]
      · simp [hk]
theorem ARep.env {st : St L} {g : G} {w : World} {x : AV L} {u : Value} (env' : List (Nat × AV L)) (gnv' : List (Nat × (Nat × Bool) × AV L)) (h : ARep P I φ st g w x u) : ARep P I φ { st with env := env', gnv := gnv' } g w x u := by
  induction h with
  | lf v u h => exact .lf v u h
  | zs e a u h => exact .zs e a u h
  | tl v b n h => exact .tl v b n h
  | ar l u hb h => exact .ar l u hb h
  | pt l b o hb h => exact .pt l b o hb h
  | fp v b o us hF hc hr => exact .fp v b o us hF hc hr
  | ag t cs vs us hl hv _ ih => exact .ag t cs vs us hl hv ih
  | tu cs vs us hl hv _ ih => exact .tu cs vs us hl hv ih
  | fn f cs vs us hl hv _ ih => exact .fn f cs vs us hl hv ih
  | u u => exact .u u
theorem Inv.env {β : Base} {st : St L} {g : G} {w : World} (env' : List (Nat × AV L)) (gnv' : List (Nat × (Nat × Bool) × AV L)) (h : Inv P I φ β st g w) : Inv P I φ β { st with env := env', gnv := gnv' } g w := ⟨h.s, h.k, h.c, h.f, (by first | assumption | exact Inv.gl (by assumption))⟩
end
end Go.Y
namespace Go.Y
open Go.Eng (T RepT RepM SRep Kept Base G SameOn VRep Split Live Free)
variable {P : Program} {I : Ids} {φ : FnP}
section congr
variable {sto sto' : List (Nat × Eng.Root)} (h : ∀ k, Eng.get sto' k = Eng.get sto k)
include h
theorem at_congr (l : Eng.Loc) : Eng.at_ sto' l = Eng.at_ sto l := by unfold Eng.at_; rw [h]
theorem locA_congr (g : G) (w : World) (l : Eng.Loc) : Eng.locA P g w sto' l = Eng.locA P g w sto l := by unfold Eng.locA; rw [h]
theorem locV_congr (g : G) (w : World) (l : Eng.Loc) : Eng.locV P g w sto' l = Eng.locV P g w sto l := by
  unfold Eng.locV; rw [h, locA_congr h]
theorem there_congr (l : Eng.Loc) : Eng.There sto' l ↔ Eng.There sto l := by
  unfold Eng.There
  split
  · rw [h]
  · rw [at_congr h]
theorem erep_congr {g : G} {w : World} {e : Eng.E} {u : Value} {B : Nat → Prop} (hr : Eng.ERep P g w sto e u B) : Eng.ERep P g w sto' e u B := by
  cases e with
  | o d t => exact hr
  | mv => trivial
  | rf l =>
    have hr' : VRep P g w sto (.pt l) u := hr
    cases hr' with
    | pt _ _ h1 => exact VRep.pt l u fun ht => by rw [locA_congr h]; exact h1 ((there_congr h l).1 ht)
theorem srep_congr {g : G} {w : World} (hs : SRep P g sto w) : SRep P g sto' w := by
  refine ⟨fun k r hr => ?_, fun k k' r r' hr hr' => hs.apart k k' r r' (by rw [← h]; exact hr) (by rw [← h]; exact hr'), fun k r hr => hs.own k r (by rw [← h]; exact hr)⟩
  obtain ⟨h1, Bs, hsp, hc⟩ := hs.root k r (by rw [← h]; exact hr)
  refine ⟨h1, Bs, hsp, fun j e hj => ?_⟩
  obtain ⟨u, hu, he⟩ := hc j e hj
  exact ⟨u, hu, erep_congr h he⟩
theorem kept_congr {β : Base} {g : G} {w : World} (hk : Kept β g sto w) : Kept β g sto' w :=
  ⟨hk.os, hk.tape, hk.output, hk.size, hk.block, hk.F, hk.F', fun k r hr => hk.B k r (by rw [← h]; exact hr)⟩
end congr
theorem pass_of_move2 {β : Base} {st st' : St L} {g g' : G} {w w' : World} {sto1 : List (Nat × Eng.Root)} {fa fp : Eng.Loc → Bool}
    (hM : Eng.Move P β g (injS I φ st) w g' sto1 w' fa fp) (hget : ∀ k, Eng.get (injS I φ st') k = Eng.get sto1 k) (hsz : w.heap.size ≤ w'.heap.size)
    (hb : ∀ l, bnd st l → bnd st' l) (hA : ∀ l, bnd st l → validA st' l → l.steps = [] → validA st l ∧ fa (injLoc l) = false) (hP : ∀ l, bnd st l → validP st' l → validP st l ∧ fp (injLoc l) = false)
    (hc : CBnd st') (hf : ∀ b, g'.F b → b < w'.heap.size) (hgl : GlobB I β := by first | assumption | exact Inv.gl (by assumption)) : Pass P I φ st g w st' g' w' ∧ Inv P I φ β st' g' w' := by
  refine ⟨⟨fun x u hx => ?_, hM.F, hM.same, hsz⟩, srep_congr hget hM.srep, kept_congr hget hM.kept, hc, hf, (by first | assumption | exact Inv.gl (by assumption))⟩
  induction hx with
  | lf v u h => exact .lf v u (h.mono hM.same hM.F)
  | zs e a u h => exact .zs e a u h
  | tl v b n h => exact .tl v b n (h.mono hM.same hM.F)
  | ar l u hbl h =>
    refine .ar l u (hb l hbl) fun hv hs0 d e nl xs hat => ?_
    obtain ⟨hv0, hf⟩ := hA l hbl hv hs0
    rw [at_congr hget] at hat
    obtain ⟨d0, nl0, xs0, h1, _, h3⟩ := hM.ar (injLoc l) hf d e nl xs hat
    rw [locV_congr hget, h3]
    exact h hv0 hs0 d0 e nl0 xs0 h1
  | pt l b o hbl h =>
    refine .pt l b o (hb l hbl) fun hv ht => ?_
    obtain ⟨hv0, hf⟩ := hP l hbl hv
    rw [there_congr hget] at ht
    obtain ⟨h1, h2⟩ := hM.pt (injLoc l) hf ht
    rw [locA_congr hget, h2]
    exact h hv0 h1
  | fp v b o us hF hc hr =>
    exact .fp v b o us (hM.F _ hF) (fun j t hj => hM.same.cell (a := ⟨b, o + j, none⟩) hF (hc j t hj)) fun j t hj => (hr j t hj).mono hM.same hM.F
  | ag t cs vs us hl hv _ ih => exact .ag t cs vs us hl hv ih
  | tu cs vs us hl hv _ ih => exact .tu cs vs us hl hv ih
  | fn f cs vs us hl hv _ ih => exact .fn f cs vs us hl hv ih
  | u u => exact .u u
theorem pass_of_move {β : Base} {st st' : St L} {g g' : G} {w w' : World} {sto1 : List (Nat × Eng.Root)} {fa fp : Eng.Loc → Bool}
    (hM : Eng.Move P β g (injS I φ st) w g' sto1 w' fa fp) (hget : ∀ k, Eng.get (injS I φ st') k = Eng.get sto1 k) (hsz : w.heap.size ≤ w'.heap.size)
    (hb : ∀ l, bnd st l → bnd st' l) (hA : ∀ l, bnd st l → validA st' l → validA st l ∧ fa (injLoc l) = false) (hP : ∀ l, bnd st l → validP st' l → validP st l ∧ fp (injLoc l) = false)
    (hc : CBnd st') (hf : ∀ b, g'.F b → b < w'.heap.size) (hgl : GlobB I β := by first | assumption | exact Inv.gl (by assumption)) : Pass P I φ st g w st' g' w' ∧ Inv P I φ β st' g' w' :=
  pass_of_move2 hM hget hsz hb (fun l h1 h2 _ => hA l h1 h2) hP hc hf hgl
theorem get_setCell (st : St L) (k j : Nat) (c : Cell L) (r : Root L) (hr : get st.sto k = some r) (i : Nat) :
    get (setCell st k j c).sto i = if i = k then some { r with cells := r.cells.set j c } else get st.sto i := by
  unfold setCell
  simp only [hr, get_put, setL_eq]
theorem injE_gens {st st' : St L} (h : ∀ k, (get st'.sto k).map (·.gen) = (get st.sto k).map (·.gen)) (e : E L) : injE I φ st' e = injE I φ st e := by
  cases e with
  | o d v => rfl
  | mv => rfl
  | rf l =>
    simp only [injE]
    have h1 := h l.root
    cases h2 : rootAt st l with
    | some r =>
      obtain ⟨h3, h4⟩ := rootAt_iff.1 h2
      rw [h3, Option.map_some] at h1
      cases h5 : get st'.sto l.root with
      | none => rw [h5] at h1; cases h1
      | some r' =>
        rw [h5, Option.map_some, Option.some.injEq] at h1
        rw [rootAt_iff.2 ⟨h5, h1.trans h4⟩]
    | none =>
      cases h5 : rootAt st' l with
      | none => rfl
      | some r' =>
        obtain ⟨h3, h4⟩ := rootAt_iff.1 h5
        rw [h3, Option.map_some] at h1
        cases h6 : get st.sto l.root with
        | none => rw [h6] at h1; cases h1
        | some r =>
          rw [h6, Option.map_some, Option.some.injEq] at h1
          rw [rootAt_iff.2 ⟨h6, h1.symm.trans h4⟩] at h2
          cases h2
structure Turn (st : St L) (k j : Nat) (c c' : Cell L) (r : Root L) : Prop where
  hr : get st.sto k = some r
  hc : r.cells[j]? = some c
  stamp : c.stamp ≤ c'.stamp
  rf : ∀ l, c'.e = .rf l → bnd st l ∧ l.steps = []
theorem Turn.bnd {st : St L} {k j : Nat} {c c' : Cell L} {r : Root L} (h : Turn st k j c c' r) (l : Loc L) (hl : bnd st l) : bnd (setCell st k j c') l := by
  obtain ⟨r0, h1, h2, h3⟩ := hl
  by_cases hk : l.root = k
  · rw [hk, h.hr, Option.some.injEq] at h1
    subst h1
    refine ⟨{ r with cells := r.cells.set j c' }, by rw [get_setCell st k j c' r h.hr, if_pos hk], h2, fun hg c1 hc1 => ?_⟩
    simp only [List.getElem?_set] at hc1
    split at hc1
    · rename_i hj
      split at hc1
      · simp only [Option.some.injEq] at hc1
        subst hc1
        exact Nat.le_trans (h3 hg c (by rw [← hj]; exact h.hc)) h.stamp
      · cases hc1
    · exact h3 hg c1 hc1
  · exact ⟨r0, by rw [get_setCell st k j c' r h.hr, if_neg hk]; exact h1, h2, h3⟩
theorem Turn.cbnd {st : St L} {k j : Nat} {c c' : Cell L} {r : Root L} (h : Turn st k j c c' r) (hc : CBnd st) : CBnd (setCell st k j c') := by
  intro i r1 c1 l h1 h2 h3
  rw [get_setCell st k j c' r h.hr] at h1
  split at h1
  · simp only [Option.some.injEq] at h1
    subst h1
    simp only at h2
    obtain ⟨n, hn⟩ := List.mem_iff_getElem?.1 h2
    rw [List.getElem?_set] at hn
    split at hn
    · split at hn
      · simp only [Option.some.injEq] at hn
        subst hn
        have := h.rf l h3
        exact ⟨h.bnd l this.1, this.2⟩
      · cases hn
    · have := hc k r c1 l h.hr (List.mem_iff_getElem?.2 ⟨n, hn⟩) h3
      exact ⟨h.bnd l this.1, this.2⟩
  · have := hc i r1 c1 l h1 h2 h3
    exact ⟨h.bnd l this.1, this.2⟩
theorem Turn.gens {st : St L} {k j : Nat} {c c' : Cell L} {r : Root L} (h : Turn st k j c c' r) (i : Nat) : (get (setCell st k j c').sto i).map (·.gen) = (get st.sto i).map (·.gen) := by
  rw [get_setCell st k j c' r h.hr]
  split
  · rename_i hi; subst hi; rw [h.hr]; rfl
  · rfl
theorem Turn.validA {st : St L} {k j : Nat} {c c' : Cell L} {r : Root L} (h : Turn st k j c c' r) (l : Loc L) (hv : validA (setCell st k j c') l) :
    (¬ (l.root = k ∧ l.off = j) ∧ validA st l) ∨ (l.root = k ∧ l.off = j ∧ l.gen = r.gen ∧ l.stamp = c'.stamp) := by
  obtain ⟨c1, h1, h2⟩ := hv
  obtain ⟨r1, h3, h4, h5⟩ := cellAt_iff.1 h1
  rw [get_setCell st k j c' r h.hr] at h3
  split at h3
  · rename_i hk
    simp only [Option.some.injEq] at h3
    subst h3
    simp only [List.getElem?_set] at h5 h4
    split at h5
    · rename_i hj
      split at h5
      · simp only [Option.some.injEq] at h5
        subst h5
        exact .inr ⟨hk, hj.symm, h4.symm, h2.symm⟩
      · cases h5
    · rename_i hj
      exact .inl ⟨fun hh => hj hh.2.symm, c1, cellAt_iff.2 ⟨r, by rw [hk]; exact h.hr, h4, h5⟩, h2⟩
  · rename_i hk
    exact .inl ⟨fun hh => hk hh.1, c1, cellAt_iff.2 ⟨r1, h3, h4, h5⟩, h2⟩
theorem Turn.rootAt {st : St L} {k j : Nat} {c c' : Cell L} {r : Root L} (h : Turn st k j c c' r) (l : Loc L) (hv : ∃ r', rootAt (setCell st k j c') l = some r') : ∃ r', rootAt st l = some r' := by
  obtain ⟨r1, h1⟩ := hv
  obtain ⟨h3, h4⟩ := rootAt_iff.1 h1
  rw [get_setCell st k j c' r h.hr] at h3
  split at h3
  · rename_i hk
    simp only [Option.some.injEq] at h3
    subst h3
    exact ⟨r, rootAt_iff.2 ⟨by rw [hk]; exact h.hr, h4⟩⟩
  · exact ⟨r1, rootAt_iff.2 ⟨h3, h4⟩⟩
theorem Turn.get {st : St L} {k j : Nat} {c c' : Cell L} {r : Root L} (h : Turn st k j c c' r) (fp : Eng.Loc → Bool) (hfp : ∀ l : Eng.Loc, l.steps = [] → fp l = false) (hc : CBnd st) (i : Nat) :
    Eng.get (injS I φ (setCell st k j c')) i = Eng.get (Eng.put (Eng.invS fp (injS I φ st)) k ((injR I φ st r).set fp j (injE I φ st c'.e))) i := by
  have hinv : ∀ i r1, Go.Y.get st.sto i = some r1 → (injR I φ st r1).inv fp = injR I φ st r1 := by
    intro i r1 h1
    simp only [Eng.Root.inv, injR, List.map_map]
    congr 1
    refine List.map_congr_left fun c1 hc1 => ?_
    simp only [Function.comp]
    cases he : c1.e with
    | o d v => rfl
    | mv => rfl
    | rf l =>
      have := (hc i r1 c1 l h1 hc1 he).2
      simp only [injE]
      cases Y.rootAt st l with
      | none => rfl
      | some _ => simp [Eng.E.inv, hfp (injLoc l) (by simp [injLoc, this])]
  rw [Eng.get_put, get_injS, get_setCell st k j c' r h.hr, Eng.get_invS, get_injS]
  have hE : ∀ e, injE I φ (setCell st k j c') e = injE I φ st e := injE_gens h.gens
  by_cases hi : i = k
  · simp only [if_pos hi, Option.map_some, Option.some.injEq]
    have h2 := hinv k r h.hr
    have h3 : (injR I φ st r).cells.map (Eng.E.inv fp) = (injR I φ st r).cells := by
      have := congrArg Eng.Root.cells h2
      simpa [Eng.Root.inv] using this
    simp only [Eng.Root.set, h3]
    simp only [injR, List.map_set, Eng.Root.mk.injEq, true_and, hE]
  · simp only [if_neg hi, Option.map_map]
    cases hg : Go.Y.get st.sto i with
    | none => rfl
    | some r1 =>
      simp only [Option.map_some, Option.some.injEq, Function.comp]
      rw [hinv i r1 hg]
      simp only [injR, Eng.Root.mk.injEq, true_and]
      exact List.map_congr_left fun c1 _ => hE c1.e
end Go.Y
namespace Go.Y
open Go.Eng (T RepT RepM SRep Kept Base G SameOn VRep Split Live Free)
variable {P : Program} {I : Ids} {φ : FnP} {β : Base}
theorem injR_cell {st : St L} {r : Root L} {j : Nat} {c : Cell L} (h : r.cells[j]? = some c) : (injR I φ st r).cells[j]? = some (injE I φ st c.e) := by
  simp [injR, List.getElem?_map, h]
theorem inv_grow {st : St L} {g : G} {w w' : World} (h : Inv P I φ β st g w) (hs : ∀ b, b < w.heap.size → w'.heap[b]? = w.heap[b]?) (hsz : w.heap.size ≤ w'.heap.size)
    (hos : w'.os = w.os) (htape : w'.tape = w.tape) (hout : w'.output = w.output) :
    Pass P I φ st g w st g w' ∧ Inv P I φ β st g w' ∧ Free β g (injS I φ st) w' (fun b => w.heap.size ≤ b ∧ b < w'.heap.size) := by
  obtain ⟨hM, hN⟩ := Eng.move_grow h.s h.k h.f hs hsz hos htape hout
  obtain ⟨h1, h2⟩ := pass_of_move (st' := st) hM (fun _ => rfl) hsz (fun _ hl => hl) (fun _ _ hv => ⟨hv, rfl⟩) (fun _ _ hv => ⟨hv, rfl⟩) h.c (fun b hb => Nat.lt_of_lt_of_le (h.f b hb) hsz)
  exact ⟨h1, h2, hN⟩
theorem inv_give {st : St L} {g : G} {w : World} (h : Inv P I φ β st g w) (N : Nat → Prop) (hN : Free β g (injS I φ st) w N) :
    Pass P I φ st g w st { g with F := fun b => g.F b ∨ N b } w ∧ Inv P I φ β st { g with F := fun b => g.F b ∨ N b } w :=
  pass_of_move (st' := st) (Eng.move_give h.s h.k N hN) (fun _ => rfl) (Nat.le_refl _) (fun _ hl => hl) (fun _ _ hv => ⟨hv, rfl⟩) (fun _ _ hv => ⟨hv, rfl⟩) h.c
    (fun b hb => hb.elim (h.f b) fun hb => (hN b hb).2.2.1)
theorem inv_fresh {st : St L} {g : G} {w w' : World} (h : Inv P I φ β st g w) (hs : ∀ b, b < w.heap.size → w'.heap[b]? = w.heap[b]?) (hsz : w.heap.size ≤ w'.heap.size)
    (hos : w'.os = w.os) (htape : w'.tape = w.tape) (hout : w'.output = w.output) :
    ∃ g', Pass P I φ st g w st g' w' ∧ Inv P I φ β st g' w' ∧ g'.F = fun b => g.F b ∨ (w.heap.size ≤ b ∧ b < w'.heap.size) := by
  obtain ⟨h1, h2, h3⟩ := inv_grow h hs hsz hos htape hout
  obtain ⟨h4, h5⟩ := inv_give h2 _ h3
  exact ⟨_, h1.trans h4, h5, rfl⟩
theorem lt_of_get {α : Type} {l : List α} {j : Nat} {x : α} (h : l[j]? = some x) : j < l.length := (List.getElem?_eq_some_iff.1 h).1
theorem inv_freeze {st : St L} {g : G} {w : World} (h : Inv P I φ β st g w) {k j s d : Nat} {r : Root L} {v : L} (hr : get st.sto k = some r) (hc : r.cells[j]? = some ⟨s, .o d v⟩) :
    ∃ g', Pass P I φ st g w (setCell st k j ⟨s, .o 0 v⟩) g' w ∧ Inv P I φ β (setCell st k j ⟨s, .o 0 v⟩) g' w ∧ (∀ b, g'.F b → g.F b ∨ Live g (injS I φ st) b) ∧
      ∃ u, Eng.rootV g w k (injR I φ st r) j = some u ∧ RepT P w g'.F (trL I φ v) u := by
  have hr' : Eng.get (injS I φ st) k = some (injR I φ st r) := by rw [get_injS, hr]; rfl
  have hc' := injR_cell (I := I) (φ := φ) (st := st) hc
  simp only [injE] at hc'
  obtain ⟨h1, Bs, hsp, hcell⟩ := h.s.root k _ hr'
  obtain ⟨u, hu, hrep⟩ := hcell j _ hc'
  have hM := Eng.move_freeze h.s h.k hr' hc' hsp hcell
  have hT : Turn st k j ⟨s, .o d v⟩ ⟨s, .o 0 v⟩ r := ⟨hr, hc, Nat.le_refl _, fun l hl => by cases hl⟩
  have hL : ∀ b, Bs j b → Live g (injS I φ st) b := fun b hb => ⟨k, _, hr', (hsp.2.1 j b hb).1⟩
  have hVA : ∀ l, validA (setCell st k j ⟨s, .o 0 v⟩) l → validA st l := by
    intro l hv
    rcases hT.validA l hv with hv | ⟨e1, e2, e3, e4⟩
    · exact hv.2
    · exact ⟨⟨s, .o d v⟩, cellAt_iff.2 ⟨r, by rw [e1]; exact hr, e3.symm, by rw [e2]; exact hc⟩, e4.symm⟩
  have hF : ∀ b, (g.F b ∨ Bs j b) → b < w.heap.size := by
    intro b hb
    rcases hb with hb | hb
    · exact h.f b hb
    · exact (h.s.own k _ hr' b (hsp.2.1 j b hb).1).2
  obtain ⟨h2, h3⟩ := pass_of_move (st' := setCell st k j ⟨s, .o 0 v⟩) hM (fun i => hT.get (fun _ => false) (fun _ _ => rfl) h.c i) (Nat.le_refl _) hT.bnd
    (fun l _ hv => ⟨hVA l hv, rfl⟩) (fun l _ hv => ⟨⟨hT.rootAt l hv.1, fun hs => hVA l (hv.2 hs)⟩, rfl⟩) (hT.cbnd h.c) hF
  exact ⟨_, h2, h3, fun b hb => hb.imp id (hL b), u, hu, RepM.give d hrep⟩
theorem ar_root {st : St L} {g : G} {w : World} {l : Loc L} {u : Value} (ha : ARep P I φ st g w (.ar l) u) {r : Root L} {s d : Nat} {v : L} (hr : get st.sto l.root = some r) (hg : r.gen = l.gen)
    (hc : r.cells[l.off]? = some ⟨s, .o d v⟩) (hs : s = l.stamp) (hsl : v.ty.isSl = true) (hst : l.steps = []) : Eng.rootV g w l.root (injR I φ st r) l.off = some u := by
  cases ha with
  | ar _ _ hb h =>
    obtain ⟨ty, val⟩ := v
    cases ty with
    | sl e a =>
      have hr' : Eng.get (injS I φ st) (injLoc l).root = some (injR I φ st r) := by rw [get_injS]; simp [injLoc, hr]
      have hc' := injR_cell (I := I) (φ := φ) (st := st) hc
      simp only [injE] at hc'
      have hst' : (injLoc l).steps = [] := by simp [injLoc, hst]
      have := h ⟨_, cellAt_iff.2 ⟨r, hr, hg, hc⟩, hs⟩ hst d e false _ (by
        unfold Eng.at_
        rw [hr']
        simp only [show (injLoc l).off = l.off from rfl, hc', hst']
        cases d <;> rfl)
      unfold Eng.locV at this
      simp only [hst', hr', Option.bind_some] at this
      exact this
    | _ => cases hsl
end Go.Y
namespace Go.Y
open Go.Eng (T RepT RepM SRep Kept Base G SameOn VRep Split Live Free)
variable {P : Program} {I : Ids} {φ : FnP} {β : Base} {nt : Nat} {cs : List (Nat × Con)}
theorem constAV_ok {tb : Tabs} {t : TypeId} {v : Value} {x : AV L} {st : St L} {g : G} {w : World} (h : @constAV L (semL cs) tb t v = some x) : ARep P I φ st g w x v := by
  unfold constAV at h
  split at h
  · simp only [Option.some.injEq] at h; subst h; exact .lf _ _ (.b _)
  · simp only [Option.some.injEq] at h; subst h; exact .lf _ _ (.i _ _)
  · rename_i s
    simp only [Option.some.injEq] at h; subst h
    refine .lf _ _ ?_
    have : (trL I φ (@LAlg.litS L (semL cs) s.data.toList) : T) = .s s := by
      show T.s ⟨s.data.toList.toArray⟩ = .s s
      rw [Array.toArray_toList]
    rw [this]
    exact .s _
  · split at h
    · split at h
      · simp only [Option.some.injEq] at h; subst h; exact .zs _ _ _ (.inl rfl)
      · cases h
    · cases h
  · split at h
    · split at h
      · simp only [Option.some.injEq] at h; subst h; exact .lf _ _ .np
      · cases h
    · cases h
  · simp only [Option.some.injEq] at h; subst h; exact .lf _ _ .ni
  · simp only [Option.some.injEq] at h; subst h
    exact .fn _ [] #[] (fun _ => undef) rfl (fun j c hj => by simp at hj) (fun j c hj => by simp at hj)
  · cases h
theorem memK_iff {k : Nat × Bool} {l : List (Nat × Bool)} : memK k l = true ↔ k ∈ l := by
  induction l with
  | nil => simp [memK]
  | cons j r ih =>
    simp only [memK]
    by_cases h : j = k
    · subst h; simp [Nat.beq_refl]
    · have : (Nat.beq j.1 k.1 && (j.2 == k.2)) = false := by
        cases hb : (Nat.beq j.1 k.1 && (j.2 == k.2)) with
        | false => rfl
        | true =>
          simp only [Bool.and_eq_true, beq_iff_eq] at hb
          exact absurd (Prod.ext ((beq_iff _ _).1 hb.1) hb.2) h
      simp [this, ih, Ne.symm h]
def Hold (tmps : Array Value) (ks : List (Nat × Bool)) : Prop := ∀ k ∈ ks, tmps[k.1]? = some (.bool k.2)
theorem evalO_ok {tb : Tabs} {st : St L} {ks : List (Nat × Bool)} {t : TypeId} {o : Operand} {x : AV L} {g : G} {w : World} {a : Act} (he : EnvR P I φ st g w st.env a.tmps) (hg : GnvR P I φ st g w st.gnv a.tmps)
    (hk : Hold a.tmps ks) (h : @evalO L (semL cs) tb st ks t o = some x) : ARep P I φ st g w x (a.eval o) := by
  cases o with
  | tmp s =>
    simp only [evalO] at h
    cases h1 : get st.env s with
    | some y =>
      rw [h1] at h
      simp only [Option.some.injEq] at h
      subst h
      obtain ⟨u, hu, hr⟩ := he s y h1
      simp only [Act.eval, Array.getD_eq_getD_getElem?, hu, Option.getD_some]
      exact hr
    | none =>
      rw [h1] at h
      simp only at h
      cases h2 : get st.gnv s with
      | none => rw [h2] at h; cases h
      | some p =>
        obtain ⟨⟨k, b⟩, y⟩ := p
        rw [h2] at h
        simp only at h
        split at h
        · rename_i hm
          simp only [Option.some.injEq] at h
          subst h
          obtain ⟨u, hu, hr, _⟩ := hg s k b y (mem_of_get h2)
          simp only [Act.eval, Array.getD_eq_getD_getElem?, hu, Option.getD_some]
          exact hr (hk (k, b) (memK_iff.1 hm))
        · cases h
  | const v => simp only [evalO] at h; exact constAV_ok h
  | global g => simp [evalO] at h
  | func f =>
    simp only [evalO, Option.some.injEq] at h
    subst h
    exact .fn f [] #[] (fun _ => undef) rfl (fun j c hj => by simp at hj) (fun j c hj => by simp at hj)
abbrev keysOf (gd : Option (Gd L)) : List (Nat × Bool) := gdKeys gd
def leafOf (gd : Option (Gd L)) : Option L := gd.map (·.c)
def GdOk (tmps : Array Value) : Option (Gd L) → Prop
  | none => True
  | some gd => ∃ k r, gd.keys = k :: r ∧ ∃ b, gd.c.bool = some b ∧ (b = true ↔ tmps[k.1]? = some (.bool k.2)) ∧ (b = true → Hold tmps gd.keys)
def On (gd : Option (Gd L)) : Prop := ∀ c, leafOf gd = some c → c.bool = some true
theorem rel_put {st st' : St L} {a : Act} {w w' : World} {gd : Option (Gd L)} {d : Nat} {x : AV L} {u : Value} (hd : d < nt) (hde : a.defers = []) (hsz : a.tmps.size = nt) (hgd : GdOk a.tmps gd) (hon : On gd)
    (hself : ∀ k ∈ keysOf gd, k.1 ≠ d) (henv : st'.env = st.env) (hgnv : st'.gnv = st.gnv)
    {g g' : G} (he : EnvR P I φ st g w st.env a.tmps) (hn : GnvR P I φ st g w st.gnv a.tmps) (hp : Pass P I φ st g w st' g' w') (hi : Inv P I φ β st' g' w') (hx : ARep P I φ st' g' w' x u) :
    RelG P I φ β nt (putE st' gd d x) g' (a.put (some d) u) w' := by
  have hdt : d < a.tmps.size := by omega
  have hsplit : ∀ s v, (a.tmps.setIfInBounds d u)[s]? = some v ↔ (s = d ∧ v = u) ∨ (s ≠ d ∧ a.tmps[s]? = some v) := by
    intro s v
    by_cases h : s = d
    · subst h; simp [hdt, eq_comm]
    · rw [Array.getElem?_setIfInBounds_ne (Ne.symm h)]; simp [h]
  have hg1 : ∀ gnv, (∀ e ∈ gnv, e ∈ scrubG d st'.gnv) → GnvR P I φ st' g' w' gnv (a.tmps.setIfInBounds d u) := by
    intro gnv hsub s k b y hm
    obtain ⟨h1, h2, h3⟩ := mem_scrubG (hsub _ hm)
    simp only at h2 h3
    rw [hgnv] at h1
    obtain ⟨v, hv, hr, hu⟩ := (hn.pass hp) s k b y h1
    have hk : (a.tmps.setIfInBounds d u)[k]? = a.tmps[k]? := by rw [Array.getElem?_setIfInBounds_ne (Ne.symm h3)]
    exact ⟨v, by rw [Array.getElem?_setIfInBounds_ne (Ne.symm h2)]; exact hv, by rw [hk]; exact hr, by rw [hk]; exact hu⟩
  have he1 : EnvR P I φ st' g' w' st'.env a.tmps := by rw [henv]; exact he.pass hp
  have lift : ∀ env' gnv', EnvR P I φ st' g' w' env' (a.tmps.setIfInBounds d u) → GnvR P I φ st' g' w' gnv' (a.tmps.setIfInBounds d u) →
      RelG P I φ β nt { st' with env := env', gnv := gnv' } g' (a.put (some d) u) w' := by
    intro env' gnv' h1 h2
    refine ⟨by simpa [Act.put] using hde, by simpa [Act.put] using hsz, hi.env env' gnv', ?_, ?_⟩
    · intro s y hs
      obtain ⟨v, hv, hr⟩ := h1 s y hs
      exact ⟨v, hv, hr.env env' gnv'⟩
    · intro s k b y hs
      obtain ⟨v, hv, hr, hu⟩ := h2 s k b y hs
      exact ⟨v, hv, fun hk => (hr hk).env env' gnv', hu⟩
  have hdel : EnvR P I φ st' g' w' (del d st'.env) (a.tmps.setIfInBounds d u) := by
    intro s y hs
    rw [get_del] at hs
    split at hs
    · cases hs
    · rename_i hsd
      obtain ⟨v, hv, hr⟩ := he1 s y hs
      exact ⟨v, by rw [Array.getElem?_setIfInBounds_ne (Ne.symm hsd)]; exact hv, hr⟩
  cases gd with
  | none =>
    simp only [putE]
    exact lift _ _ (he1.put hdt hx) (hg1 _ fun e he => he)
  | some gd =>
    obtain ⟨k, r, hks, b, hb, hiff, hhold⟩ := hgd
    simp only [putE, hks]
    refine lift _ _ hdel ?_
    intro s k' b' y hm
    rcases List.mem_cons.1 hm with hm | hm
    · simp only [Prod.mk.injEq] at hm
      obtain ⟨rfl, rfl, rfl⟩ := hm
      refine ⟨u, (hsplit s u).2 (.inl ⟨rfl, rfl⟩), fun _ => hx, fun hne => absurd ?_ hne⟩
      have hbt : b = true := by
        have := hon gd.c rfl
        rw [hb] at this
        simpa using this
      have hk := hiff.1 hbt
      have hkd : k'  ≠ s := hself (k', b') (by simp [gdKeys, hks])
      rw [Array.getElem?_setIfInBounds_ne (Ne.symm hkd)]
      exact hk
    · exact hg1 _ (fun e he => he) s k' b' y hm
theorem rel_skip {st st' : St L} {a : Act} {w : World} {gd : Gd L} {d : Nat} {x : AV L} (hd : d < nt) (hde : a.defers = []) (hsz : a.tmps.size = nt) (hgd : GdOk a.tmps (some gd)) (hoff : gd.c.bool = some false)
    (hself : ∀ k ∈ gd.keys, k.1 ≠ d) (henv : st'.env = st.env) (hgnv : st'.gnv = st.gnv)
    {g g' : G} (he : EnvR P I φ st g w st.env a.tmps) (hn : GnvR P I φ st g w st.gnv a.tmps) (hp : Pass P I φ st g w st' g' w) (hi : Inv P I φ β st' g' w) :
    RelG P I φ β nt (putE st' (some gd) d x) g' (a.put (some d) undef) w := by
  have hdt : d < a.tmps.size := by omega
  have hg1 : ∀ gnv, (∀ e ∈ gnv, e ∈ scrubG d st'.gnv) → GnvR P I φ st' g' w gnv (a.tmps.setIfInBounds d undef) := by
    intro gnv hsub s k b y hm
    obtain ⟨h1, h2, h3⟩ := mem_scrubG (hsub _ hm)
    simp only at h2 h3
    rw [hgnv] at h1
    obtain ⟨v, hv, hr, hu⟩ := (hn.pass hp) s k b y h1
    have hk : (a.tmps.setIfInBounds d undef)[k]? = a.tmps[k]? := by rw [Array.getElem?_setIfInBounds_ne (Ne.symm h3)]
    exact ⟨v, by rw [Array.getElem?_setIfInBounds_ne (Ne.symm h2)]; exact hv, by rw [hk]; exact hr, by rw [hk]; exact hu⟩
  have he1 : EnvR P I φ st' g' w st'.env a.tmps := by rw [henv]; exact he.pass hp
  have hdel : EnvR P I φ st' g' w (del d st'.env) (a.tmps.setIfInBounds d undef) := by
    intro s y hs
    rw [get_del] at hs
    split at hs
    · cases hs
    · rename_i hsd
      obtain ⟨v, hv, hr⟩ := he1 s y hs
      exact ⟨v, by rw [Array.getElem?_setIfInBounds_ne (Ne.symm hsd)]; exact hv, hr⟩
  obtain ⟨k, r, hks, b, hb, hiff, hhold⟩ := hgd
  simp only [putE, hks]
  refine ⟨by simpa [Act.put] using hde, by simpa [Act.put] using hsz, hi.env _ _, ?_, ?_⟩
  · intro s y hs
    obtain ⟨v, hv, hr⟩ := hdel s y hs
    exact ⟨v, hv, hr.env _ _⟩
  · intro s k' b' y hm
    rcases List.mem_cons.1 hm with hm | hm
    · simp only [Prod.mk.injEq] at hm
      obtain ⟨rfl, rfl, rfl⟩ := hm
      refine ⟨undef, by simp [Act.put, hdt], fun hk => absurd hk ?_, fun _ => rfl⟩
      have hkd : k' ≠ s := hself (k', b') (by simp [hks])
      simp only [Act.put]
      rw [Array.getElem?_setIfInBounds_ne (Ne.symm hkd)]
      intro hk
      have := hiff.2 hk
      rw [hoff, Option.some.injEq] at hb
      rw [← hb] at this
      cases this
    · obtain ⟨v, hv, hr, hu⟩ := hg1 _ (fun e he => he) s k' b' y hm
      exact ⟨v, hv, fun hk => (hr hk).env _ _, hu⟩
theorem fitG_ty {want : Bool} {c c' : L} (h : @fitG L (semL cs) want c = some c') : ∃ val : Bool, c = ⟨.bool, val⟩ ∧ c'.bool = some (val == want) := by
  obtain ⟨ty, val⟩ := c
  cases ty with
  | bool =>
    refine ⟨val, rfl, ?_⟩
    cases want with
    | true =>
      have h : (some ⟨.bool, val⟩ : Option L) = some c' := h
      simp only [Option.some.injEq] at h
      subst h
      cases val <;> rfl
    | false =>
      have h : (some (mkB (!val)) : Option L) = some c' := h
      simp only [Option.some.injEq] at h
      subst h
      cases val <;> rfl
  | _ => cases h
theorem fitG_ok {want : Bool} {c c' : L} {w : World} {F : Nat → Prop} {v : Value} (hr : RepT P w F (trL I φ c) v) (h : @fitG L (semL cs) want c = some c') : ∃ b, v = .bool b ∧ c'.bool = some (b == want) := by
  obtain ⟨val, rfl, h2⟩ := fitG_ty h
  cases hr
  exact ⟨val, rfl, h2⟩
theorem guardG_ok {st : St L} {g : G} {w : World} {tmps : Array Value} (he : EnvR P I φ st g w st.env tmps) (hg : GnvR P I φ st g w st.gnv tmps) :
    ∀ (n d : Nat) (want : Bool) (gd : Gd L), @guardG L (semL cs) st n d want = some gd → GdOk tmps (some gd) ∧ ∃ r, gd.keys = (d, want) :: r := by
  intro n
  induction n with
  | zero => intro d want gd h; simp [guardG] at h
  | succ n ih =>
    intro d want gd h
    simp only [guardG] at h
    split at h
    · rename_i c hc
      obtain ⟨u, hu, hr⟩ := he d _ hc
      cases hr with
      | lf _ _ hr =>
        split at h
        · rename_i c' hc'
          simp only [Option.some.injEq] at h
          subst h
          obtain ⟨b, rfl, hb⟩ := fitG_ok hr hc'
          refine ⟨⟨(d, want), [], rfl, b == want, hb, ?_, ?_⟩, [], rfl⟩
          · simp only [hu, Option.some.injEq, Value.bool.injEq, beq_iff_eq]
          · intro hbw k hk
            simp only [List.mem_singleton] at hk
            subst hk
            simp only [hu, Option.some.injEq, Value.bool.injEq]
            simpa using hbw
        · cases h
    · cases h
    · split at h
      · rename_i k c hc
        split at h
        · rename_i p c' hp hc'
          split at h
          · rename_i x hx
            simp only [Option.some.injEq] at h
            subst h
            obtain ⟨⟨k1, r1, hk1, b1, hb1, hiff, hhold⟩, r2, hr2⟩ := ih k.1 k.2 p hp
            obtain ⟨u, hu, hr, hun⟩ := hg d k.1 k.2 _ (mem_of_get hc)
            rw [hr2] at hk1
            simp only [List.cons.injEq] at hk1
            obtain ⟨rfl, rfl⟩ := hk1
            refine ⟨⟨(d, want), p.keys, rfl, ?_⟩, p.keys, rfl⟩
            have hand : ∀ b2, c'.bool = some b2 → x.bool = some (b1 && b2) := by
              intro b2 h2
              have hx : (match p.c.bool, c'.bool with | some a, some b => some (mkB (a && b)) | _, _ => none) = some x := hx
              rw [hb1, h2] at hx
              simp only [Option.some.injEq] at hx
              subst hx
              rfl
            cases hb1' : b1 with
            | true =>
              subst hb1'
              have hk := hiff.1 rfl
              have hr' := hr hk
              cases hr' with
              | lf _ _ hr' =>
                obtain ⟨b, rfl, hb⟩ := fitG_ok hr' hc'
                refine ⟨true && (b == want), hand _ hb, ?_, ?_⟩
                · simp only [hu, Option.some.injEq, Value.bool.injEq, Bool.true_and, beq_iff_eq]
                · intro hbw k' hk'
                  simp only [Bool.true_and, beq_iff_eq] at hbw
                  rcases List.mem_cons.1 hk' with rfl | hk'
                  · simp only [hu, Option.some.injEq, Value.bool.injEq]; exact hbw
                  · exact hhold rfl k' hk'
            | false =>
              subst hb1'
              have hu' : u = undef := hun fun hk => by have := hiff.2 hk; cases this
              have hcb : ∃ b2, c'.bool = some b2 := by
                obtain ⟨val, _, h2⟩ := fitG_ty hc'
                exact ⟨_, h2⟩
              obtain ⟨b2, hb2⟩ := hcb
              refine ⟨false && b2, hand _ hb2, ?_, fun h => by cases h⟩
              simp only [hu, hu', Bool.false_and, Bool.false_eq_true, false_iff, Option.some.injEq]
              intro h
              cases h
          · cases h
        · cases h
      · cases h
end Go.Y
namespace Go.Y
open Go.Eng (T RepT RepM SRep Kept Base G SameOn VRep Split Live Free)
variable {P : Program} {I : Ids} {φ : FnP} {β : Base} {nt : Nat} {cs : List (Nat × Con)}
structure Does (P : Program) (I : Ids) (φ : FnP) (β : Base) (nt : Nat) (o : Oper) (st : St L) (gd : Option (Gd L)) (st' : St L) : Prop where
  run : ∀ a w g, RelG P I φ β nt st g a w → GdOk a.tmps gd → On gd → ∀ K Q, (∀ a' w' g', Pass P I φ st g w st' g' w' → RelG P I φ β nt st' g' a' w' → (∀ s, o.dst ≠ some s → a'.tmps[s]? = a.tmps[s]?) → K a' w') → o.wp P a w K Q
  skip : ∀ a w g gd', gd = some gd' → RelG P I φ β nt st g a w → GdOk a.tmps gd → gd'.c.bool = some false → ∃ g', Pass P I φ st g w st' g' w ∧ RelG P I φ β nt st' g' (a.put o.dst undef) w
theorem put_ne (a : Act) {d : Option Nat} (u : Value) {s : Nat} (h : d ≠ some s) : (a.put d u).tmps[s]? = a.tmps[s]? := by
  cases d with
  | none => rfl
  | some d =>
    simp only [Act.put]
    rw [Array.getElem?_setIfInBounds_ne (fun e => h (by rw [e]))]
theorem putE_sto (st : St L) (gd : Option (Gd L)) (d : Nat) (x : AV L) : (putE st gd d x).sto = st.sto := by
  unfold putE
  split
  · rfl
  · split <;> rfl
theorem Pass.env {st st' : St L} {g g' : G} {w w' : World} (h : Pass P I φ st g w st' g' w') (env' : List (Nat × AV L)) (gnv' : List (Nat × (Nat × Bool) × AV L)) : Pass P I φ st g w { st' with env := env', gnv := gnv' } g' w' :=
  ⟨fun x u hx => (h.a x u hx).env env' gnv', h.F, h.same, h.size⟩
theorem Pass.putE {st st' : St L} {g g' : G} {w w' : World} (h : Pass P I φ st g w st' g' w') (gd : Option (Gd L)) (d : Nat) (x : AV L) : Pass P I φ st g w (putE st' gd d x) g' w' := by
  unfold Go.Y.putE
  split
  · exact h.env _ _
  · split
    · exact h.env _ _
    · exact h.env _ _
theorem hold_of {tmps : Array Value} {gd : Option (Gd L)} (h : GdOk tmps gd) (hon : On gd) : Hold tmps (keysOf gd) := by
  cases gd with
  | none => intro k hk; simp [gdKeys] at hk
  | some gd =>
    obtain ⟨k, r, hks, b, hb, _, hh⟩ := h
    have : b = true := by have := hon gd.c rfl; rw [hb] at this; simpa using this
    exact hh this
theorem selfOk_iff {gd : Option (Gd L)} {d : Nat} (h : selfOk gd (some d) = true) : ∀ k ∈ keysOf gd, k.1 ≠ d := by
  intro k hk
  cases gd with
  | none => simp [gdKeys] at hk
  | some gd =>
    simp only [selfOk, List.all_eq_true] at h
    have := h k hk
    intro e
    rw [e, Nat.beq_refl] at this
    cases this
theorem does_val {o : Oper} {st st1 : St L} {gd : Option (Gd L)} {d : Nat} {x : AV L} (hdst : o.dst = some d) (hd : d < nt) (hself : selfOk gd o.dst = true) (henv : st1.env = st.env) (hgnv : st1.gnv = st.gnv)
    (hrun : ∀ (a : Act) (w : World) (g : G), Inv P I φ β st g w → EnvR P I φ st g w st.env a.tmps → GnvR P I φ st g w st.gnv a.tmps → Hold a.tmps (keysOf gd) → On gd → ∃ u w' g', (execOp a.eval o).run P w = .ok (.value u) w' ∧
      Pass P I φ st g w st1 g' w' ∧ Inv P I φ β st1 g' w' ∧ ARep P I φ st1 g' w' x u)
    (hskip : ∀ (w : World) (g : G), Inv P I φ β st g w → ∃ g', Pass P I φ st g w st1 g' w ∧ Inv P I φ β st1 g' w) : Does P I φ β nt o st gd (putE st1 gd d x) := by
  rw [hdst] at hself
  refine ⟨fun a w g hR hG hon K Q hK => ?_, fun a w g gd' hgd hR hG hoff => ?_⟩
  · obtain ⟨u, w', g', h1, h2, h3, h4⟩ := hrun a w g hR.i hR.e hR.n (hold_of hG hon) hon
    unfold Oper.wp
    rw [h1, Oper.upon_value, hdst]
    exact hK _ _ g' (h2.putE _ _ _) (rel_put hd hR.defers hR.size hG hon (selfOk_iff hself) henv hgnv hR.e hR.n h2 h3 h4) fun s hs => put_ne a u (by rw [← hdst]; exact hs)
  · subst hgd
    obtain ⟨g', h2, h3⟩ := hskip w g hR.i
    rw [hdst]
    exact ⟨g', h2.putE _ _ _, rel_skip hd hR.defers hR.size hG hoff (selfOk_iff hself) henv hgnv hR.e hR.n h2 h3⟩
theorem does_pure {o : Oper} {st : St L} {gd : Option (Gd L)} {d : Nat} {x : AV L} (hdst : o.dst = some d) (hd : d < nt) (hself : selfOk gd o.dst = true)
    (hrun : ∀ (a : Act) (w : World) (g : G), Inv P I φ β st g w → EnvR P I φ st g w st.env a.tmps → GnvR P I φ st g w st.gnv a.tmps → Hold a.tmps (keysOf gd) → On gd → ∃ u, (execOp a.eval o).run P w = .ok (.value u) w ∧
      ARep P I φ st g w x u) : Does P I φ β nt o st gd (putE st gd d x) :=
  does_val hdst hd hself rfl rfl (fun a w g hi he hn hh hon => by
    obtain ⟨u, h1, h2⟩ := hrun a w g hi he hn hh hon
    exact ⟨u, w, g, h1, Pass.refl _ _ _, hi, h2⟩) (fun w g hi => ⟨g, Pass.refl _ _ _, hi⟩)
theorem does_none {o : Oper} {st : St L} {gd : Option (Gd L)} (hdst : o.dst = none)
    (hrun : ∀ (a : Act) (w : World) (g : G), Inv P I φ β st g w → EnvR P I φ st g w st.env a.tmps → GnvR P I φ st g w st.gnv a.tmps → Hold a.tmps (keysOf gd) → On gd → ∃ u, (execOp a.eval o).run P w = .ok (.value u) w) : Does P I φ β nt o st gd st := by
  refine ⟨fun a w g hR hG hon K Q hK => ?_, fun a w g gd' hgd hR hG hoff => by rw [hdst]; exact ⟨g, Pass.refl _ _ _, hR⟩⟩
  obtain ⟨u, h1⟩ := hrun a w g hR.i hR.e hR.n (hold_of hG hon) hon
  unfold Oper.wp
  rw [h1, Oper.upon_value, hdst]
  exact hK _ _ g (Pass.refl _ _ _) hR fun s hs => rfl
section words
variable {ρ : Type} {ls : List (Nat × LoopC ρ)} {r : ρ}
theorem oCase_some {α : Type} {o : Option α} {w : String} {f : α → Option ρ} (h : oCase o w f = some r) : ∃ x, o = some x ∧ f x = some r := by
  cases o with
  | none => cases h
  | some x => exact ⟨x, rfl, h⟩
def OnL (g : Option L) : Prop := ∀ c, g = some c → c.bool = some true
theorem check_some {g : Option L} {c : L} {k : Option ρ} (h : @RAlg.check L (Option ρ) (semR ρ cs ls) g c k = some r) : k = some r ∧ ∃ b, c.bool = some b ∧ (OnL g → b = true) := by
  cases hc : c.bool with
  | none =>
    cases g <;> (simp only [RAlg.check, hc] at h; cases h)
  | some b =>
    cases g with
    | none =>
      simp only [RAlg.check, hc] at h
      cases b with
      | true => exact ⟨h, true, rfl, fun _ => rfl⟩
      | false => cases h
    | some g =>
      simp only [RAlg.check, hc] at h
      cases hg : g.bool with
      | none => rw [hg] at h; cases h
      | some gb =>
        rw [hg] at h
        simp only at h
        cases gb with
        | true =>
          cases b with
          | true => exact ⟨h, true, rfl, fun _ => rfl⟩
          | false => cases h
        | false =>
          refine ⟨?_, b, rfl, fun hon => ?_⟩
          · cases b <;> exact h
          · have := hon g rfl
            rw [hg] at this
            cases this
theorem int_some {v : L} {k : IntKind} {n : Int} (h : v.int = some (k, n)) : v = ⟨.int k, n⟩ := by
  obtain ⟨ty, val⟩ := v
  cases ty with
  | int k' =>
    simp only [L.int, Option.some.injEq, Prod.mk.injEq] at h
    obtain ⟨rfl, rfl⟩ := h
    rfl
  | _ => cases h
theorem bool_some {v : L} {b : Bool} (h : v.bool = some b) : v = ⟨.bool, b⟩ := by
  obtain ⟨ty, val⟩ := v
  cases ty with
  | bool =>
    simp only [L.bool, Option.some.injEq] at h
    subst h
    rfl
  | _ => cases h
theorem as_some {v : L} {A : Ty} {x : A.den} (h : v.as A = some x) : v = ⟨A, x⟩ := by
  obtain ⟨ty, val⟩ := v
  unfold L.as at h
  split at h
  · rename_i h1 h2
    simp only at h1
    subst h1
    simp only [Option.some.injEq] at h
    subst h
    rfl
  · cases h
theorem idx_some {g : Option L} {xs i : L} {f : L → Option ρ} (h : @RAlg.idx L (Option ρ) (semR ρ cs ls) g xs i f = some r) :
    ∃ e a l k n x, xs = ⟨.sl e a, l⟩ ∧ i = ⟨.int k, n⟩ ∧ f ⟨a, x⟩ = some r ∧ (OnL g → 0 ≤ n ∧ (l : List a.den)[n.toNat]? = some x) := by
  cases hi : i.int with
  | none =>
    simp only [RAlg.idx, hi] at h
    cases h
  | some p =>
    obtain ⟨k, n⟩ := p
    obtain ⟨ty, val⟩ := xs
    cases ty with
    | sl e a =>
      have hix : ∀ x, ix (val : List a.den) n = some x → 0 ≤ n ∧ (val : List a.den)[n.toNat]? = some x := by
        intro x hx
        unfold ix at hx
        by_cases hn : 0 ≤ n
        · simp only [hn, decide_true] at hx; exact ⟨hn, hx⟩
        · simp only [hn, decide_false] at hx; cases hx
      simp only [RAlg.idx, hi] at h
      cases g with
      | none =>
        simp only [pIdx, Option.bind_eq_some_iff] at h
        obtain ⟨x, h1, h2⟩ := h
        exact ⟨e, a, val, k, n, x, rfl, int_some hi, h2, fun _ => hix x h1⟩
      | some g =>
        simp only at h
        cases hg : g.bool with
        | none => rw [hg] at h; cases h
        | some gb =>
          rw [hg] at h
          simp only [pIdxG, Option.bind_eq_some_iff] at h
          obtain ⟨x, h1, h2⟩ := h
          refine ⟨e, a, val, k, n, x, rfl, int_some hi, h2, fun hon => ?_⟩
          have := hon g rfl
          rw [hg, Option.some.injEq] at this
          subst this
          exact hix x h1
    | _ => simp only [RAlg.idx, hi] at h; cases h
theorem onL_of {gd : Option (Gd L)} (h : On gd) : OnL (gd.map (·.c)) := h
end words
section pure
variable {ρ : Type} {ls : List (Nat × LoopC ρ)} {r : ρ} {tb : Tabs} {st : St L} {gd : Option (Gd L)} {k : St L → Option ρ} {o : Oper}
theorem op_move {x : Operand} (ho : o.op = .move x ∨ o.op = .assign x) (hd : ∀ d, o.dst = some d → d < nt) (hself : selfOk gd o.dst = true)
    (h : @opK L (Option ρ) (semL cs) (semF ρ) (semR ρ cs ls) tb st gd o.dst o.type o.op k = some r) : ∃ st', k st' = some r ∧ Does P I φ β nt o st gd st' := by
  have h' : @oCase (Option ρ) (semF ρ) _ (@evalO L (semL cs) tb st (keysOf gd) o.type x) "operand" (fun y => match o.dst with | some d => k (putE st gd d y) | none => k st) = some r := by
    rcases ho with ho | ho <;> (rw [ho] at h; simp only [opK] at h; exact h)
  obtain ⟨y, h1, h2⟩ := oCase_some h'
  have hex : ∀ (a : Act) (w : World), (execOp a.eval o).run P w = .ok (.value (a.eval x)) w := by
    intro a w
    unfold execOp
    rcases ho with ho | ho <;> (rw [ho]; rfl)
  cases hdst : o.dst with
  | none => rw [hdst] at h2; exact ⟨st, h2, does_none hdst fun a w g _ _ _ _ _ => ⟨_, hex a w⟩⟩
  | some d =>
    rw [hdst] at h2
    exact ⟨_, h2, does_pure hdst (hd d hdst) hself fun a w g hi he hn hh _ => ⟨_, hex a w, evalO_ok he hn hh h1⟩⟩
theorem ret_case {y : AV L} (h : (match o.dst with | some d => k (putE st gd d y) | none => k st) = some r) (hd : ∀ d, o.dst = some d → d < nt) (hself : selfOk gd o.dst = true)
    (hrun : ∀ (a : Act) (w : World) (g : G), Inv P I φ β st g w → EnvR P I φ st g w st.env a.tmps → GnvR P I φ st g w st.gnv a.tmps → Hold a.tmps (keysOf gd) → On gd → ∃ u, (execOp a.eval o).run P w = .ok (.value u) w ∧ ARep P I φ st g w y u) :
    ∃ st', k st' = some r ∧ Does P I φ β nt o st gd st' := by
  cases hdst : o.dst with
  | none =>
    rw [hdst] at h
    exact ⟨st, h, does_none hdst fun a w g hi he hn hh hon => by obtain ⟨u, h1, _⟩ := hrun a w g hi he hn hh hon; exact ⟨u, h1⟩⟩
  | some d => rw [hdst] at h; exact ⟨_, h, does_pure hdst (hd d hdst) hself hrun⟩
theorem arep_lf {g : G} {w : World} {v : L} {u : Value} (h : ARep P I φ st g w (.lf v) u) : RepT P w g.F (trL I φ v) u := by cases h; assumption
theorem op_pick {c x y : Operand} (ho : o.op = .pick c x y) (hd : ∀ d, o.dst = some d → d < nt) (hself : selfOk gd o.dst = true)
    (h : @opK L (Option ρ) (semL cs) (semF ρ) (semR ρ cs ls) tb st gd o.dst o.type o.op k = some r) : ∃ st', k st' = some r ∧ Does P I φ β nt o st gd st' := by
  rw [ho] at h
  cases c with
  | tmp dc =>
    simp only [opK] at h
    obtain ⟨cv, hc, h⟩ := oCase_some h
    obtain ⟨xv, hx, h⟩ := oCase_some h
    obtain ⟨yv, hy, h⟩ := oCase_some h
    split at h
    · rename_i c a b _ _
      obtain ⟨v, hv, h⟩ := oCase_some h
      have h : (match o.dst with | some d => k (putE st gd d (.lf ⟨v.ty, v.val⟩)) | none => k st) = some r := h
      refine ret_case h hd hself fun ac w g hi he hn hh hon => ?_
      have hcr := arep_lf (evalO_ok (P := P) (I := I) (φ := φ) (g := g) (w := w) he hn hh hc)
      have hv' : pickL c a b = some v := hv
      unfold pickL at hv'
      cases hcb : c.bool with
      | none => rw [hcb] at hv'; cases hv'
      | some cb =>
        rw [hcb] at hv'
        simp only at hv'
        cases hba : b.as a.ty with
        | none => rw [hba] at hv'; cases hv'
        | some ya =>
          rw [hba] at hv'
          simp only [Option.some.injEq] at hv'
          subst hv'
          rw [bool_some hcb] at hcr
          have hcu : ac.eval (.tmp dc) = .bool cb := by
            generalize ac.eval (.tmp dc) = uu at hcr
            cases hcr
            rfl
          have htmp : ac.tmps[dc]? = some (.bool cb) := by
            simp only [Act.eval, Array.getD_eq_getD_getElem?] at hcu
            cases h5 : ac.tmps[dc]? with
            | none => rw [h5] at hcu; simp [undef] at hcu
            | some vv => rw [h5] at hcu; simpa using hcu
          have hbe := as_some hba
          subst hbe
          cases cb with
          | true =>
            refine ⟨ac.eval x, ?_, ?_⟩
            · unfold execOp
              simp only [ho, hcu, asBool, Sem.run_bind, Sem.run_pure, Result.andThen_ok, if_true]
            · refine evalO_ok he hn (fun kk hk => ?_) hx
              rcases List.mem_cons.1 hk with rfl | hk
              · exact htmp
              · exact hh kk hk
          | false =>
            refine ⟨ac.eval y, ?_, ?_⟩
            · unfold execOp
              simp only [ho, hcu, asBool, Sem.run_bind, Sem.run_pure, Result.andThen_ok, Bool.false_eq_true, if_false]
            · refine evalO_ok he hn (fun kk hk => ?_) hy
              rcases List.mem_cons.1 hk with rfl | hk
              · exact htmp
              · exact hh kk hk
    · cases h
  | const v => simp only [opK] at h; cases h
  | global v => simp only [opK] at h; cases h
  | func v => simp only [opK] at h; cases h
end pure
end Go.Y
