/- What the proof of the statement stands on, part 1. -/
import Derived.Test.YtmdeiacjehhcoaaDoorA0
import Derived.Laws.StructEq
import Derived.Laws.Pointers
import Derived.WideLaws
import Derived.Laws.BytesString
import Derived.Laws.Tables
import Derived.DataBytes
import Derived.Laws.MakeOwn
set_option linter.unusedVariables false
set_option linter.unusedSimpArgs false
namespace Go.Y
open Go.Eng (T RepT RepM SRep Kept Base G SameOn VRep Split Live Free)
variable {P : Program} {I : Ids} {φ : FnP} {β : Base} {nt : Nat} {cs : List (Nat × Con)}
theorem repI {w : World} {F : Nat → Prop} {k : IntKind} {n : Int} {u : Value} (h : RepT P w F (trL I φ ⟨.int k, n⟩) u) : u = .int k n := by cases h; rfl
theorem repB {w : World} {F : Nat → Prop} {b : Bool} {u : Value} (h : RepT P w F (trL I φ ⟨.bool, b⟩) u) : u = .bool b := by cases h; rfl
theorem repS {w : World} {F : Nat → Prop} {s : List UInt8} {u : Value} (h : RepT P w F (trL I φ ⟨.str, s⟩) u) : u = .string ⟨s.toArray⟩ := by cases h; rfl
theorem repI' {w : World} {F : Nat → Prop} (k : IntKind) (n : Int) : RepT P w F (trL I φ (mkI k n)) (.int k n) := .i k n
theorem repB' {w : World} {F : Nat → Prop} (b : Bool) : RepT P w F (trL I φ (mkB b)) (.bool b) := .b b
theorem repS' {w : World} {F : Nat → Prop} (s : List UInt8) : RepT P w F (trL I φ ⟨.str, s⟩) (.string ⟨s.toArray⟩) := .s _
theorem run_guard_int {op : BinOp} {t : TypeId} {x y : Operand} {k k' : IntKind} {a b : Int} {w : World} : (eqGuard op t x y (.int k a) (.int k' b)).run P w = .ok () w := by
  unfold eqGuard
  cases op <;> simp [Sem.run_bind, Sem.run_pure]
theorem run_guard_bool {op : BinOp} {t : TypeId} {x y : Operand} {a b : Bool} {w : World} : (eqGuard op t x y (.bool a) (.bool b)).run P w = .ok () w := by
  unfold eqGuard
  cases op <;> simp [Sem.run_bind, Sem.run_pure]
theorem run_guard_str {op : BinOp} {t : TypeId} {x y : Operand} {a b : ByteArray} {w : World} : (eqGuard op t x y (.string a) (.string b)).run P w = .ok () w := by
  unfold eqGuard
  cases op <;> simp [Sem.run_bind, Sem.run_pure]
def asksI (op : BinOp) (b : Int) : Prop :=
  match op with
  | .quo | .rem => b ≠ 0
  | .shl | .shr => 0 ≤ b
  | _ => True
theorem run_binI {op : BinOp} {t : TypeId} {k k' : IntKind} {a b : Int} {v : L} (h : binI2 op k k' a b = some v) (ha : asksI op b) (w : World) :
    ∃ u, (binOp op t (.int k a) (.int k' b)).run P w = .ok u w ∧ ∀ F, RepT P w F (trL I φ v) u := by
  unfold binI2 at h
  cases op with
  | shl =>
    simp only [Option.some.injEq] at h; subst h
    have hb : ¬ b < 0 := by simp only [asksI] at ha; omega
    exact ⟨_, by simp only [binOp, Op.shift, if_neg hb, Sem.run_pure]; rfl, fun F => repI' _ _⟩
  | shr =>
    simp only [Option.some.injEq] at h; subst h
    have hb : ¬ b < 0 := by simp only [asksI] at ha; omega
    exact ⟨_, by simp only [binOp, Op.shift, if_neg hb, Sem.run_pure]; rfl, fun F => repI' _ _⟩
  | _ =>
    simp only at h
    by_cases hk : k = k'
    · subst hk
      simp only [decide_true, binI] at h
      first
        | (cases h; done)
        | (simp only [Option.some.injEq] at h; subst h
           simp only [asksI] at ha
           first
             | exact ⟨_, by simp only [binOp, ne_eq, not_true_eq_false, if_false, Op.intArith, Sem.run_pure]; rfl, fun F => repI' _ _⟩
             | exact ⟨_, by simp only [binOp, ne_eq, not_true_eq_false, if_false, Op.intBits, Sem.run_pure]; rfl, fun F => repI' _ _⟩
             | exact ⟨_, by simp only [binOp, ne_eq, not_true_eq_false, if_false, Op.intDiv, if_neg ha, Sem.run_pure]; rfl, fun F => repI' _ _⟩
             | (refine ⟨_, by simp only [binOp, ne_eq, not_true_eq_false, if_false, Op.intCmp, Sem.run_pure]; rfl, fun F => ?_⟩
                have : ∀ b1 b2 : Bool, b1 = b2 → RepT P w F (trL I φ (mkB b1)) (.bool b2) := fun b1 b2 e => by subst e; exact repB' _
                refine this _ _ ?_
                first
                  | rfl
                  | (by_cases hab : a = b <;> simp [hab])))
    · simp only [decide_eq_false hk] at h; cases h
theorem toList_mk (s : List UInt8) : (⟨s.toArray⟩ : ByteArray).toList = s := by
  have : ∀ b : ByteArray, b.toList = b.data.toList := by
    intro b
    have loop : ∀ (n i : Nat) (r : List UInt8), b.size - i = n → ByteArray.toList.loop b i r = r.reverse ++ b.data.toList.drop i := by
      intro n
      induction n with
      | zero =>
        intro i r hn
        unfold ByteArray.toList.loop
        rw [if_neg (by omega), List.drop_eq_nil_of_le (by simpa using (by omega : b.size ≤ i)), List.append_nil]
      | succ n ih =>
        intro i r hn
        have hi : i < b.size := by omega
        unfold ByteArray.toList.loop
        rw [if_pos hi, ih (i + 1) _ (by omega)]
        have hd : b.data.toList.drop i = b.data.toList[i]'(by simpa using hi) :: b.data.toList.drop (i + 1) := List.drop_eq_getElem_cons (by simpa using hi)
        rw [hd, List.reverse_cons, List.append_assoc]
        congr 2
        simp [ByteArray.get!, hi]
    unfold ByteArray.toList
    rw [loop _ 0 [] rfl]
    rfl
  rw [this]
section
variable {ρ : Type} {ls : List (Nat × LoopC ρ)} {r : ρ} {tb : Tabs} {st : St L} {gd : Option (Gd L)} {k : St L → Option ρ} {o : Oper}
theorem exec_bin {op : BinOp} {t u : TypeId} {x y : Operand} {a : Act} {w : World} {v : Value} (ho : o.op = .binOp op t x y u) (h1 : (eqGuard op t x y (a.eval x) (a.eval y)).run P w = .ok () w)
    (h2 : (binOp op t (a.eval x) (a.eval y)).run P w = .ok v w) : (execOp a.eval o).run P w = .ok (.value v) w := by
  unfold execOp
  simp only [ho, Sem.run_bind, h1, Result.andThen_ok, h2, Sem.run_pure]
theorem exec_un {op : UnOp} {t : TypeId} {x : Operand} {a : Act} {w : World} {v : Value} (ho : o.op = .unOp op t x) (h2 : (Op.unary op (a.eval x)).run P w = .ok v w) : (execOp a.eval o).run P w = .ok (.value v) w := by
  unfold execOp
  simp only [ho, Sem.run_bind, h2, Result.andThen_ok, Sem.run_pure]
theorem op_un {op : UnOp} {t : TypeId} {x : Operand} (ho : o.op = .unOp op t x) (hd : ∀ d, o.dst = some d → d < nt) (hself : selfOk gd o.dst = true)
    (h : @opK L (Option ρ) (semL cs) (semF ρ) (semR ρ cs ls) tb st gd o.dst o.type o.op k = some r) : ∃ st', k st' = some r ∧ Does P I φ β nt o st gd st' := by
  rw [ho] at h
  simp only [opK] at h
  obtain ⟨xv, hx, h⟩ := oCase_some h
  cases xv with
  | lf v =>
    simp only at h
    obtain ⟨z, hz, h⟩ := oCase_some h
    refine ret_case h hd hself fun a w g hi he hn hh hon => ?_
    have hr := arep_lf (evalO_ok (P := P) (I := I) (φ := φ) (g := g) (w := w) he hn hh hx)
    have hz : unL op v = some z := hz
    obtain ⟨ty, val⟩ := v
    cases op with
    | not =>
      cases ty with
      | bool =>
        have hz : some (mkB (!val)) = some z := hz
        simp only [Option.some.injEq] at hz; subst hz
        have hu := repB hr
        exact ⟨_, exec_un ho (by rw [hu]; rfl), .lf _ _ (repB' _)⟩
      | _ => cases hz
    | neg =>
      cases ty with
      | int kk =>
        have hz : some (mkI kk (wr kk (0 - val))) = some z := hz
        simp only [Option.some.injEq] at hz; subst hz
        have hu := repI hr
        exact ⟨_, exec_un ho (by rw [hu]; rfl), .lf _ _ (repI' _ _)⟩
      | _ => cases hz
    | _ => cases ty <;> cases hz
  | _ => cases h
end
end Go.Y
namespace Go.Y
open Go.Eng (T RepT RepM SRep Kept Base G SameOn VRep Split Live Free)
variable {P : Program} {I : Ids} {φ : FnP} {β : Base} {nt : Nat} {cs : List (Nat × Con)}
def FnsOk (φ : FnP) (cs : List (Nat × Con)) : Prop := ∀ f c, get cs (1000000 + f) = some c → ∀ w F, (φ c.A c.B c.F).p w F (.func (.func f) #[] #[])
theorem rep_zs {w : World} {F : Nat → Prop} {e : TypeId} {a : Ty} {u : Value} (h : u = .slice none 0 0 ∨ ∃ b, u = .slice (some b) 0 0) : RepT P w F (trL I φ ⟨.sl e a, ([] : List a.den)⟩) u := by
  rcases h with rfl | ⟨b, rfl⟩
  · exact .nsl e false
  · exact .esl e false b 0
def Seen (I : Ids) (φ : FnP) (st : St L) (g : G) (b : Nat) : Prop := g.F b ∨ Live g (injS I φ st) b
theorem peekA_ok {st : St L} {g : G} {w : World} {l : Loc L} {v : L} {u : Value} (hi : Inv P I φ β st g w) (h : @peekA L (semL cs) st l = some v) (ha : ARep P I φ st g w (.ar l) u) :
    ∃ r s d, get st.sto l.root = some r ∧ r.gen = l.gen ∧ r.cells[l.off]? = some ⟨s, .o d v⟩ ∧ s = l.stamp ∧ v.ty.isSl = true ∧ l.steps = [] ∧ Eng.rootV g w l.root (injR I φ st r) l.off = some u ∧
      ∃ B, RepM P w g.F d (trL I φ v) u B ∧ ∀ b, B b → Live g (injS I φ st) b := by
  unfold peekA at h
  split at h
  · rename_i hst
    split at h
    · rename_i s d v' hc
      split at h
      · rename_i hb
        simp only [Option.some.injEq] at h
        subst h
        simp only [Bool.and_eq_true] at hb
        obtain ⟨r, h1, h2, h3⟩ := cellAt_iff.1 hc
        have hs := (beq_iff _ _).1 hb.1
        have hV := ar_root ha h1 h2 h3 hs hb.2 hst
        have hr' : Eng.get (injS I φ st) l.root = some (injR I φ st r) := by rw [get_injS, h1]; rfl
        obtain ⟨_, Bs, hsp, hcell⟩ := hi.s.root _ _ hr'
        have hc' := injR_cell (I := I) (φ := φ) (st := st) h3
        simp only [injE] at hc'
        obtain ⟨u', hu', hrep⟩ := hcell _ _ hc'
        rw [hV, Option.some.injEq] at hu'
        subst hu'
        exact ⟨r, s, d, h1, h2, h3, hs, hb.2, hst, hV, Bs l.off, hrep, fun b hb => ⟨l.root, _, hr', (hsp.2.1 _ b hb).1⟩⟩
      · cases h
    · cases h
  · cases h
theorem RepT.seen {st : St L} {g : G} {w : World} {t : T} {u : Value} (h : RepT P w g.F t u) : RepT P w (Seen I φ st g) t u := h.mono (SameOn.refl _ w) fun _ hb => .inl hb
section
variable {ρ : Type} {r : ρ} {ls : List (Nat × LoopC ρ)}
theorem peekL_ok {st : St L} {ks : Option L} : ∀ (cs' : List (AV L)) (acc : List L) (f : List L → Option ρ), @peekK.peekL L (Option ρ) (semL cs) (semF ρ) st cs' acc f = some r →
    ∃ vs, f (acc.reverse ++ vs) = some r ∧ vs.length = cs'.length ∧ ∀ {β : Base} {g : G} {w : World}, Inv P I φ β st g w → ∀ (j : Nat) c v u, cs'[j]? = some c → vs[j]? = some v → ARep P I φ st g w c u → RepT P w (Seen I φ st g) (trL I φ v) u
  | [], acc, f, h => by
    simp only [peekK.peekL] at h
    exact ⟨[], by simpa using h, rfl, fun _ j c v u hj => by simp at hj⟩
  | c :: cs', acc, f, h => by
    have step : ∀ v0, @peekK.peekL L (Option ρ) (semL cs) (semF ρ) st cs' (v0 :: acc) f = some r → (∀ {β : Base} {g : G} {w : World}, Inv P I φ β st g w → ∀ u, ARep P I φ st g w c u → RepT P w (Seen I φ st g) (trL I φ v0) u) →
        ∃ vs, f (acc.reverse ++ vs) = some r ∧ vs.length = (c :: cs').length ∧ ∀ {β : Base} {g : G} {w : World}, Inv P I φ β st g w → ∀ (j : Nat) c1 v u, (c :: cs')[j]? = some c1 → vs[j]? = some v → ARep P I φ st g w c1 u → RepT P w (Seen I φ st g) (trL I φ v) u := by
      intro v0 h0 hr0
      obtain ⟨vs, h1, h2, h3⟩ := peekL_ok (ks := ks) cs' (v0 :: acc) f h0
      refine ⟨v0 :: vs, by simpa using h1, by simp [h2], fun {β g w} hi j c1 v u hj hv ha => ?_⟩
      cases j with
      | zero =>
        simp only [List.getElem?_cons_zero, Option.some.injEq] at hj hv
        subst hj; subst hv
        exact hr0 hi u ha
      | succ j => exact h3 hi j c1 v u (by simpa using hj) (by simpa using hv) ha
    cases c with
    | lf v => exact step v h fun _ u ha => RepT.seen (arep_lf ha)
    | tl v => exact step v h fun _ u ha => by cases ha with | tl _ _ _ hr => exact RepT.seen hr
    | zs e a => exact step _ h fun _ u ha => by cases ha with | zs _ _ _ hr => exact rep_zs hr
    | ar l =>
      simp only [peekK.peekL] at h
      obtain ⟨v, hv, h⟩ := oCase_some h
      refine step v h fun hi u ha => ?_
      obtain ⟨r1, s, d, _, _, _, _, _, _, _, B, hB, hL⟩ := peekA_ok hi hv ha
      exact (RepM.give d hB).mono (SameOn.refl _ _) fun b hb => hb.imp id (hL b)
    | _ => simp only [peekK.peekL] at h; cases h
theorem rep_agg {w : World} {F : Nat → Prop} {cs' : List (AV L)} {vs : List L} {x : L} {t : Ty} {vals : Array Value} {us : Nat → Value} (hl : vals.size = cs'.length) (hv : ∀ j c, cs'[j]? = some c → vals[j]? = some (us j))
    (hlen : vs.length = cs'.length) (hr : ∀ (j : Nat) c v, cs'[j]? = some c → vs[j]? = some v → RepT P w F (trL I φ v) (us j)) (hp : @packAll L (semL cs) t vs = some x) (ht : t.isAgg = true) :
    RepT P w F (trL I φ x) (.agg vals) := by
  obtain ⟨h1, h2⟩ := packAll_ok (I := I) (φ := φ) hp
  have h3 : trL I φ x = .ag (trcL I φ x) := tr_agg x.ty (by rw [h2, ht]) x.val
  rw [h3, ← h1]
  refine .ag _ vals us (by rw [hl, List.length_map, hlen]) (fun j t' hj => ?_) (fun j t' hj => ?_) <;>
    (rw [List.getElem?_map, Option.map_eq_some_iff] at hj
     obtain ⟨v, hv1, rfl⟩ := hj
     obtain ⟨c, hc⟩ : ∃ c, cs'[j]? = some c := by
       have := lt_of_get hv1
       exact ⟨cs'[j]'(by omega), by simp [show j < cs'.length by omega]⟩)
  · exact hv j c hc
  · exact hr j c v hc hv1
theorem peek_ok {st : St L} {ks : Option L} {x : AV L} {f : L → Option ρ} (hf : FnsOk φ cs) (h : @peekK L (Option ρ) (semL cs) (semF ρ) st ks x f = some r) :
    ∃ v, f v = some r ∧ ∀ {β : Base} {g : G} {w : World}, Inv P I φ β st g w → ∀ u, ARep P I φ st g w x u → RepT P w (Seen I φ st g) (trL I φ v) u := by
  cases x with
  | lf v => exact ⟨v, h, fun _ u ha => RepT.seen (arep_lf ha)⟩
  | tl v => exact ⟨v, h, fun _ u ha => by cases ha with | tl _ _ _ hr => exact RepT.seen hr⟩
  | zs e a => exact ⟨_, h, fun _ u ha => by cases ha with | zs _ _ _ hr => exact rep_zs hr⟩
  | ar l =>
    simp only [peekK] at h
    obtain ⟨v, hv, h⟩ := oCase_some h
    refine ⟨v, h, fun hi u ha => ?_⟩
    obtain ⟨r1, s, d, _, _, _, _, _, _, _, B, hB, hL⟩ := peekA_ok hi hv ha
    exact (RepM.give d hB).mono (SameOn.refl _ _) fun b hb => hb.imp id (hL b)
  | ag t cs' =>
    simp only [peekK] at h
    split at h
    · rename_i ht
      obtain ⟨vs, h1, h2, h3⟩ := peekL_ok (P := P) (I := I) (φ := φ) (ks := ks) cs' [] _ h
      obtain ⟨v, hv, h⟩ := oCase_some h1
      refine ⟨v, h, fun hi u ha => ?_⟩
      cases ha with
      | ag _ _ vals us hl hvv hr =>
        exact rep_agg hl hvv h2 (fun j c v0 hc hv0 => h3 hi j c v0 _ hc hv0 (hr j c hc)) (by simpa using hv) ht
    · cases h
  | fn fid cs' =>
    cases cs' with
    | nil =>
      simp only [peekK] at h
      obtain ⟨v, hv, h⟩ := oCase_some h
      refine ⟨v, h, fun hi u ha => ?_⟩
      have hv : fnL cs fid = some v := hv
      unfold fnL at hv
      split at hv
      · rename_i c hc
        simp only [Option.some.injEq] at hv
        subst hv
        cases ha with
        | fn _ _ vals us hl hvv hr =>
          have : vals = #[] := by simpa using hl
          subst this
          exact .fl _ _ (hf fid c hc _ _)
      · cases hv
    | cons c r1 => simp only [peekK] at h; cases h
  | _ => simp only [peekK] at h; cases h
end
end Go.Y
namespace Go.Y
open Go.Eng (T RepT RepM SRep Kept Base G SameOn VRep Split Live Free kn)
variable {P : Program} {I : Ids} {φ : FnP}
def hdF (P : Program) (g : TypeId → Ty → Bool) (f : Field) (a : Ty) (off : Nat) : Bool :=
  Nat.beq f.offset off && (g f.type a && (Nat.beq (P.cellsOf f.type) a.flat.length && (Eng.aggOf P f.type == a.isAgg && kn P f.type)))
def rowF (P : Program) (g : TypeId → Ty → Bool) : Nat → List Field → Ty → Bool
  | _, [], .unit => true
  | off, [f], a => a.fieldy && hdF P g f a off
  | off, f :: r, .pair a b => hdF P g f a off && rowF P g (off + a.flat.length) r b
  | _, _, _ => false
def eqT (P : Program) : Nat → TypeId → Ty → Bool
  | 0, _, _ => false
  | n + 1, t, A => match A with
    | .bool => match P.underlying t with | some .bool => true | _ => false
    | .int _ => match P.underlying t with | some (.int _) => true | _ => false
    | .str => match P.underlying t with | some .string => true | _ => false
    | .st f => match P.underlying t with
      | some (.struct fs) => !P.stoodInHeld t && (!P.eqGuardType P.depth t && (fs.toList.all (fun x => x.name != "_") && rowF P (eqT P n) 0 fs.toList f))
      | _ => false
    | _ => false
def zeroIs : List Ty → List Value → Bool
  | [], [] => true
  | .bool :: r, .bool b :: s => !b && zeroIs r s
  | .int k :: r, .int k' n :: s => decide (k = k') && (decide (n = 0) && zeroIs r s)
  | .str :: r, .string b :: s => Nat.beq b.size 0 && zeroIs r s
  | .sl _ _ :: r, .slice none n c :: s => Nat.beq n 0 && (Nat.beq c 0 && zeroIs r s)
  | .ptr _ _ :: r, .pointer none :: s => zeroIs r s
  | .err :: r, .nilIface :: s => zeroIs r s
  | _, _ => false
def fieldsAre (fs : Array Field) (l : List (Nat × TypeId)) : Bool := decide (fs.toList.map (fun f => (f.offset, f.type)) = l)
def elOk (P : Program) (e : TypeId) (a : Ty) : Bool :=
  Nat.beq (P.cellsOf e) a.flat.length && ((Eng.aggOf P e == a.isAgg) && (kn P e && (match a with
    | .int k => match P.underlying e with | some (.int k') => decide (k = k') | _ => false
    | _ => true)))
def formOk (P : Program) (t : TypeId) (i : TI) : Bool :=
  match i.ty with
  | .bool => match P.underlying t with | some .bool => true | _ => false
  | .int k => match P.underlying t with | some (.int k') => decide (k = k') | _ => false
  | .str => match P.underlying t with | some .string => true | _ => false
  | .sl e a => match P.underlying t with | some (.slice e') => Nat.beq e e' && (Nat.beq i.elem e && elOk P e a) | _ => false
  | .ptr e a => match P.underlying t with | some (.pointer e') => Nat.beq e e' && elOk P e a | _ => false
  | .err => match P.underlying t with | some (.interface _) => true | _ => false
  | .st f => match P.underlying t with
    | some (.struct fs) => fieldsAre fs i.fields && rowF P (fun _ _ => true) 0 fs.toList f
    | some (.array n e) => Nat.beq (P.cellsOf t) (n * P.cellsOf e) && (i.fields.isEmpty && Nat.beq i.elem e)
    | _ => false
  | .fn _ _ => match P.underlying t with | some (.func _ _ _) => true | _ => false
  | _ => false
def tiOk (P : Program) (I : Ids) (t : TypeId) (i : TI) : Bool :=
  (match i.ty with | .int _ => Nat.beq i.elem 0 || Nat.beq t I.errno | _ => true) && (formOk P t i && (Nat.beq i.ty.flat.length (P.cellsOf t) && (Nat.beq i.cells (P.cellsOf t) && ((i.agg == Eng.aggOf P t) && ((i.ty.isAgg == i.agg) && (kn P t && ((!i.cmp || eqT P 24 t i.ty) && (isSt i.ty || i.fields.isEmpty))))))) &&
  (match P.info? t with
    | some j => Nat.beq j.bytes i.bytes && (!i.zok || (match j.zero with
      | some z => zeroIs i.ty.flat z.cells.toList
      | none => false))
    | none => false))
where
  isSt : Ty → Bool
  | .st _ => true
  | _ => false
def TabOk (P : Program) (I : Ids) (tb : Tabs) : Prop := ∀ t i, get tb.tt t = some i → tiOk P I t i = true
def tabOk (P : Program) (I : Ids) (tb : Tabs) : Bool := go tb.tt
where go : List (Nat × TI) → Bool
  | [] => true
  | (t, i) :: r => tiOk P I t i && go r
theorem TabOk.of {tb : Tabs} (h : tabOk P I tb = true) : TabOk P I tb := by
  intro t i hg
  have : ∀ l : List (Nat × TI), tabOk.go P I l = true → ∀ t i, (t, i) ∈ l → tiOk P I t i = true := by
    intro l
    induction l with
    | nil => intro _ t i h; simp at h
    | cons p r ih =>
      obtain ⟨t0, i0⟩ := p
      intro hl t i hm
      simp only [tabOk.go, Bool.and_eq_true] at hl
      rcases List.mem_cons.1 hm with hm | hm
      · simp only [Prod.mk.injEq] at hm
        obtain ⟨rfl, rfl⟩ := hm
        exact hl.1
      · exact ih hl.2 t i hm
  exact this tb.tt h t i (mem_of_get hg)
structure TiFacts (P : Program) (I : Ids) (t : TypeId) (i : TI) : Prop where
  eno : ∀ k n, i.ty = .int k → i.elem = n + 1 → t = I.errno
  form : formOk P t i = true
  flat : i.ty.flat.length = P.cellsOf t
  cells : i.cells = P.cellsOf t
  agg : i.agg = Eng.aggOf P t
  isAgg : i.ty.isAgg = i.agg
  kn : kn P t = true
  cmp : i.cmp = true → eqT P 24 t i.ty = true
  bytes : ∃ j, P.info? t = some j ∧ j.bytes = i.bytes ∧ (i.zok = true → ∃ z, j.zero = some z ∧ zeroIs i.ty.flat z.cells.toList = true)
  flds : i.fields ≠ [] → ∃ F, i.ty = .st F
theorem ti_facts {t : TypeId} {i : TI} (h : tiOk P I t i = true) : TiFacts P I t i := by
  unfold tiOk at h
  simp only [Bool.and_eq_true] at h
  obtain ⟨h0, ⟨h1, h2, h3, h4, h5, h6, h7, h9⟩, h8⟩ := h
  refine ⟨fun k n hk hn => by
    rw [hk] at h0
    simp only [Bool.or_eq_true, beq_iff] at h0
    rcases h0 with h0 | h0
    · rw [hn] at h0; cases h0
    · exact h0, h1, (beq_iff _ _).1 h2, (beq_iff _ _).1 h3, by simpa using h4, by simpa using h5, h6, fun hc => by rw [hc] at h7; simpa using h7, ?_, fun hf => ?_⟩
  split at h8
  · rename_i j hj
    simp only [Bool.and_eq_true] at h8
    refine ⟨j, hj, (beq_iff _ _).1 h8.1, fun hz => ?_⟩
    have h10 := h8.2
    rw [hz] at h10
    simp only [Bool.not_true, Bool.false_or] at h10
    split at h10
    · rename_i z hz1; exact ⟨z, hz1, h10⟩
    · cases h10
  · cases h8
  · simp only [Bool.or_eq_true, List.isEmpty_iff] at h9
    rcases h9 with h9 | h9
    · cases hi : i.ty with
      | st F => exact ⟨F, rfl⟩
      | _ => rw [hi] at h9; cases h9
    · exact absurd h9 hf
theorem part_ok {w : World} {F : Nat → Prop} {t : TypeId} {a : Ty} {x : a.den} {off : Nat} {vs : Array Value} {us : Nat → Value} (hk : kn P t = true) (hc : P.cellsOf t = a.flat.length) (ha : Eng.aggOf P t = a.isAgg)
    (hv : ∀ j c, (trc I φ a x)[j]? = some c → vs[off + j]? = some (us j)) (hr : ∀ j c, (trc I φ a x)[j]? = some c → RepT P w F c (us j)) (hsz : off + a.flat.length ≤ vs.size) :
    ∃ u, (part t vs off).run P w = .ok u w ∧ RepT P w F (tr I φ a x) u := by
  have hlen := trc_length (I := I) (φ := φ) a x
  cases hA : a.isAgg with
  | true =>
    refine ⟨.agg (vs.extract off (off + P.cellsOf t)), ?_, ?_⟩
    · unfold part
      simp only [Sem.run_bind, Eng.run_isAgg hk, Result.andThen_ok, ha, hA, if_true, Eng.run_size hk, Sem.run_pure]
    · rw [tr_agg a hA]
      refine .ag _ _ us (by simp [hlen, hc]; omega) (fun j c hj => ?_) hr
      have hjl := lt_of_get hj
      rw [← hv j c hj]
      simp only [Array.getElem?_extract]
      rw [if_pos (by rw [hc, ← hlen]; omega)]
  | false =>
    obtain ⟨c, h1, h2⟩ := trc_one (I := I) (φ := φ) a hA x
    have h3 : tr I φ a x = c := by have := tr_single (I := I) (φ := φ) a hA x; rw [h1] at this; simpa using this.symm
    have hj : (trc I φ a x)[0]? = some c := by rw [h1]; rfl
    refine ⟨us 0, ?_, by rw [h3]; exact hr 0 c hj⟩
    have := hv 0 c hj
    simp only [Nat.add_zero] at this
    unfold part
    simp only [Sem.run_bind, Eng.run_isAgg hk, Result.andThen_ok, ha, hA, Bool.false_eq_true, if_false, this, Sem.run_pure]
theorem run_bind_ok {α β : Type} {s : Sem α} {f : α → Sem β} {w w' : World} {a : α} (h : s.run P w = .ok a w') : (s >>= f).run P w = (f a).run P w' := by
  rw [Sem.run_bind, h, Result.andThen_ok]
theorem hdF_facts {g : TypeId → Ty → Bool} {f : Field} {a : Ty} {off : Nat} (h : hdF P g f a off = true) : f.offset = off ∧ g f.type a = true ∧ P.cellsOf f.type = a.flat.length ∧ Eng.aggOf P f.type = a.isAgg ∧ kn P f.type = true := by
  unfold hdF at h
  simp only [Bool.and_eq_true] at h
  exact ⟨(beq_iff _ _).1 h.1, h.2.1, (beq_iff _ _).1 h.2.2.1, by simpa using h.2.2.2.1, h.2.2.2.2⟩
theorem run_eqFields {w : World} {F F' : Nat → Prop} {d : Nat} {g : TypeId → Ty → Bool} (IH : ∀ t A (x y : Ty.den A) u v, g t A = true → RepT P w F (tr I φ A x) u → RepT P w F' (tr I φ A y) v → (Op.equalIn d t u v).run P w = .ok (A.beq x y) w)
    {vs vs' : Array Value} {us us' : Nat → Value} :
    ∀ (fs : List Field) (f : Ty) (off : Nat) (x y : Ty.den f), rowF P g off fs f = true → (∀ q ∈ fs, (q.name != "_") = true) →
      (∀ j c, (trc I φ f x)[j]? = some c → vs[off + j]? = some (us (off + j)) ∧ RepT P w F c (us (off + j))) → (∀ j c, (trc I φ f y)[j]? = some c → vs'[off + j]? = some (us' (off + j)) ∧ RepT P w F' c (us' (off + j))) →
      off + f.flat.length ≤ vs.size → off + f.flat.length ≤ vs'.size →
      (Op.eqFields d vs vs' fs).run P w = .ok (f.beq x y) w := by
  have hd1 : ∀ (q : Field) (a : Ty) (off : Nat) (x y : Ty.den a), hdF P g q a off = true → (∀ j c, (trc I φ a x)[j]? = some c → vs[off + j]? = some (us (off + j)) ∧ RepT P w F c (us (off + j))) →
      (∀ j c, (trc I φ a y)[j]? = some c → vs'[off + j]? = some (us' (off + j)) ∧ RepT P w F' c (us' (off + j))) → off + a.flat.length ≤ vs.size → off + a.flat.length ≤ vs'.size →
      ∃ u v, (part q.type vs q.offset).run P w = .ok u w ∧ (part q.type vs' q.offset).run P w = .ok v w ∧ (Op.equalIn d q.type u v).run P w = .ok (a.beq x y) w := by
    intro q a off x y h hx hy hs hs'
    obtain ⟨h1, h2, h3, h4, h5⟩ := hdF_facts h
    subst h1
    obtain ⟨u, hu, hru⟩ := part_ok (I := I) (φ := φ) (x := x) (us := fun j => us (q.offset + j)) h5 h3 h4 (fun j c hj => (hx j c hj).1) (fun j c hj => (hx j c hj).2) hs
    obtain ⟨v, hv, hrv⟩ := part_ok (I := I) (φ := φ) (x := y) (us := fun j => us' (q.offset + j)) h5 h3 h4 (fun j c hj => (hy j c hj).1) (fun j c hj => (hy j c hj).2) hs'
    exact ⟨u, v, hu, hv, IH _ _ x y u v h2 hru hrv⟩
  intro fs
  induction fs with
  | nil =>
    intro f off x y h _ _ _ _ _
    cases f <;> first
      | (simp only [Op.eqFields, Sem.run_pure]; rfl)
      | (simp only [rowF] at h; cases h)
  | cons q r ih =>
    intro f off x y h hnm hx hy hs hs'
    have hq := hnm q (by simp)
    have hq' : q.name ≠ "_" := by simpa using hq
    cases r with
    | nil =>
      simp only [rowF, Bool.and_eq_true] at h
      obtain ⟨u, v, hu, hv, he⟩ := hd1 q f off x y h.2 hx hy hs hs'
      simp only [Op.eqFields, if_pos hq', Sem.run_bind, hu, hv, he, Result.andThen_ok]
      cases f.beq x y <;> simp [Sem.run_pure]
    | cons q2 r2 =>
      cases f with
      | pair a b =>
        simp only [rowF, Bool.and_eq_true] at h
        simp only [Ty.flat, List.length_append] at hs hs'
        have hl := trc_length (I := I) (φ := φ) a x.1
        have hl' := trc_length (I := I) (φ := φ) a y.1
        obtain ⟨u, v, hu, hv, he⟩ := hd1 q a off x.1 y.1 h.1
          (fun j c hj => hx j c (by simp only [trc]; rw [List.getElem?_append_left (lt_of_get hj)]; exact hj))
          (fun j c hj => hy j c (by simp only [trc]; rw [List.getElem?_append_left (lt_of_get hj)]; exact hj)) (by omega) (by omega)
        have hrest := ih b (off + a.flat.length) x.2 y.2 h.2 (fun z hz => hnm z (by simp [hz]))
          (fun j c hj => by
            have := hx (a.flat.length + j) c (by simp only [trc]; rw [List.getElem?_append_right (by omega), hl, Nat.add_sub_cancel_left]; exact hj)
            rw [← Nat.add_assoc] at this; exact this)
          (fun j c hj => by
            have := hy (a.flat.length + j) c (by simp only [trc]; rw [List.getElem?_append_right (by omega), hl', Nat.add_sub_cancel_left]; exact hj)
            rw [← Nat.add_assoc] at this; exact this) (by omega) (by omega)
        rw [Op.eqFields, if_pos hq', run_bind_ok hu, run_bind_ok hv, run_bind_ok he]
        cases hb : a.beq x.1 y.1 with
        | true =>
          simp only [Bool.not_true, Bool.false_eq_true, if_false, hrest, Ty.beq, hb, Bool.true_and]
        | false =>
          simp only [Bool.not_false, if_true, Sem.run_pure, Ty.beq, hb, Bool.false_and]
      | _ => simp only [rowF] at h; cases h
theorem ag_inv {w : World} {F : Nat → Prop} {cs : List T} {u : Value} (h : RepT P w F (.ag cs) u) : ∃ (vs : Array Value) (us : Nat → Value), u = .agg vs ∧ vs.size = cs.length ∧ ∀ j c, cs[j]? = some c → vs[j]? = some (us j) ∧ RepT P w F c (us j) := by
  cases h with
  | ag _ vs us hl hv hr => exact ⟨vs, us, rfl, hl, fun j c hj => ⟨hv j c hj, hr j c hj⟩⟩
theorem run_equalIn_ok {w : World} {F F' : Nat → Prop} : ∀ (n d : Nat), n ≤ d → ∀ t A (x y : Ty.den A) u v, eqT P n t A = true → RepT P w F (tr I φ A x) u → RepT P w F' (tr I φ A y) v → (Op.equalIn d t u v).run P w = .ok (A.beq x y) w := by
  intro n
  induction n with
  | zero => intro d _ t A x y u v h; cases h
  | succ n ih =>
    intro d hd t A x y u v h hx hy
    obtain ⟨d, rfl⟩ : ∃ d', d = d' + 1 := ⟨d - 1, by omega⟩
    cases A with
    | bool =>
      simp only [eqT] at h
      have hu : u = .bool x := by cases hx; rfl
      have hv : v = .bool y := by cases hy; rfl
      subst hu; subst hv
      split at h
      · rename_i hp; exact run_equalIn_bool' w d t x y hp
      · cases h
    | int k =>
      simp only [eqT] at h
      have hu : u = .int k x := by cases hx; rfl
      have hv : v = .int k y := by cases hy; rfl
      subst hu; subst hv
      split at h
      · rename_i k' hp
        rw [run_equalIn_int w d t k k' x y hp]
        congr 1
      · cases h
    | str =>
      simp only [eqT] at h
      have hu : u = .string ⟨(x : List UInt8).toArray⟩ := by cases hx; rfl
      have hv : v = .string ⟨(y : List UInt8).toArray⟩ := by cases hy; rfl
      subst hu; subst hv
      split at h
      · rename_i hp
        rw [run_equalIn_string w d t _ _ hp, toList_mk, toList_mk]
        congr 1
        simp only [Ty.beq]
        by_cases hxy : (x : List UInt8) = y
        · subst hxy; simp
        · simp [hxy]
      · cases h
    | st f =>
      simp only [eqT] at h
      split at h
      · rename_i fs hp
        simp only [Bool.and_eq_true, Bool.not_eq_true'] at h
        obtain ⟨h1, h2, h3, h4⟩ := h
        have hx : RepT P w F (.ag (trc I φ f x)) u := hx
        have hy : RepT P w F' (.ag (trc I φ f y)) v := hy
        obtain ⟨vs, us, rfl, hl, hv⟩ := ag_inv hx
        obtain ⟨vs', us', rfl, hl', hv'⟩ := ag_inv hy
        have hf : P.fieldsOf t = fs := by unfold Program.fieldsOf; rw [hp]
        rw [run_equalIn_agg w d t vs vs' (by rw [hf]; exact hp) h1, hf]
        rw [trc_length] at hl hl'
        exact run_eqFields (fun t A x y u v hg => ih d (by omega) t A x y u v hg) fs.toList f 0 x y h4 (fun q hq => by simpa using List.all_eq_true.1 h3 q hq)
          (fun j c hj => by simpa using hv j c hj) (fun j c hj => by simpa using hv' j c hj) (by omega) (by omega)
      · cases h
    | _ => cases h
end Go.Y
namespace Go.Y
open Go.Eng (T RepT RepM SRep Kept Base G SameOn VRep Split Live Free kn)
variable {P : Program} {I : Ids} {φ : FnP} {β : Base} {nt : Nat} {cs : List (Nat × Con)}
variable {ρ : Type} {ls : List (Nat × LoopC ρ)} {r : ρ} {tb : Tabs} {st : St L} {gd : Option (Gd L)} {k : St L → Option ρ} {o : Oper}
theorem run_guard_other {op : BinOp} {t : TypeId} {x y : Operand} {a b : Value} {w : World} (h1 : a ≠ .nilIface ∨ b ≠ .nilIface) (h2 : (∀ c, a ≠ .agg c) ∨ ∀ c, b ≠ .agg c) : (eqGuard op t x y a b).run P w = .ok () w := by
  unfold eqGuard
  cases op <;> simp only [Bool.not_true, Bool.not_false, Bool.false_eq_true, if_true, if_false] <;> (first
    | rfl
    | (cases a <;> first
        | rfl
        | (cases b <;> first
            | rfl
            | (exfalso; rcases h1 with h1 | h1 <;> exact h1 rfl)
            | (exfalso; rcases h2 with h2 | h2 <;> exact h2 _ rfl))))
theorem run_guard_nil {op : BinOp} {t : TypeId} {x : Operand} {v a b : Value} {w : World} (h : ∀ c, b ≠ .agg c) : (eqGuard op t x (.const v) a b).run P w = .ok () w := by
  by_cases h1 : a = .nilIface ∧ b = .nilIface
  · obtain ⟨rfl, rfl⟩ := h1
    unfold eqGuard
    cases op <;> first | rfl | simp [Sem.run_pure, Sem.run_bind]
  · refine run_guard_other ?_ (.inr h)
    by_cases ha : a = .nilIface
    · exact .inr fun hb => h1 ⟨ha, hb⟩
    · exact .inl ha
def EqRuns (P : Program) (w : World) (t : TypeId) (xo yo : Operand) (u v : Value) (b : Bool) : Prop :=
  (∀ op, (eqGuard op t xo yo u v).run P w = .ok () w) ∧ (binOp .eql t u v).run P w = .ok (.bool b) w ∧ (binOp .neq t u v).run P w = .ok (.bool !b) w
theorem eq_str {t : TypeId} {w : World} {F F' : Nat → Prop} {u v : Value} {xo yo : Operand} {a c : List UInt8} (hx : RepT P w F (trL I φ ⟨.str, a⟩) u) (hy : RepT P w F' (trL I φ ⟨.str, c⟩) v) :
    EqRuns P w t xo yo u v (decide (a = c)) := by
  have hu := repS hx
  have hv := repS hy
  subst hu; subst hv
  have e : ((⟨a.toArray⟩ : ByteArray).toList == (⟨c.toArray⟩ : ByteArray).toList) = decide (a = c) := by
    rw [toList_mk, toList_mk]
    by_cases hac : a = c
    · subst hac; simp
    · simp [hac]
  refine ⟨fun op => run_guard_str, ?_, ?_⟩
  · simp only [binOp, Op.stringOp, Sem.run_pure, e]
  · simp only [binOp, Op.stringOp, Sem.run_pure, bne, e]
theorem eq_ptr {t e e' : TypeId} {A B : Ty} {w : World} {F F' : Nat → Prop} {u v : Value} {xo yo : Operand} {a : Option A.den} (ht : P.underlying t = some (.pointer e)) (hx : RepT P w F (trL I φ ⟨.ptr e A, a⟩) u) (hy : RepT P w F' (trL I φ ⟨.ptr e' B, (none : Option B.den)⟩) v) :
    EqRuns P w t xo yo u v a.isNone := by
  have hv : v = .pointer none := by cases hy; rfl
  subst hv
  have hp : P.underlying t = some (.pointer (P.pointee t)) := by rw [ht]; unfold Program.pointee; rw [ht]
  obtain ⟨q, hq, rfl⟩ : ∃ q : Option Addr, q.isNone = a.isNone ∧ u = .pointer q := by
    cases a with
    | none => cases hx; exact ⟨none, rfl, rfl⟩
    | some y =>
      have hx : RepT P w F (.p e (one A (trc I φ A y))) u := hx
      cases hx with
      | p _ _ b off => exact ⟨some ⟨b, off, none⟩, rfl, rfl⟩
  refine ⟨fun op => run_guard_other (.inl (by simp)) (.inl (by simp)), ?_, ?_⟩
  · rw [run_eql_pointer_nil w t q hp, hq]
  · rw [run_neq_pointer_nil w t q hp, hq]
theorem eq_err {t : TypeId} {w : World} {F F' : Nat → Prop} {u v c : Value} {xo : Operand} {a : Err} {ms : Array (String × TypeId)} (ht : P.underlying t = some (.interface ms)) (hx : RepT P w F (trL I φ ⟨.err, a⟩) u) (hy : RepT P w F' (trL I φ ⟨.err, Err.nil⟩) v) :
    EqRuns P w t xo (.const c) u v (errNil a) := by
  have hv : v = .nilIface := by cases hy; rfl
  subst hv
  have hp : P.underlying t = some (.interface (P.methodsAt t)) := by rw [ht]; unfold Program.methodsAt; rw [ht]
  refine ⟨fun op => run_guard_nil (by simp), ?_⟩
  have hx : RepT P w F (trE I a) u := hx
  cases a with
  | nil =>
    cases hx
    exact ⟨run_eql_nil_nil w t hp, run_neq_nil_nil w t hp⟩
  | no n => cases hx; exact ⟨run_eql_held_nil w t _ _ hp, run_neq_held_nil w t _ _ hp⟩
  | «at» n e => cases hx; exact ⟨run_eql_held_nil w t _ _ hp, run_neq_held_nil w t _ _ hp⟩
  | txt s => cases hx; exact ⟨run_eql_held_nil w t _ _ hp, run_neq_held_nil w t _ _ hp⟩
theorem eqT_guard {n : Nat} {t : TypeId} {A : Ty} (h : eqT P n t A = true) (hA : A.isAgg = true) : P.eqGuardType P.depth t = false := by
  cases n with
  | zero => cases h
  | succ n =>
    cases A with
    | st f =>
      simp only [eqT] at h
      split at h
      · simp only [Bool.and_eq_true, Bool.not_eq_true'] at h
        exact h.2.1
      · cases h
    | unit => simp only [eqT] at h; cases h
    | pair a b => simp only [eqT] at h; cases h
    | _ => cases hA
theorem eq_cmp {n : Nat} {t : TypeId} {A : Ty} {x y : A.den} {w : World} {F F' : Nat → Prop} {u v : Value} {xo yo : Operand} (hn : n ≤ 10000) (h : eqT P n t A = true) (hi : ∀ k, A ≠ .int k) (hs : A ≠ .str) (hx : RepT P w F (tr I φ A x) u) (hy : RepT P w F' (tr I φ A y) v) :
    EqRuns P w t xo yo u v (A.beq x y) := by
  have hE := run_equalIn_ok (I := I) (φ := φ) n 10000 hn t A x y u v h hx hy
  cases A with
  | bool =>
    have hu := repB hx
    have hv := repB hy
    subst hu; subst hv
    refine ⟨fun op => run_guard_bool, ?_, ?_⟩ <;> simp only [binOp, Op.equal, Op.maxDepth, Sem.run_bind, hE, Result.andThen_ok, Sem.run_pure]
  | st f =>
    have hx : RepT P w F (.ag (trc I φ f x)) u := hx
    have hy : RepT P w F' (.ag (trc I φ f y)) v := hy
    obtain ⟨vs, us, rfl, _⟩ := ag_inv hx
    obtain ⟨vs', us', rfl, _⟩ := ag_inv hy
    refine ⟨fun op => run_eqGuard_agg w op t xo yo vs vs' (eqT_guard h rfl), ?_, ?_⟩
    · rw [run_eql_struct, hE]; rfl
    · rw [run_neq_struct, hE]; rfl
  | int k => exact absurd rfl (hi k)
  | str => exact absurd rfl hs
  | _ => cases n <;> (simp only [eqT] at h; cases h)
theorem eqL_st {f : Ty} {a : f.den} {y : L} {b : Bool} (h : eqL ⟨.st f, a⟩ y = some b) : ∃ c : f.den, y = ⟨.st f, c⟩ ∧ b = (Ty.st f).beq a c := by
  simp only [eqL] at h
  split at h
  · cases hy' : y.as (.st f) with
    | none => rw [hy'] at h; cases h
    | some c =>
      rw [hy'] at h
      simp only [Option.some.injEq] at h
      exact ⟨c, as_some hy', h.symm⟩
  · cases h
theorem eqL_bool {a : Bool} {y : L} {b : Bool} (h : eqL ⟨.bool, a⟩ y = some b) : ∃ c : Bool, y = ⟨.bool, c⟩ ∧ b = Ty.bool.beq a c := by
  simp only [eqL] at h
  cases hy' : y.as .bool with
  | none => rw [hy'] at h; cases h
  | some c =>
    rw [hy'] at h
    simp only [Option.some.injEq] at h
    exact ⟨c, as_some hy', h.symm⟩
theorem eqL_str {a : List UInt8} {y : L} {b : Bool} (h : eqL ⟨.str, a⟩ y = some b) : ∃ c : List UInt8, y = ⟨.str, c⟩ ∧ b = decide (a = c) := by
  simp only [eqL] at h
  cases hy' : y.as .str with
  | none => rw [hy'] at h; cases h
  | some c =>
    rw [hy'] at h
    simp only [Option.some.injEq] at h
    exact ⟨c, as_some hy', h.symm⟩
def sgn (op : BinOp) (c : Bool) : Bool := match op with | .neq => !c | _ => c
theorem binL_eq {op : BinOp} {a b v : L} (hop : op = .eql ∨ op = .neq) (hni : a.int = none) (h : binL op a b = some v) : ∃ c, eqL a b = some c ∧ v = mkB (sgn op c) := by
  unfold binL at h
  rw [hni] at h
  rcases hop with rfl | rfl
  · simp only at h
    cases he : eqL a b with
    | none => rw [he] at h; cases h
    | some c => rw [he] at h; simp only [Option.some.injEq] at h; exact ⟨c, rfl, h.symm⟩
  · simp only at h
    cases he : eqL a b with
    | none => rw [he] at h; cases h
    | some c => rw [he] at h; simp only [Option.some.injEq] at h; exact ⟨c, rfl, h.symm⟩
theorem fin_eq {op : BinOp} {t ty : TypeId} {xo yo : Operand} {a : Act} {w : World} {c : Bool} (hop : op = .eql ∨ op = .neq) (ho : o.op = .binOp op t xo yo ty) (h : EqRuns P w t xo yo (a.eval xo) (a.eval yo) c) {g : G} :
    ∃ u, (execOp a.eval o).run P w = .ok (.value u) w ∧ ARep P I φ st g w (.lf (mkB (sgn op c))) u := by
  obtain ⟨h1, h2, h3⟩ := h
  rcases hop with rfl | rfl
  · exact ⟨_, exec_bin ho (h1 _) h2, .lf _ _ (repB' _)⟩
  · exact ⟨_, exec_bin ho (h1 _) h3, .lf _ _ (repB' _)⟩
end Go.Y
namespace Go.Y
open Go.Eng (T RepT RepM SRep Kept Base G SameOn VRep Split Live Free kn)
variable {P : Program} {I : Ids} {φ : FnP} {β : Base} {nt : Nat} {cs : List (Nat × Con)}
variable {ρ : Type} {ls : List (Nat × LoopC ρ)} {r : ρ} {tb : Tabs} {st : St L} {gd : Option (Gd L)} {k : St L → Option ρ} {o : Oper}
def BinRuns (P : Program) (I : Ids) (φ : FnP) (o : Oper) (w : World) (F : Nat → Prop) (ev : Operand → Value) (v : L) : Prop :=
  ∃ u, (execOp ev o).run P w = .ok (.value u) w ∧ RepT P w F (trL I φ v) u
theorem bin_int {op : BinOp} {t ty : TypeId} {xo yo : Operand} {a b v : L} {w : World} {F : Nat → Prop} {ac : Act} (ho : o.op = .binOp op t xo yo ty) (hni : ∃ q, a.int = some q) (h : binL op a b = some v)
    (hask : ∀ kb n, b = ⟨.int kb, n⟩ → asksI op n) (ha : RepT P w F (trL I φ a) (ac.eval xo)) (hb : RepT P w F (trL I φ b) (ac.eval yo)) : ∃ u, (execOp ac.eval o).run P w = .ok (.value u) w ∧ ∀ F', RepT P w F' (trL I φ v) u := by
  obtain ⟨⟨ka, m⟩, hq⟩ := hni
  unfold binL at h
  rw [hq] at h
  simp only at h
  cases hb' : b.int with
  | none => rw [hb'] at h; cases h
  | some q =>
    obtain ⟨kb, n⟩ := q
    rw [hb'] at h
    simp only at h
    have ea := int_some hq
    have eb := int_some hb'
    subst ea; subst eb
    obtain ⟨u, h1, h2⟩ := run_binI (I := I) (φ := φ) (P := P) (t := t) h (hask kb n rfl) w
    exact ⟨u, exec_bin ho (by rw [repI ha, repI hb]; exact run_guard_int) (by rw [repI ha, repI hb]; exact h1), h2⟩
theorem mk_size (s : List UInt8) : (⟨s.toArray⟩ : ByteArray).size = s.length := by simp [ByteArray.size]
theorem str_add {op : BinOp} {t ty : TypeId} {xo yo : Operand} {a b : List UInt8} {w : World} {F : Nat → Prop} {ac : Act} (ho : o.op = .binOp .add t xo yo ty) (hl : ((a ++ b).length : Int) ≤ 140737488355328)
    (ha : RepT P w F (trL I φ ⟨.str, a⟩) (ac.eval xo)) (hb : RepT P w F (trL I φ ⟨.str, b⟩) (ac.eval yo)) : BinRuns P I φ o w F ac.eval ⟨.str, (a ++ b : List UInt8)⟩ := by
  refine ⟨.string (⟨a.toArray⟩ ++ ⟨b.toArray⟩), exec_bin ho (by rw [repS ha, repS hb]; exact run_guard_str) ?_, ?_⟩
  · rw [repS ha, repS hb]
    simp only [binOp, Op.stringOp, mk_size]
    rw [if_neg]
    · rfl
    · simp only [List.length_append] at hl
      simp only [IntKind.max, IntKind.signed, IntKind.bits]
      omega
  · have : (⟨a.toArray⟩ ++ ⟨b.toArray⟩ : ByteArray) = ⟨(a ++ b).toArray⟩ := by
      apply ByteArray.ext
      simp
    rw [this]
    exact repS' _
theorem str_cmp {op : BinOp} {t ty : TypeId} {xo yo : Operand} {a b : List UInt8} {v : L} {w : World} {F : Nat → Prop} {ac : Act} (ho : o.op = .binOp op t xo yo ty) (h : cmpS op a b = some v)
    (ha : RepT P w F (trL I φ ⟨.str, a⟩) (ac.eval xo)) (hb : RepT P w F (trL I φ ⟨.str, b⟩) (ac.eval yo)) : BinRuns P I φ o w F ac.eval v := by
  have e : (a == b) = decide (a = b) := by
    by_cases hab : a = b
    · subst hab; simp
    · simp [hab]
  cases op <;> first
    | (simp only [cmpS] at h; cases h; done)
    | (simp only [cmpS, Option.some.injEq] at h
       subst h
       refine ⟨_, exec_bin ho (by rw [repS ha, repS hb]; exact run_guard_str) (by rw [repS ha, repS hb]; simp only [binOp, Op.stringOp, toList_mk, Sem.run_pure]; rfl), ?_⟩
       simp only [strLt, ← e]
       exact repB' _)
end Go.Y
namespace Go.Y
open Go.Eng (T RepT RepM SRep Kept Base G SameOn VRep Split Live Free kn)
variable {P : Program} {I : Ids} {φ : FnP} {β : Base} {nt : Nat} {cs : List (Nat × Con)}
variable {ρ : Type} {ls : List (Nat × LoopC ρ)} {r : ρ} {tb : Tabs} {st : St L} {gd : Option (Gd L)} {k : St L → Option ρ} {o : Oper}
def asks2 (op : BinOp) (b : L) : Prop := ∀ kb n, b = ⟨.int kb, n⟩ → asksI op n
theorem const_int {y0 : Operand} {n : Int} (h : constInt y0 = some n) {u : TypeId} {ks : List (Nat × Bool)} {b : L} (he : @evalO L (semL cs) tb st ks u y0 = some (.lf b)) : ∃ kk, b = mkI kk n := by
  unfold constInt at h
  split at h
  · rename_i kk m
    simp only [Option.some.injEq] at h
    subst h
    simp only [evalO, constAV, Option.some.injEq, AV.lf.injEq] at he
    exact ⟨kk, he.symm⟩
  · cases h
theorem bool_mkB {b c : Bool} (h : (mkB b).bool = some c) : b = c := by simpa [mkB, L.bool] using h
theorem bin_go {op : BinOp} {t ty : TypeId} {xo yo : Operand} {a b : L} {ks : Option (Gd L)} (ho : o.op = .binOp op t xo yo ty) (hd : ∀ d, o.dst = some d → d < nt) (hself : selfOk gd o.dst = true)
    (hne : op ≠ .eql) (hnn : op ≠ .neq) (hstr : op = .add → a.ty ≠ .str) (hx : @evalO L (semL cs) tb st (keysOf gd) t xo = some (.lf a)) (hy : @evalO L (semL cs) tb st (keysOf gd) ty yo = some (.lf b))
    (hask : On gd → asks2 op b) (h : @oCase (Option ρ) (semF ρ) _ (binL op a b) "bin" (fun v => match o.dst with | some d => k (putE st gd d (.lf v)) | none => k st) = some r) :
    ∃ st', k st' = some r ∧ Does P I φ β nt o st gd st' := by
  obtain ⟨v, hv, h⟩ := oCase_some h
  refine ret_case h hd hself fun ac w g hi he hn hh hon => ?_
  have ha := arep_lf (evalO_ok (P := P) (I := I) (φ := φ) (g := g) (w := w) he hn hh hx)
  have hb := arep_lf (evalO_ok (P := P) (I := I) (φ := φ) (g := g) (w := w) he hn hh hy)
  have : BinRuns P I φ o w g.F ac.eval v := by
    cases hq : a.int with
    | some q =>
      obtain ⟨u, h1, h2⟩ := bin_int ho ⟨q, hq⟩ hv (fun kb n e => hask hon kb n e) ha hb
      exact ⟨u, h1, h2 _⟩
    | none =>
      have hv0 := hv
      unfold binL at hv
      rw [hq] at hv
      simp only at hv
      split at hv
      · exact absurd rfl hne
      · exact absurd rfl hnn
      · cases h1 : a.as .str with
        | none => rw [h1] at hv; cases hv
        | some s => rw [as_some h1] at hstr; exact absurd rfl (hstr rfl)
      · cases h1 : a.as .str with
        | none => rw [h1] at hv; cases hv
        | some s1 =>
          cases h2 : b.as .str with
          | none => rw [h1, h2] at hv; cases hv
          | some s2 =>
            rw [h1, h2] at hv
            have e1 := as_some h1
            have e2 := as_some h2
            subst e1; subst e2
            exact str_cmp ho hv ha hb
  obtain ⟨u, h1, h2⟩ := this
  exact ⟨u, h1, .lf _ _ h2⟩
theorem ty_int {a : L} {kk : IntKind} (h : a.ty = .int kk) : ∃ n, a = ⟨.int kk, n⟩ := by
  obtain ⟨ty, val⟩ := a
  simp only at h
  subst h
  exact ⟨val, rfl⟩
theorem ty_str {a : L} (h : a.ty = .str) : ∃ n : List UInt8, a = ⟨.str, n⟩ := by
  obtain ⟨ty, val⟩ := a
  simp only at h
  subst h
  exact ⟨val, rfl⟩
def eqErrV (a b : Err) : Option Bool := match b with | .nil => some (errNil a) | _ => none
def eqPtrV {A B : Type} (a : Option A) (b : Option B) : Option Bool := match b with | none => some a.isNone | some _ => none
theorem eqL_err {a : Err} {y : L} {b : Bool} (h : eqL ⟨.err, a⟩ y = some b) : y = ⟨.err, Err.nil⟩ ∧ b = errNil a := by
  obtain ⟨bty, bv⟩ := y
  cases bty with
  | err =>
    have h : eqErrV a bv = some b := h
    unfold eqErrV at h
    split at h
    · simp only [Option.some.injEq] at h
      exact ⟨rfl, h.symm⟩
    · cases h
  | _ => simp only [eqL] at h; cases h
theorem eqL_ptr {e : TypeId} {A : Ty} {a : Option A.den} {y : L} {b : Bool} (h : eqL ⟨.ptr e A, a⟩ y = some b) : ∃ e' B, y = ⟨.ptr e' B, (none : Option (Ty.den B))⟩ ∧ b = a.isNone := by
  obtain ⟨bty, bv⟩ := y
  cases bty with
  | ptr e' B =>
    have e0 : ∀ z : Option B.den, eqL ⟨.ptr e A, a⟩ ⟨.ptr e' B, z⟩ = eqPtrV a z := by intro z; cases z <;> rfl
    rw [e0] at h
    unfold eqPtrV at h
    split at h
    · simp only [Option.some.injEq] at h
      exact ⟨e', B, rfl, h.symm⟩
    · cases h
  | _ => simp only [eqL] at h; cases h
theorem div_asks {b c : L} {kb kb' : IntKind} {m : Int} {cb : Bool} (hc : @LAlg.bin L (semL cs) .neq b (@LAlg.litI L (semL cs) kb 0) = some c) (hcb : c.bool = some cb) (ht : cb = true) (e : b = ⟨.int kb', m⟩) : m ≠ 0 := by
  subst e
  have hc : binI2 .neq kb' kb m 0 = some c := hc
  unfold binI2 at hc
  simp only at hc
  split at hc
  · simp only [binI, Option.some.injEq] at hc
    subst hc
    have := bool_mkB hcb
    rw [ht] at this
    simpa using this
  · cases hc
theorem shift_asks {b c : L} {kb kb' : IntKind} {m : Int} {cb : Bool} (hc : @LAlg.bin L (semL cs) .geq b (@LAlg.litI L (semL cs) kb 0) = some c) (hcb : c.bool = some cb) (ht : cb = true) (e : b = ⟨.int kb', m⟩) : 0 ≤ m := by
  subst e
  have hc : binI2 .geq kb' kb m 0 = some c := hc
  unfold binI2 at hc
  simp only at hc
  split at hc
  · simp only [binI, Option.some.injEq] at hc
    subst hc
    have := bool_mkB hcb
    rw [ht] at this
    simpa using this
  · cases hc
theorem binL_cat {s : List UInt8} {b v : L} (h : @LAlg.bin L (semL cs) .add ⟨.str, s⟩ b = some v) : ∃ s2 : List UInt8, b = ⟨.str, s2⟩ ∧ v = ⟨.str, (s ++ s2 : List UInt8)⟩ := by
  have h : (match (some s : Option (List UInt8)), b.as .str with | some a, some b => some (⟨.str, (a ++ b : List UInt8)⟩ : L) | _, _ => none) = some v := h
  cases hb : b.as .str with
  | none => rw [hb] at h; cases h
  | some s2 =>
    rw [hb] at h
    simp only [Option.some.injEq] at h
    exact ⟨s2, as_some hb, h.symm⟩
theorem cat_room {s : List UInt8} {n c : L} {cb : Bool} (hn : @LAlg.lenV L (semL cs) ⟨.str, s⟩ = some n) (hc : @LAlg.roomV L (semL cs) 1 n = some c) (hcb : c.bool = some cb) (ht : cb = true) : (s.length : Int) ≤ 140737488355328 := by
  have hn : some (mkI .i64 (len s)) = some n := hn
  simp only [Option.some.injEq] at hn
  subst hn
  have hc : some (mkB (room 1 (len s))) = some c := hc
  simp only [Option.some.injEq] at hc
  subst hc
  have := bool_mkB hcb
  rw [ht] at this
  exact (room_iff.1 this).2
theorem op_bin {op : BinOp} {t ty : TypeId} {xo yo : Operand} (hT : TabOk P I tb) (hf : FnsOk φ cs) (ho : o.op = .binOp op t xo yo ty) (hd : ∀ d, o.dst = some d → d < nt) (hself : selfOk gd o.dst = true)
    (h : @opK L (Option ρ) (semL cs) (semF ρ) (semR ρ cs ls) tb st gd o.dst o.type o.op k = some r) : ∃ st', k st' = some r ∧ Does P I φ β nt o st gd st' := by
  rw [ho] at h
  simp only [opK] at h
  obtain ⟨xv, hx, h1⟩ := oCase_some h
  clear h
  obtain ⟨yv, hy, h⟩ := oCase_some h1
  clear h1
  split at h
  · rename_i a b
    have eqv : ∀ (hop : op = .eql ∨ op = .neq) (hni : a.int = none), @oCase (Option ρ) (semF ρ) _ (binL op a b) "bin" (fun v => match o.dst with | some d => k (putE st gd d (.lf v)) | none => k st) = some r →
        (∀ (ac : Act) w F c, RepT P w F (trL I φ a) (ac.eval xo) → RepT P w F (trL I φ b) (ac.eval yo) → eqL a b = some c → EqRuns P w t xo yo (ac.eval xo) (ac.eval yo) c) → ∃ st', k st' = some r ∧ Does P I φ β nt o st gd st' := by
      intro hop hni h1 h2
      obtain ⟨v, hv, h1⟩ := oCase_some h1
      obtain ⟨c, hc, rfl⟩ := binL_eq hop hni hv
      refine ret_case h1 hd hself fun ac w g hi he hn hh hon => ?_
      have ha := arep_lf (evalO_ok (P := P) (I := I) (φ := φ) (g := g) (w := w) he hn hh hx)
      have hb := arep_lf (evalO_ok (P := P) (I := I) (φ := φ) (g := g) (w := w) he hn hh hy)
      exact fin_eq hop ho (h2 ac w g.F c ha hb hc)
    have eqs : (op = .eql ∨ op = .neq) → @eqK (Option ρ) (semF ρ) tb t yo a.ty (@oCase (Option ρ) (semF ρ) _ (binL op a b) "bin" (fun v => match o.dst with | some d => k (putE st gd d (.lf v)) | none => k st)) = some r → ∃ st', k st' = some r ∧ Does P I φ β nt o st gd st' := by
      intro hop h
      obtain ⟨aty, av⟩ := a
      unfold eqK at h
      split at h
      · rename_i kk hty
        simp only at hty
        subst hty
        obtain ⟨v, hv, h⟩ := oCase_some h
        refine ret_case h hd hself fun ac w g hi he hn hh hon => ?_
        have ha := arep_lf (evalO_ok (P := P) (I := I) (φ := φ) (g := g) (w := w) he hn hh hx)
        have hb := arep_lf (evalO_ok (P := P) (I := I) (φ := φ) (g := g) (w := w) he hn hh hy)
        obtain ⟨u, h1, h2⟩ := bin_int ho ⟨_, rfl⟩ hv (fun kb n e => by rcases hop with rfl | rfl <;> trivial) ha hb
        exact ⟨u, h1, .lf _ _ (h2 _)⟩
      · rename_i hty
        simp only at hty
        subst hty
        refine eqv hop rfl h fun ac w F c ha hb hc => ?_
        obtain ⟨c', rfl, rfl⟩ := eqL_str hc
        exact eq_str ha hb
      · rename_i hty
        simp only at hty
        subst hty
        cases yo with
        | const cc =>
          simp only at h
          obtain ⟨i, hi0, h⟩ := oCase_some h
          split at h
          · rename_i hdec
            refine eqv hop rfl h fun ac w F c ha hb hc => ?_
            have hti := (ti_facts (hT t i hi0)).form
            unfold formOk at hti
            rw [of_decide_eq_true hdec] at hti
            simp only at hti
            split at hti
            · rename_i ms hms
              obtain ⟨rfl, rfl⟩ := eqL_err hc
              exact eq_err hms ha hb
            · cases hti
          · cases h
        | _ => cases h
      · rename_i e A hty
        simp only at hty
        subst hty
        obtain ⟨i, hi0, h⟩ := oCase_some h
        split at h
        · rename_i hdec
          refine eqv hop rfl h fun ac w F c ha hb hc => ?_
          have hti := (ti_facts (hT t i hi0)).form
          unfold formOk at hti
          rw [of_decide_eq_true hdec] at hti
          simp only at hti
          split at hti
          · rename_i e' hms
            simp only [Bool.and_eq_true] at hti
            rw [(beq_iff _ _).1 hti.1] at ha hx hc
            obtain ⟨e2, B, rfl, rfl⟩ := eqL_ptr hc
            exact eq_ptr hms ha hb
          · cases hti
        · cases h
      · rename_i h1 h2 h3 h4
        unfold cmpK at h
        obtain ⟨i, hi0, h⟩ := oCase_some h
        split at h
        · rename_i hdec
          simp only [Bool.and_eq_true] at hdec
          have hcmp := (ti_facts (hT t i hi0)).cmp hdec.1
          rw [of_decide_eq_true hdec.2] at hcmp
          have hni : (⟨aty, av⟩ : L).int = none := by
            cases aty <;> first
              | rfl
              | exact absurd rfl (h1 _)
          refine eqv hop hni h fun ac w F c ha hb hc => ?_
          cases aty with
          | bool =>
            obtain ⟨c', rfl, rfl⟩ := eqL_bool hc
            exact eq_cmp (by decide) hcmp (by simp) (by simp) ha hb
          | st f =>
            obtain ⟨c', rfl, rfl⟩ := eqL_st hc
            exact eq_cmp (by decide) hcmp (by simp) (by simp) ha hb
          | int kk => exact absurd rfl (h1 kk)
          | str => exact absurd rfl h2
          | err => exact absurd rfl h3
          | ptr e A => exact absurd rfl (h4 e A)
          | _ => simp only [eqL] at hc; cases hc
        · cases h
    have go : op ≠ .eql → op ≠ .neq → (op = .add → a.ty ≠ .str) → (On gd → asks2 op b) → @oCase (Option ρ) (semF ρ) _ (binL op a b) "bin" (fun v => match o.dst with | some d => k (putE st gd d (.lf v)) | none => k st) = some r →
        ∃ st', k st' = some r ∧ Does P I φ β nt o st gd st' := fun h1 h2 h3 h4 h5 => bin_go (ks := gd) ho hd hself h1 h2 h3 hx hy h4 h5
    cases op with
    | eql => exact eqs (.inl rfl) h
    | neq => exact eqs (.inr rfl) h
    | quo =>
      simp only at h
      split at h
      · rename_i n hn
        obtain ⟨kk, hkk⟩ := const_int hn hy
        exact go (by simp) (by simp) (by simp) (fun _ kb m e => by
          rw [hkk] at e; simp only [mkI, L.mk.injEq, Ty.int.injEq] at e; obtain ⟨rfl, e⟩ := e; simp only [heq_eq_eq] at e; subst e; simp only [asksI]; exact (by simp [Int.ofNat_eq_natCast]; omega)) h
      · rename_i n hn
        obtain ⟨kk, hkk⟩ := const_int hn hy
        exact go (by simp) (by simp) (by simp) (fun _ kb m e => by
          rw [hkk] at e; simp only [mkI, L.mk.injEq, Ty.int.injEq] at e; obtain ⟨rfl, e⟩ := e; simp only [heq_eq_eq] at e; subst e; simp only [asksI]; exact (by simp)) h
      · split at h
        · rename_i kb hkb
          obtain ⟨c, hc, h⟩ := oCase_some h
          obtain ⟨h, cb, hcb, hck⟩ := check_some h
          exact go (by simp) (by simp) (by simp) (fun hon kb' m e => div_asks hc hcb (hck (onL_of hon)) e) h
        · cases h
    | rem =>
      simp only at h
      split at h
      · rename_i n hn
        obtain ⟨kk, hkk⟩ := const_int hn hy
        exact go (by simp) (by simp) (by simp) (fun _ kb m e => by
          rw [hkk] at e; simp only [mkI, L.mk.injEq, Ty.int.injEq] at e; obtain ⟨rfl, e⟩ := e; simp only [heq_eq_eq] at e; subst e; simp only [asksI]; exact (by simp [Int.ofNat_eq_natCast]; omega)) h
      · rename_i n hn
        obtain ⟨kk, hkk⟩ := const_int hn hy
        exact go (by simp) (by simp) (by simp) (fun _ kb m e => by
          rw [hkk] at e; simp only [mkI, L.mk.injEq, Ty.int.injEq] at e; obtain ⟨rfl, e⟩ := e; simp only [heq_eq_eq] at e; subst e; simp only [asksI]; exact (by simp)) h
      · split at h
        · rename_i kb hkb
          obtain ⟨c, hc, h⟩ := oCase_some h
          obtain ⟨h, cb, hcb, hck⟩ := check_some h
          exact go (by simp) (by simp) (by simp) (fun hon kb' m e => div_asks hc hcb (hck (onL_of hon)) e) h
        · cases h
    | add =>
      simp only at h
      split at h
      · rename_i hty
        obtain ⟨s1, rfl⟩ := ty_str hty
        obtain ⟨v, hv, h⟩ := oCase_some h
        obtain ⟨n, hn, h⟩ := oCase_some h
        obtain ⟨c, hc, h⟩ := oCase_some h
        obtain ⟨h, cb, hcb, hck⟩ := check_some h
        refine ret_case h hd hself fun ac w g hi he hn' hh hon => ?_
        have ha := arep_lf (evalO_ok (P := P) (I := I) (φ := φ) (g := g) (w := w) he hn' hh hx)
        have hb := arep_lf (evalO_ok (P := P) (I := I) (φ := φ) (g := g) (w := w) he hn' hh hy)
        obtain ⟨s2, rfl, rfl⟩ := binL_cat hv
        obtain ⟨u, h1, h2⟩ := str_add (op := .add) ho (cat_room hn hc hcb (hck (onL_of hon))) ha hb
        exact ⟨u, h1, .lf _ _ h2⟩
      · rename_i hne
        exact go (by simp) (by simp) (fun _ => hne) (fun _ _ _ _ => trivial) h
    | shl =>
      simp only at h
      split at h
      · rename_i n hn
        obtain ⟨kk, hkk⟩ := const_int hn hy
        exact go (by simp) (by simp) (by simp) (fun _ kb m e => by
          rw [hkk] at e; simp only [mkI, L.mk.injEq, Ty.int.injEq] at e; obtain ⟨rfl, e⟩ := e; simp only [heq_eq_eq] at e; subst e; simp only [asksI]; exact Int.natCast_nonneg n) h
      · cases h
      · split at h
        · rename_i kb hkb
          obtain ⟨c, hc, h⟩ := oCase_some h
          obtain ⟨h, cb, hcb, hck⟩ := check_some h
          exact go (by simp) (by simp) (by simp) (fun hon kb' m e => shift_asks hc hcb (hck (onL_of hon)) e) h
        · cases h
    | shr =>
      simp only at h
      split at h
      · rename_i n hn
        obtain ⟨kk, hkk⟩ := const_int hn hy
        exact go (by simp) (by simp) (by simp) (fun _ kb m e => by
          rw [hkk] at e; simp only [mkI, L.mk.injEq, Ty.int.injEq] at e; obtain ⟨rfl, e⟩ := e; simp only [heq_eq_eq] at e; subst e; simp only [asksI]; exact Int.natCast_nonneg n) h
      · cases h
      · split at h
        · rename_i kb hkb
          obtain ⟨c, hc, h⟩ := oCase_some h
          obtain ⟨h, cb, hcb, hck⟩ := check_some h
          exact go (by simp) (by simp) (by simp) (fun hon kb' m e => shift_asks hc hcb (hck (onL_of hon)) e) h
        · cases h
    | _ => exact go (by simp) (by simp) (by simp) (fun _ _ _ _ => trivial) h
  · rename_i xx yy hnot
    split at h
    ·
      rename_i b hb
      obtain ⟨i, hi0, h⟩ := oCase_some h
      split at h
      · rename_i e A hty
        have hyo : yo = .const (.pointer none) ∧ ((op = .eql ∧ b = false) ∨ (op = .neq ∧ b = true)) ∧ ((∃ l, xv = .pt l) ∨ ∃ v, xv = .fp v) := by
          unfold ptNil at hb
          split at hb
          · split at hb
            · rename_i l
              refine ⟨rfl, ?_, .inl ⟨l, rfl⟩⟩
              unfold ptNil.go at hb
              split at hb <;> first | (simp only [Option.some.injEq] at hb; subst hb; simp) | cases hb
            · rename_i v
              refine ⟨rfl, ?_, .inr ⟨v, rfl⟩⟩
              unfold ptNil.go at hb
              split at hb <;> first | (simp only [Option.some.injEq] at hb; subst hb; simp) | cases hb
            · cases hb
          · cases hb
        obtain ⟨hyo, hob, hxp⟩ := hyo
        refine ret_case h hd hself fun ac w g hi he hn hh hon => ?_
        have ha := evalO_ok (P := P) (I := I) (φ := φ) (g := g) (w := w) he hn hh hx
        obtain ⟨q, hq⟩ : ∃ q, ac.eval xo = .pointer (some q) := by
          rcases hxp with ⟨l, rfl⟩ | ⟨v, rfl⟩
          · generalize ac.eval xo = u at ha
            cases ha; exact ⟨_, rfl⟩
          · generalize ac.eval xo = u at ha
            cases ha; exact ⟨_, rfl⟩
        have hye : ac.eval yo = .pointer none := by rw [hyo]; rfl
        have hti := (ti_facts (hT t i hi0)).form
        unfold formOk at hti
        rw [hty] at hti
        simp only at hti
        split at hti
        · rename_i e' hms
          have hp : P.underlying t = some (.pointer (P.pointee t)) := by rw [hms]; unfold Program.pointee; rw [hms]
          have hE : EqRuns P w t xo yo (ac.eval xo) (ac.eval yo) false := by
            rw [hq, hye]
            refine ⟨fun op => run_guard_other (.inl (by simp)) (.inl (by simp)), ?_, ?_⟩
            · rw [run_eql_pointer_nil w t _ hp]; rfl
            · rw [run_neq_pointer_nil w t _ hp]; rfl
          rcases hob with ⟨rfl, rfl⟩ | ⟨rfl, rfl⟩
          · exact fin_eq (.inl rfl) ho hE
          · exact fin_eq (.inr rfl) ho hE
        · cases hti
      · cases h
    · obtain ⟨a, h1, hxa⟩ := peek_ok (P := P) (I := I) hf h
      clear h
      obtain ⟨b, h, hyb⟩ := peek_ok (P := P) (I := I) hf h1
      clear h1
      have key : (op = .eql ∨ op = .neq) → @cmpK (Option ρ) (semF ρ) tb t a.ty (@oCase (Option ρ) (semF ρ) _ (binL op a b) "bin2" (fun v => match o.dst with | some d => k (putE st gd d (.lf v)) | none => k st)) = some r → ∃ st', k st' = some r ∧ Does P I φ β nt o st gd st' := by
        intro hop h
        unfold cmpK at h
        obtain ⟨i, hi0, h⟩ := oCase_some h
        split at h
        · rename_i hdec
          simp only [Bool.and_eq_true] at hdec
          have hcmp := (ti_facts (hT t i hi0)).cmp hdec.1
          rw [of_decide_eq_true hdec.2] at hcmp
          obtain ⟨v, hv, h⟩ := oCase_some h
          refine ret_case h hd hself fun ac w g hi he hn hh hon => ?_
          have ha := hxa hi _ (evalO_ok (P := P) (I := I) (φ := φ) (g := g) (w := w) he hn hh hx)
          have hb := hyb hi _ (evalO_ok (P := P) (I := I) (φ := φ) (g := g) (w := w) he hn hh hy)
          cases hq : a.int with
          | some q =>
            obtain ⟨u, h1, h2⟩ := bin_int ho ⟨q, hq⟩ hv (fun kb n e => by rcases hop with rfl | rfl <;> trivial) ha hb
            exact ⟨u, h1, .lf _ _ (h2 _)⟩
          | none =>
            obtain ⟨c, hc, rfl⟩ := binL_eq hop hq hv
            refine fin_eq hop ho ?_
            obtain ⟨aty, av⟩ := a
            cases aty with
            | bool =>
              obtain ⟨c', rfl, rfl⟩ := eqL_bool hc
              exact eq_cmp (by decide) hcmp (by simp) (by simp) ha hb
            | st f =>
              obtain ⟨c', rfl, rfl⟩ := eqL_st hc
              exact eq_cmp (by decide) hcmp (by simp) (by simp) ha hb
            | str =>
              obtain ⟨c', rfl, rfl⟩ := eqL_str hc
              exact eq_str ha hb
            | int kk => cases hq
            | _ => simp only [eqT] at hcmp; cases hcmp
        · cases h
      cases op with
      | eql => exact key (.inl rfl) h
      | neq => exact key (.inr rfl) h
      | _ => cases h
end Go.Y
namespace Go.Y
open Go.Eng (T RepT RepM SRep Kept Base G SameOn VRep Split Live Free kn)
variable {P : Program} {I : Ids} {φ : FnP} {β : Base} {nt : Nat} {cs : List (Nat × Con)}
variable {ρ : Type} {ls : List (Nat × LoopC ρ)} {r : ρ} {tb : Tabs} {st : St L} {gd : Option (Gd L)} {k : St L → Option ρ} {o : Oper}
theorem run_v {s : Sem Value} {w w' : World} {v : Value} (h : s.run P w = .ok v w') : (do pure (Next.value (← s)) : Sem Next).run P w = .ok (.value v) w' := by
  rw [run_bind_ok h]; rfl
theorem op_extract {x : Operand} {i : Nat} (ho : o.op = .extract x i) (hd : ∀ d, o.dst = some d → d < nt) (hself : selfOk gd o.dst = true)
    (h : @opK L (Option ρ) (semL cs) (semF ρ) (semR ρ cs ls) tb st gd o.dst o.type o.op k = some r) : ∃ st', k st' = some r ∧ Does P I φ β nt o st gd st' := by
  rw [ho] at h
  simp only [opK] at h
  obtain ⟨xv, hx, h1⟩ := oCase_some h
  clear h
  split at h1
  · rename_i vs
    obtain ⟨y, hy, h⟩ := oCase_some h1
    refine ret_case h hd hself fun ac w g hi he hn hh hon => ?_
    have ha := evalO_ok (P := P) (I := I) (φ := φ) (g := g) (w := w) he hn hh hx
    rw [getL_eq] at hy
    generalize hu : ac.eval x = u at ha
    cases ha with
    | tu _ vals us hl hv hr =>
      refine ⟨us i, ?_, hr i y hy⟩
      unfold execOp
      simp only [ho, hu]
      refine run_v ?_
      unfold Instr.extract
      simp only [hv i y hy, Sem.run_pure]
  · cases h1
theorem op_nilCheck {x : Operand} (ho : o.op = .nilCheck x) (hd : ∀ d, o.dst = some d → d < nt) (hself : selfOk gd o.dst = true)
    (h : @opK L (Option ρ) (semL cs) (semF ρ) (semR ρ cs ls) tb st gd o.dst o.type o.op k = some r) : ∃ st', k st' = some r ∧ Does P I φ β nt o st gd st' := by
  rw [ho] at h
  simp only [opK] at h
  obtain ⟨xv, hx, h1⟩ := oCase_some h
  clear h
  have key : ∀ (a : Act) (w : World) b off, a.eval x = .pointer (some ⟨b, off, none⟩) → (execOp a.eval o).run P w = .ok (.value (.pointer (some ⟨b, off, none⟩))) w := by
    intro a w b off hu
    unfold execOp
    simp only [ho, hu, Sem.run_pure]
  split at h1
  · rename_i l
    refine ret_case h1 hd hself fun ac w g hi he hn hh hon => ?_
    have ha := evalO_ok (P := P) (I := I) (φ := φ) (g := g) (w := w) he hn hh hx
    generalize hu : ac.eval x = u at ha
    cases ha with
    | pt _ b off hb hl => exact ⟨_, key ac w b off hu, .pt l b off hb hl⟩
  · rename_i v
    refine ret_case h1 hd hself fun ac w g hi he hn hh hon => ?_
    have ha := evalO_ok (P := P) (I := I) (φ := φ) (g := g) (w := w) he hn hh hx
    generalize hu : ac.eval x = u at ha
    cases ha with
    | fp _ b off us hF hc hr => exact ⟨_, key ac w b off hu, .fp v b off us hF hc hr⟩
  · cases h1
  · cases h1
theorem evs_some {xs : List (TypeId × Operand)} : ∀ {acc : List (AV L)} {f : List (AV L) → Option ρ}, @opK.evs L (Option ρ) (semL cs) (semF ρ) tb st gd xs acc f = some r →
    ∃ ys, f (acc.reverse ++ ys) = some r ∧ ys.length = xs.length ∧ ∀ (j : Nat) p, xs[j]? = some p → ∃ y, ys[j]? = some y ∧ @evalO L (semL cs) tb st (keysOf gd) p.1 p.2 = some y := by
  induction xs with
  | nil =>
    intro acc f h
    simp only [opK.evs] at h
    exact ⟨[], by simpa using h, rfl, fun j p hj => by simp at hj⟩
  | cons p xs ih =>
    intro acc f h
    obtain ⟨t, x⟩ := p
    simp only [opK.evs] at h
    obtain ⟨y, hy, h1⟩ := oCase_some h
    obtain ⟨ys, h2, h3, h4⟩ := ih h1
    refine ⟨y :: ys, by simpa using h2, by simp [h3], fun j p hj => ?_⟩
    cases j with
    | zero =>
      simp only [List.getElem?_cons_zero, Option.some.injEq] at hj
      subst hj
      exact ⟨y, rfl, hy⟩
    | succ j => exact h4 j p (by simpa using hj)
theorem op_makeFunc {f : FuncId} {cap : Array Operand} (ho : o.op = .makeFunc (.func f) ⟨[]⟩ cap) (hd : ∀ d, o.dst = some d → d < nt) (hself : selfOk gd o.dst = true)
    (h : @opK L (Option ρ) (semL cs) (semF ρ) (semR ρ cs ls) tb st gd o.dst o.type o.op k = some r) : ∃ st', k st' = some r ∧ Does P I φ β nt o st gd st' := by
  rw [ho] at h
  simp only [opK] at h
  obtain ⟨ys, h1, hlen, hys⟩ := evs_some h
  simp only [List.reverse_nil, List.nil_append] at h1
  simp only [List.length_map, Array.length_toList] at hlen
  refine ret_case h1 hd hself fun ac w g hi he hn hh hon => ?_
  refine ⟨.func (.func f) #[] (cap.map ac.eval), ?_, ?_⟩
  · unfold execOp
    simp only [ho]
    refine run_v ?_
    simp [Instr.makeFunc]
  · refine .fn f ys _ (fun j => ac.eval (cap.getD j (.func 0))) (by simp [hlen]) (fun j c hj => ?_) (fun j c hj => ?_) <;>
      (have hjl : j < cap.size := by have := lt_of_get hj; omega)
    · simp [Array.getElem?_map, hjl, Array.getD_eq_getD_getElem?]
    · obtain ⟨y, hy1, hy2⟩ := hys j (0, cap[j]) (by simp [hjl])
      rw [hj, Option.some.injEq] at hy1
      subst hy1
      have := evalO_ok (P := P) (I := I) (φ := φ) (g := g) (w := w) he hn hh hy2
      simpa [Array.getD_eq_getD_getElem?, hjl] using this
theorem projR_ok {g : TypeId → Ty → Bool} : ∀ (fs : List Field) (f : Ty) (off i : Nat) (x : f.den) (v : L), rowF P g off fs f = true → @projR L (semL cs) f i ⟨f, x⟩ = some v →
    ∃ fd pre post, fs[i]? = some fd ∧ trc I φ f x = pre ++ trcL I φ v ++ post ∧ fd.offset = off + pre.length ∧ g fd.type v.ty = true ∧ P.cellsOf fd.type = v.ty.flat.length ∧ Eng.aggOf P fd.type = v.ty.isAgg ∧ kn P fd.type = true := by
  intro fs
  have one : ∀ (q : Field) (f : Ty) (off i : Nat) (x : f.den) (v : L), hdF P g q f off = true → (∀ a b, f ≠ .pair a b) → f ≠ .unit → @projR L (semL cs) f i ⟨f, x⟩ = some v →
      ∃ fd pre post, [q][i]? = some fd ∧ trc I φ f x = pre ++ trcL I φ v ++ post ∧ fd.offset = off + pre.length ∧ g fd.type v.ty = true ∧ P.cellsOf fd.type = v.ty.flat.length ∧ Eng.aggOf P fd.type = v.ty.isAgg ∧ kn P fd.type = true := by
    intro q f off i x v hq hnp hnu h
    obtain ⟨h1, h2, h3, h4, h5⟩ := hdF_facts hq
    have h6 : i = 0 ∧ v = ⟨f, x⟩ := by
      cases f with
      | pair a b => exact absurd rfl (hnp a b)
      | unit => exact absurd rfl hnu
      | _ =>
        cases i with
        | zero => simp only [projR, Option.some.injEq] at h; exact ⟨rfl, h.symm⟩
        | succ i => simp only [projR] at h; cases h
    obtain ⟨rfl, rfl⟩ := h6
    exact ⟨q, [], [], rfl, by simp [trcL], by simp [h1], h2, h3, h4, h5⟩
  induction fs with
  | nil =>
    intro f off i x v hr h
    cases f with
    | unit => simp only [projR] at h; cases h
    | _ => simp only [rowF] at hr; cases hr
  | cons q r0 ih =>
    intro f off i x v hr h
    cases f with
    | pair a b =>
      cases r0 with
      | nil =>
        simp only [rowF, Ty.fieldy, Bool.false_and] at hr
        cases hr
      | cons q2 r2 =>
        simp only [rowF, Bool.and_eq_true] at hr
        obtain ⟨h1, h2, h3, h4, h5⟩ := hdF_facts hr.1
        cases i with
        | zero =>
          have h : (some ⟨a, x.1⟩ : Option L) = some v := h
          simp only [Option.some.injEq] at h
          subst h
          exact ⟨q, [], trc I φ b x.2, rfl, by simp [trcL, trc], by simp [h1], h2, h3, h4, h5⟩
        | succ i =>
          have h : @projR L (semL cs) b i ⟨b, x.2⟩ = some v := h
          obtain ⟨fd, pre, post, e1, e2, e3, e4⟩ := ih b (off + a.flat.length) i x.2 v hr.2 h
          exact ⟨fd, trc I φ a x.1 ++ pre, post, by simpa using e1, by simp [trc, e2], by rw [e3, List.length_append, trc_length]; omega, e4⟩
    | unit =>
      simp only [projR] at h; cases h
    | _ =>
      cases r0 with
      | nil => simp only [rowF, Bool.and_eq_true] at hr; exact one q _ off i x v hr.2 (by simp) (by simp) h
      | cons q2 r2 => simp only [rowF] at hr; cases hr
theorem arep_ag {g : G} {w : World} {cs' : List (AV L)} {t : Ty} {vals : Array Value} {us : Nat → Value} (hl : vals.size = cs'.length) (hv : ∀ (j : Nat) c, cs'[j]? = some c → vals[j]? = some (us j) ∧ ARep P I φ st g w c (us j)) :
    ARep P I φ st g w (.ag t cs') (.agg vals) := .ag t cs' vals us hl (fun j c hj => (hv j c hj).1) (fun j c hj => (hv j c hj).2)
theorem lfs_ok (cs' : List (AV L)) : ∀ (vs : List L), lfs cs' = some vs → vs.length = cs'.length ∧ ∀ {g : G} {w : World} (j : Nat) c v u, cs'[j]? = some c → vs[j]? = some v → ARep P I φ st g w c u → RepT P w g.F (trL I φ v) u := by
  induction cs' with
  | nil =>
    intro vs h
    simp only [lfs, Option.some.injEq] at h
    subst h
    exact ⟨rfl, fun j c v u hj => by simp at hj⟩
  | cons c cs' ih =>
    intro vs h
    have step : ∀ v0, (∃ vs0, lfs cs' = some vs0 ∧ v0 :: vs0 = vs) → (∀ {g : G} {w : World} u, ARep P I φ st g w c u → RepT P w g.F (trL I φ v0) u) →
        vs.length = (c :: cs').length ∧ ∀ {g : G} {w : World} (j : Nat) c1 v u, (c :: cs')[j]? = some c1 → vs[j]? = some v → ARep P I φ st g w c1 u → RepT P w g.F (trL I φ v) u := by
      intro v0 h1 h2
      obtain ⟨vs0, hl, rfl⟩ := h1
      obtain ⟨h3, h4⟩ := ih vs0 hl
      refine ⟨by simp [h3], fun {g w} j c1 v u hj hv ha => ?_⟩
      cases j with
      | zero =>
        simp only [List.getElem?_cons_zero, Option.some.injEq] at hj hv
        subst hj; subst hv
        exact h2 u ha
      | succ j => exact h4 j c1 v u (by simpa using hj) (by simpa using hv) ha
    cases c with
    | lf v => exact step v (by
        simp only [lfs] at h
        cases hl : lfs cs' with
        | none => rw [hl] at h; cases h
        | some vs0 => rw [hl] at h; exact ⟨vs0, rfl, by simpa using h⟩) fun u ha => arep_lf ha
    | tl v => exact step v (by
        simp only [lfs] at h
        cases hl : lfs cs' with
        | none => rw [hl] at h; cases h
        | some vs0 => rw [hl] at h; exact ⟨vs0, rfl, by simpa using h⟩) fun u ha => by cases ha with | tl _ _ _ hr => exact hr
    | _ => simp only [lfs] at h; cases h
theorem mkAg_ok {g : G} {w : World} {cs' : List (AV L)} {t : Ty} {vals : Array Value} {us : Nat → Value} (ht : t.isAgg = true) (hl : vals.size = cs'.length) (hv : ∀ (j : Nat) c, cs'[j]? = some c → vals[j]? = some (us j) ∧ ARep P I φ st g w c (us j)) :
    ARep P I φ st g w (@mkAg L (semL cs) t cs') (.agg vals) := by
  unfold mkAg
  split
  · rename_i vs hvs
    split
    · rename_i v hp
      obtain ⟨h1, h2⟩ := lfs_ok (P := P) (I := I) (φ := φ) (st := st) cs' vs hvs
      exact .lf _ _ (rep_agg hl (fun j c hj => (hv j c hj).1) h1 (fun j c v0 hj hv0 => h2 j c v0 _ hj hv0 (hv j c hj).2) hp ht)
    · exact arep_ag hl hv
  · exact arep_ag hl hv
theorem part_ag {g : G} {w : World} {t : TypeId} {cs' : List (AV L)} {vs : Array Value} {us : Nat → Value} {off n : Nat} {agg : Bool} {A : Ty} {k' : AV L → Option ρ} (hk : kn P t = true) (hn : n = P.cellsOf t) (ha : agg = Eng.aggOf P t) (hA : A.isAgg = agg)
    (hl : vs.size = cs'.length) (hv : ∀ (j : Nat) c, cs'[j]? = some c → vs[j]? = some (us j) ∧ ARep P I φ st g w c (us j))
    {y : AV L} (hy : (agg = true ∧ y = @mkAg L (semL cs) A (takeL n (dropL off cs'))) ∨ (agg = false ∧ takeL n (dropL off cs') = [y])) :
    ∃ u, (part t vs off).run P w = .ok u w ∧ ARep P I φ st g w y u := by
  rw [takeL_eq, dropL_eq] at hy
  rcases hy with ⟨hag, rfl⟩ | ⟨hag, hy⟩
  · refine ⟨.agg (vs.extract off (off + P.cellsOf t)), ?_, mkAg_ok (by rw [hA, hag]) ?_ (us := fun j => us (off + j)) fun j c hj => ?_⟩
    · unfold part
      simp only [Sem.run_bind, Eng.run_isAgg hk, Result.andThen_ok, ← ha, hag, if_true, Eng.run_size hk, Sem.run_pure]
    · simp [hn, hl]; omega
    · rw [List.getElem?_take] at hj
      split at hj
      · rename_i hjn
        rw [List.getElem?_drop] at hj
        obtain ⟨h1, h2⟩ := hv (off + j) c hj
        refine ⟨?_, h2⟩
        rw [← h1, Array.getElem?_extract, if_pos]
        have := lt_of_get hj
        omega
      · cases hj
  · have hj : (List.take n (List.drop off cs'))[0]? = some y := by rw [hy]; rfl
    rw [List.getElem?_take] at hj
    split at hj
    · rw [List.getElem?_drop, Nat.add_zero] at hj
      obtain ⟨h1, h2⟩ := hv off y hj
      refine ⟨us off, ?_, h2⟩
      unfold part
      simp only [Sem.run_bind, Eng.run_isAgg hk, Result.andThen_ok, ← ha, hag, Bool.false_eq_true, if_false, h1, Sem.run_pure]
    · cases hj
end Go.Y
namespace Go.Y
open Go.Eng (T RepT RepM SRep Kept Base G SameOn VRep Split Live Free kn)
variable {P : Program} {I : Ids} {φ : FnP} {β : Base} {nt : Nat} {cs : List (Nat × Con)}
variable {ρ : Type} {ls : List (Nat × LoopC ρ)} {r : ρ} {tb : Tabs} {st : St L} {gd : Option (Gd L)} {k : St L → Option ρ} {o : Oper}
theorem ti_struct {t : TypeId} {i : TI} (h : formOk P t i = true) {f : Nat} {q : Nat × TypeId} (hq : getL i.fields f = some q) {F : Ty} (hi : i.ty = .st F) :
    ∃ fs, P.underlying t = some (.struct fs) ∧ rowF P (fun _ _ => true) 0 fs.toList F = true ∧ ∃ fd, fs[f]? = some fd ∧ (fd.offset, fd.type) = q := by
  unfold formOk at h
  rw [hi] at h
  simp only at h
  split at h
  · rename_i fs hp
    simp only [Bool.and_eq_true] at h
    refine ⟨fs, hp, h.2, ?_⟩
    have h1 := h.1
    unfold fieldsAre at h1
    have h1 := of_decide_eq_true h1
    rw [getL_eq, ← h1, List.getElem?_map, Option.map_eq_some_iff] at hq
    obtain ⟨fd, h2, h3⟩ := hq
    exact ⟨fd, by simpa using h2, h3⟩
  · simp only [Bool.and_eq_true, List.isEmpty_iff] at h
    rw [h.2.1] at hq
    simp [getL] at hq
  · cases h
theorem proj_st {f : Nat} {F : Ty} {x : F.den} {z : L} (h : @proj L (semL cs) f ⟨.st F, x⟩ = some z) : @projR L (semL cs) F f ⟨F, x⟩ = some z := h
theorem op_field {t : TypeId} {x : Operand} {f : Nat} (hT : TabOk P I tb) (ho : o.op = .field t x f) (hd : ∀ d, o.dst = some d → d < nt) (hself : selfOk gd o.dst = true)
    (h : @opK L (Option ρ) (semL cs) (semF ρ) (semR ρ cs ls) tb st gd o.dst o.type o.op k = some r) : ∃ st', k st' = some r ∧ Does P I φ β nt o st gd st' := by
  rw [ho] at h
  simp only [opK] at h
  obtain ⟨xv, hx, h1⟩ := oCase_some h
  clear h
  obtain ⟨i, hti, h2⟩ := oCase_some h1
  clear h1
  have hi := ti_facts (hT t i hti)
  split at h2
  · rename_i v
    split at h2
    · rename_i hdec
      have hty := of_decide_eq_true hdec
      obtain ⟨q, hq, h1⟩ := oCase_some h2
      clear h2
      obtain ⟨z, hz, h⟩ := oCase_some h1
      clear h1
      refine ret_case h hd hself fun ac w g hiv he hn hh hon => ?_
      have ha := arep_lf (evalO_ok (P := P) (I := I) (φ := φ) (g := g) (w := w) he hn hh hx)
      obtain ⟨vty, vv⟩ := v
      have hty : i.ty = vty := hty
      have hz' : @proj L (semL cs) f ⟨vty, vv⟩ = some z := hz
      have : ∃ F, vty = .st F := by
        unfold proj at hz'
        split at hz'
        · rename_i F hF; exact ⟨F, hF⟩
        · cases hz'
      obtain ⟨F, rfl⟩ := this
      obtain ⟨fs, hp, hrow, fd, hfd, hfq⟩ := ti_struct hi.form hq hty
      obtain ⟨fd', pre, post, h1, h2, h3, _, h5, h6, h7⟩ := projR_ok (I := I) (φ := φ) fs.toList F 0 f vv z hrow (proj_st hz')
      have : fd' = fd := by
        have h1' : fs[f]? = some fd' := by simpa using h1
        rw [hfd] at h1'; simpa using h1'.symm
      subst this
      have ha : RepT P w g.F (.ag (trc I φ F vv)) (ac.eval x) := ha
      obtain ⟨vals, us, hu, hl, hv⟩ := ag_inv ha
      have hzl : (trcL I φ z).length = z.ty.flat.length := trc_length z.ty z.val
      obtain ⟨u, hu1, hu2⟩ := part_ok (I := I) (φ := φ) (P := P) (w := w) (F := g.F) (x := z.val) (vs := vals) (off := fd'.offset) (us := fun j => us (fd'.offset + j)) h7 h5 h6
        (fun j c hj => (hv (fd'.offset + j) c (by
          have hj : (trcL I φ z)[j]? = some c := hj
          rw [h2, h3, Nat.zero_add, List.append_assoc, List.getElem?_append_right (by omega), Nat.add_sub_cancel_left, List.getElem?_append_left (lt_of_get hj)]; exact hj)).1)
        (fun j c hj => (hv (fd'.offset + j) c (by
          have hj : (trcL I φ z)[j]? = some c := hj
          rw [h2, h3, Nat.zero_add, List.append_assoc, List.getElem?_append_right (by omega), Nat.add_sub_cancel_left, List.getElem?_append_left (lt_of_get hj)]; exact hj)).2)
        (by rw [hl, h2]; simp only [List.length_append, hzl]; omega)
      refine ⟨u, ?_, .lf _ _ hu2⟩
      unfold execOp
      simp only [ho]
      refine run_v ?_
      unfold Instr.field
      simp only [Sem.run_bind, run_underlying hp, Result.andThen_ok, hfd, hu, asAgg, Sem.run_pure, hu1]
    · cases h2
  · rename_i A cs'
    obtain ⟨⟨off, ft⟩, hq, h1⟩ := oCase_some h2
    clear h2
    simp only at h1
    obtain ⟨j, htj, h2⟩ := oCase_some h1
    clear h1
    have hj := ti_facts (hT ft j htj)
    have main : ∀ y, ((j.agg = true ∧ y = @mkAg L (semL cs) j.ty (takeL j.cells (dropL off cs'))) ∨ (j.agg = false ∧ takeL j.cells (dropL off cs') = [y])) → (match o.dst with | some d => k (putE st gd d y) | none => k st) = some r →
        ∃ st', k st' = some r ∧ Does P I φ β nt o st gd st' := by
      intro y hy h
      refine ret_case h hd hself fun ac w g hiv he hn hh hon => ?_
      have ha := evalO_ok (P := P) (I := I) (φ := φ) (g := g) (w := w) he hn hh hx
      generalize hu : ac.eval x = u at ha
      cases ha with
      | ag _ _ vals us hl hv hr =>
        have hst : ∃ fs fd, P.underlying t = some (.struct fs) ∧ fs[f]? = some fd ∧ (fd.offset, fd.type) = (off, ft) := by
          obtain ⟨F, hity⟩ := hi.flds (fun e => by rw [e] at hq; simp [getL] at hq)
          obtain ⟨fs, hp, _, fd, h1, h2⟩ := ti_struct hi.form hq hity
          exact ⟨fs, fd, hp, h1, h2⟩
        obtain ⟨fs, fd, hp, hfd, hfq⟩ := hst
        simp only [Prod.mk.injEq] at hfq
        obtain ⟨rfl, rfl⟩ := hfq
        obtain ⟨u, hu1, hu2⟩ := part_ag (P := P) (I := I) (φ := φ) (st := st) (g := g) (w := w) (cs := cs) (vs := vals) (us := us) (ρ := ρ) (k' := fun _ => none) hj.kn hj.cells hj.agg hj.isAgg hl (fun j c hjc => ⟨hv j c hjc, hr j c hjc⟩) hy
        refine ⟨u, ?_, hu2⟩
        unfold execOp
        simp only [ho]
        refine run_v ?_
        unfold Instr.field
        simp only [Sem.run_bind, run_underlying hp, Result.andThen_ok, hfd, hu, asAgg, Sem.run_pure, hu1]
    split at h2
    · rename_i hag
      exact main _ (.inl ⟨hag, rfl⟩) h2
    · rename_i hag
      split at h2
      · rename_i y hy
        exact main _ (.inr ⟨hag, hy⟩) h2
      · cases h2
  · cases h2
end Go.Y
namespace Go.Y
open Go.Eng (T RepT RepM SRep Kept Base G SameOn VRep Split Live Free kn)
variable {P : Program} {I : Ids} {φ : FnP} {β : Base} {nt : Nat} {cs : List (Nat × Con)}
variable {ρ : Type} {ls : List (Nat × LoopC ρ)} {r : ρ} {tb : Tabs} {st : St L} {gd : Option (Gd L)} {k : St L → Option ρ} {o : Oper}
theorem plus_go (n : Nat) : ∀ (pre : List (L × Nat)) (i : L) (o : Nat), Loc.plus.go n (pre ++ [(i, o)]) = pre ++ [(i, o + n)]
  | [], i, o => rfl
  | [(a, b)], i, o => rfl
  | x :: y :: pre, i, o => by
    have := plus_go n (y :: pre) i o
    simp only [List.cons_append] at this ⊢
    simp only [Loc.plus.go, this]
theorem plus_root (l : Loc L) (n : Nat) : (l.plus n).root = l.root ∧ (l.plus n).gen = l.gen ∧ ((l.plus n).steps = [] ↔ l.steps = []) := by
  unfold Loc.plus
  cases hs : l.steps with
  | nil => simp [hs]
  | cons q s =>
    obtain ⟨pre, i, hp⟩ : ∃ pre i, q :: s = pre ++ [i] := ⟨(q :: s).dropLast, (q :: s).getLast (by simp), (List.dropLast_concat_getLast (by simp)).symm⟩
    obtain ⟨i, o⟩ := i
    rw [hp]
    simp [plus_go]
theorem inj_plus (l : Loc L) (n : Nat) : injLoc (l.plus n) = (injLoc l).add n := by
  unfold Loc.plus
  cases hs : l.steps with
  | nil =>
    rw [Eng.add_nil (by simp [injLoc, hs])]
    simp [injLoc, hs]
  | cons q s =>
    obtain ⟨pre, i, hp⟩ : ∃ pre i, q :: s = pre ++ [i] := ⟨(q :: s).dropLast, (q :: s).getLast (by simp), (List.dropLast_concat_getLast (by simp)).symm⟩
    obtain ⟨i, o⟩ := i
    rw [hp]
    rw [Eng.add_cons (l := injLoc l) (pre := pre.map fun q => (idxN q.1, q.2)) (i := idxN i) (o := o) (by simp [injLoc, hs, hp])]
    simp only [plus_go, injLoc, List.map_append, List.map_cons, List.map_nil]
    cases pre <;> simp
theorem step_le {t c : T} {i o n : Nat} (h : t.step (i, o + n) = some c) : ∃ c', t.step (i, o) = some c' := by
  cases t with
  | sl e nl xs =>
    simp only [T.step, Option.bind_eq_some_iff] at h ⊢
    obtain ⟨x, h1, h2⟩ := h
    have := lt_of_get h2
    exact ⟨x.cells[o]'(by omega), x, h1, by simp [show o < x.cells.length by omega]⟩
  | p e x =>
    simp only [T.step] at h ⊢
    split at h
    · rename_i hi
      have := lt_of_get h
      exact ⟨x.cells[o]'(by omega), by simp [hi, show o < x.cells.length by omega]⟩
    · cases h
  | _ => cases h
theorem walk_le {n : Nat} : ∀ (pre : List (Nat × Nat)) (d : Nat) (t : T) (i o : Nat) (x : Nat × T), Eng.walkT d t (pre ++ [(i, o + n)]) = some x → ∃ x', Eng.walkT d t (pre ++ [(i, o)]) = some x'
  | [], d, t, i, o, x, h => by
    cases d with
    | zero => simp [Eng.walkT] at h
    | succ d =>
      simp only [List.nil_append, Eng.walkT, Option.bind_eq_some_iff] at h ⊢
      obtain ⟨c, h1, _⟩ := h
      obtain ⟨c', h2⟩ := step_le h1
      exact ⟨_, c', h2, rfl⟩
  | q :: pre, d, t, i, o, x, h => by
    cases d with
    | zero => simp [Eng.walkT] at h
    | succ d =>
      simp only [List.cons_append, Eng.walkT, Option.bind_eq_some_iff] at h ⊢
      obtain ⟨c, h1, h2⟩ := h
      obtain ⟨x', h3⟩ := walk_le pre d c i o x h2
      exact ⟨x', c, h1, h3⟩
theorem there_add {sto : List (Nat × Eng.Root)} {l : Eng.Loc} {n : Nat} (h : Eng.There sto (l.add n)) : Eng.There sto l := by
  cases hs : l.steps with
  | nil =>
    rw [Eng.add_nil hs] at h
    unfold Eng.There at h ⊢
    simp only [hs] at h ⊢
    exact h
  | cons q s =>
    obtain ⟨pre, i, o, hp⟩ := Eng.steps_last (l := l.steps) (by simp [hs])
    rw [Eng.add_cons hp] at h
    unfold Eng.There at h ⊢
    have hne : pre ++ [(i, o + n)] ≠ [] := by simp
    have : ∃ x, Eng.at_ sto { l with steps := pre ++ [(i, o + n)] } = some x := by
      revert h
      cases hq : pre ++ [(i, o + n)] with
      | nil => exact absurd hq hne
      | cons q' s' => intro h; exact h
    obtain ⟨x, hx⟩ := this
    obtain ⟨r1, d1, t1, h1, h2, h3⟩ := Eng.at_root hx
    obtain ⟨x', hx'⟩ := walk_le pre d1 t1 i o x h3
    simp only [hs]
    refine ⟨x', ?_⟩
    unfold Eng.at_
    simp only at h1 h2
    simp only [h1, h2, hp, hx']
theorem pt_plus {g : G} {w : World} {l : Loc L} {b o n : Nat} (hb : bnd st l) (h : validP st l → Eng.There (injS I φ st) (injLoc l) → Eng.locA P g w (injS I φ st) (injLoc l) = some ⟨b, o, none⟩) :
    ARep P I φ st g w (.pt (l.plus n)) (.pointer (some ⟨b, o + n, none⟩)) := by
  obtain ⟨hr, hg, hst⟩ := plus_root l n
  refine .pt _ b (o + n) ?_ fun hv ht => ?_
  · obtain ⟨r1, h1, h2, h3⟩ := hb
    refine ⟨r1, by rw [hr]; exact h1, by rw [hg]; exact h2, fun hge c hc => ?_⟩
    cases hs : l.steps with
    | nil =>
      have : (l.plus n).stamp = 0 := by unfold Loc.plus; rw [hs]
      rw [this]; exact Nat.zero_le _
    | cons q s =>
      have e1 : (l.plus n).stamp = l.stamp := by unfold Loc.plus; rw [hs]
      have e2 : (l.plus n).off = l.off := by unfold Loc.plus; rw [hs]
      rw [e1]; rw [e2] at hc; rw [hg] at hge
      exact h3 hge c hc
  · rw [inj_plus] at ht ⊢
    have hv' : validP st l := by
      obtain ⟨⟨r1, h1⟩, h2⟩ := hv
      obtain ⟨h3, h4⟩ := rootAt_iff.1 h1
      refine ⟨⟨r1, rootAt_iff.2 ⟨by rw [← hr]; exact h3, by rw [← hg]; exact h4⟩⟩, fun hne => ?_⟩
      obtain ⟨c, hc, hcs⟩ := h2 (fun e => hne (hst.1 e))
      cases hs : l.steps with
      | nil => exact absurd hs hne
      | cons q s =>
        have e1 : (l.plus n).stamp = l.stamp := by unfold Loc.plus; rw [hs]
        have e2 : (l.plus n).off = l.off := by unfold Loc.plus; rw [hs]
        obtain ⟨r2, h5, h6, h7⟩ := cellAt_iff.1 hc
        exact ⟨c, cellAt_iff.2 ⟨r2, by rw [← hr]; exact h5, by rw [← hg]; exact h6, by rw [← e2]; exact h7⟩, by rw [← e1]; exact hcs⟩
    exact Eng.locA_add (h hv' (there_add ht)) n
theorem run_fieldAt {t : TypeId} {fs : Array Field} {fd : Field} {f b o : Nat} {w : World} (hp : P.underlying t = some (.struct fs)) (hf : fs[f]? = some fd) (hk : kn P fd.type = true) (hc : P.cellsOf fd.type ≠ 0) :
    (Instr.fieldAt t (.pointer (some ⟨b, o, none⟩)) f).run P w = .ok (.pointer (some ⟨b, o + fd.offset, none⟩)) w := by
  unfold Instr.fieldAt fieldPlace
  simp only [Sem.run_bind, run_underlying hp, Result.andThen_ok, hf, Eng.run_sure, Eng.run_size hk, if_neg hc, Sem.run_pure, Eng.addr_add]
theorem op_fieldAddr {t : TypeId} {x : Operand} {f : Nat} (hT : TabOk P I tb) (ho : o.op = .fieldAddr t x f) (hd : ∀ d, o.dst = some d → d < nt) (hself : selfOk gd o.dst = true)
    (h : @opK L (Option ρ) (semL cs) (semF ρ) (semR ρ cs ls) tb st gd o.dst o.type o.op k = some r) : ∃ st', k st' = some r ∧ Does P I φ β nt o st gd st' := by
  rw [ho] at h
  simp only [opK] at h
  obtain ⟨xv, hx, h1⟩ := oCase_some h
  clear h
  obtain ⟨i, hti, h2⟩ := oCase_some h1
  clear h1
  have hi := ti_facts (hT t i hti)
  obtain ⟨⟨off, ft⟩, hq, h1⟩ := oCase_some h2
  clear h2
  simp only at h1
  obtain ⟨j, htj, h2⟩ := oCase_some h1
  clear h1
  have hj := ti_facts (hT ft j htj)
  obtain ⟨F, hity⟩ := hi.flds (fun e => by rw [e] at hq; simp [getL] at hq)
  obtain ⟨fs, hp, hrow, fd, hfd, hfq⟩ := ti_struct hi.form hq hity
  simp only [Prod.mk.injEq] at hfq
  obtain ⟨rfl, rfl⟩ := hfq
  split at h2
  · cases h2
  · rename_i hcell
    have hc : P.cellsOf fd.type ≠ 0 := by
      intro e
      rw [hj.cells, e] at hcell
      cases hcell
    have run : ∀ (a : Act) (w : World) b off, a.eval x = .pointer (some ⟨b, off, none⟩) → (execOp a.eval o).run P w = .ok (.value (.pointer (some ⟨b, off + fd.offset, none⟩))) w := by
      intro a w b off hu
      unfold execOp
      simp only [ho, hu]
      exact run_v (run_fieldAt hp hfd hj.kn hc)
    split at h2
    · rename_i l
      refine ret_case h2 hd hself fun ac w g hiv he hn hh hon => ?_
      have ha := evalO_ok (P := P) (I := I) (φ := φ) (g := g) (w := w) he hn hh hx
      generalize hu : ac.eval x = u at ha
      cases ha with
      | pt _ b off hb hl => exact ⟨_, run ac w b off hu, pt_plus hb hl⟩
    · rename_i v
      split at h2
      · rename_i hdec
        have hty := of_decide_eq_true hdec
        obtain ⟨z, hz, h1⟩ := oCase_some h2
        clear h2
        refine ret_case h1 hd hself fun ac w g hiv he hn hh hon => ?_
        have ha := evalO_ok (P := P) (I := I) (φ := φ) (g := g) (w := w) he hn hh hx
        generalize hu : ac.eval x = u at ha
        obtain ⟨vty, vv⟩ := v
        have hty : i.ty = vty := hty
        rw [hity] at hty
        subst hty
        obtain ⟨fd', pre, post, e1, e2, e3, _, e5, e6, e7⟩ := projR_ok (I := I) (φ := φ) fs.toList F 0 f vv z hrow (proj_st hz)
        have : fd' = fd := by
          have h1' : fs[f]? = some fd' := by simpa using e1
          rw [hfd] at h1'; simpa using h1'.symm
        subst this
        cases ha with
        | fp _ b off us hF hcl hr =>
          have hidx : ∀ (j : Nat) c, (trcL I φ z)[j]? = some c → (trcL I φ ⟨Ty.st F, vv⟩)[fd'.offset + j]? = some c := by
            intro j c hjc
            have : trcL I φ ⟨Ty.st F, vv⟩ = pre ++ trcL I φ z ++ post := e2
            rw [this, e3, Nat.zero_add, List.append_assoc, List.getElem?_append_right (by omega), Nat.add_sub_cancel_left, List.getElem?_append_left (lt_of_get hjc)]
            exact hjc
          refine ⟨_, run ac w b off hu, .fp z b (off + fd'.offset) (fun j => us (fd'.offset + j)) hF (fun j c hjc => ?_) fun j c hjc => hr _ c (hidx j c hjc)⟩
          rw [Nat.add_assoc]
          exact hcl _ c (hidx j c hjc)
      · cases h2
    · cases h2
end Go.Y
namespace Go.Y
open Go.Eng (T RepT RepM SRep Kept Base G SameOn VRep Split Live Free kn)
variable {P : Program} {I : Ids} {φ : FnP} {β : Base} {nt : Nat} {cs : List (Nat × Con)}
variable {ρ : Type} {ls : List (Nat × LoopC ρ)} {r : ρ} {tb : Tabs} {st : St L} {gd : Option (Gd L)} {k : St L → Option ρ} {o : Oper}
theorem form_str {t : TypeId} {i : TI} (h : formOk P t i = true) (hi : i.ty = .str) : P.underlying t = some .string := by
  unfold formOk at h
  rw [hi] at h
  simp only at h
  split at h
  · assumption
  · cases h
theorem form_sl {t : TypeId} {i : TI} (h : formOk P t i = true) {e : TypeId} {a : Ty} (hi : i.ty = .sl e a) : P.underlying t = some (.slice e) ∧ i.elem = e ∧ elOk P e a = true := by
  unfold formOk at h
  rw [hi] at h
  simp only at h
  split at h
  · rename_i e' he
    simp only [Bool.and_eq_true] at h
    exact ⟨by rw [he, (beq_iff _ _).1 h.1], (beq_iff _ _).1 h.2.1, h.2.2⟩
  · cases h
theorem el_facts {e : TypeId} {a : Ty} (h : elOk P e a = true) : P.cellsOf e = a.flat.length ∧ Eng.aggOf P e = a.isAgg ∧ kn P e = true ∧ ∀ kk, a = .int kk → P.underlying e = some (.int kk) := by
  unfold elOk at h
  simp only [Bool.and_eq_true] at h
  obtain ⟨h1, h2, h3, h4⟩ := h
  refine ⟨(beq_iff _ _).1 h1, by simpa using h2, h3, fun kk hk => ?_⟩
  subst hk
  simp only at h4
  split at h4
  · rename_i k' hk'
    rw [of_decide_eq_true h4]; exact hk'
  · cases h4
theorem form_int {t : TypeId} {i : TI} (h : formOk P t i = true) {kk : IntKind} (hi : i.ty = .int kk) : P.underlying t = some (.int kk) := by
  unfold formOk at h
  rw [hi] at h
  simp only at h
  split at h
  · rename_i k' hk
    rw [of_decide_eq_true h]; exact hk
  · cases h
theorem litLL_get {a : Ty} : ∀ {vs : List L} {xs : List a.den}, litLL a vs = some xs → vs = xs.map fun x => (⟨a, x⟩ : L)
  | [], xs, h => by simp only [litLL, Option.some.injEq] at h; subst h; rfl
  | v :: vs, xs, h => by
    simp only [litLL] at h
    split at h
    · rename_i x ys hx hy
      simp only [Option.some.injEq] at h
      subst h
      rw [List.map_cons, ← litLL_get hy, as_some hx]
    · cases h
theorem op_index {t : TypeId} {x y : Operand} (hT : TabOk P I tb) (ho : o.op = .index t x y) (hd : ∀ d, o.dst = some d → d < nt) (hself : selfOk gd o.dst = true)
    (h : @opK L (Option ρ) (semL cs) (semF ρ) (semR ρ cs ls) tb st gd o.dst o.type o.op k = some r) : ∃ st', k st' = some r ∧ Does P I φ β nt o st gd st' := by
  rw [ho] at h
  simp only [opK] at h
  obtain ⟨xv, hx, h1⟩ := oCase_some h
  clear h
  obtain ⟨yv, hy, h⟩ := oCase_some h1
  clear h1
  split at h
  · rename_i v i
    split at h
    · rename_i hstr
      obtain ⟨s, rfl⟩ := ty_str hstr
      obtain ⟨j, htj, h1⟩ := oCase_some h
      clear h
      have hj := ti_facts (hT t j htj)
      split at h1
      · rename_i hjs
        obtain ⟨bs, hbs, h⟩ := oCase_some h1
        clear h1
        have hbs : some (⟨.sl 0 (.int .u8), toBytes s⟩ : L) = some bs := hbs
        simp only [Option.some.injEq] at hbs
        subst hbs
        obtain ⟨e, a, l, kk, n, z, hsl, hi, h9, hin⟩ := idx_some h
        clear h
        simp only [L.mk.injEq, Ty.sl.injEq] at hsl
        obtain ⟨⟨rfl, rfl⟩, hsl⟩ := hsl
        simp only [heq_eq_eq] at hsl
        subst hsl
        subst hi
        refine ret_case (y := .lf (mkI .u8 z)) h9 hd hself fun ac w g hiv he hn hh hon => ?_
        have ha := repS (arep_lf (evalO_ok (P := P) (I := I) (φ := φ) (g := g) (w := w) he hn hh hx))
        have hb := repI (arep_lf (evalO_ok (P := P) (I := I) (φ := φ) (g := g) (w := w) he hn hh hy))
        obtain ⟨h0, hz⟩ := hin (onL_of hon)
        have hz : (toBytes s)[n.toNat]? = some z := hz
        simp only [toBytes, List.getElem?_map, Option.map_eq_some_iff] at hz
        obtain ⟨b, hb1, hb2⟩ := hz
        refine ⟨.int .u8 z, ?_, .lf _ _ (repI' _ _)⟩
        unfold execOp
        simp only [ho]
        refine run_v ?_
        unfold Instr.index
        rw [ha, hb]
        have hget : (⟨s.toArray⟩ : ByteArray)[n.toNat]? = some b := by
          have hlt := lt_of_get hb1
          have h1 : (⟨s.toArray⟩ : ByteArray)[n.toNat]? = (⟨s.toArray⟩ : ByteArray).data[n.toNat]? := by
            simp [getElem?_def, mk_size, ByteArray.getElem_eq_getElem_data]
          rw [h1]; simpa using hb1
        simp only [asIntOf, Sem.run_bind, Sem.run_pure, Result.andThen_ok, run_underlying (form_str hj.form hjs), if_pos h0, hget, hb2]
      · cases h1
    · rename_i F hF
      obtain ⟨j, htj, h1⟩ := oCase_some h
      clear h
      have hj := ti_facts (hT t j htj)
      split at h1
      · cases h1
      rename_i hc0
      simp only [Bool.and_eq_true, decide_eq_true_eq, List.isEmpty_iff] at hc0
      obtain ⟨hfe, hjt⟩ := hc0
      obtain ⟨q, htq, h⟩ := oCase_some h1
      clear h1
      have hq := ti_facts (hT j.elem q htq)
      split at h
      · cases h
      rename_i hc1
      simp only [Bool.and_eq_true, Bool.not_eq_true'] at hc1
      obtain ⟨hq1, hqa⟩ := hc1
      have hq1 := (beq_iff _ _).1 hq1
      obtain ⟨cs', hcs, h1⟩ := oCase_some h
      clear h
      obtain ⟨l, hl, h⟩ := oCase_some h1
      clear h1
      obtain ⟨vty, vv⟩ := v
      have hF : vty = .st F := hF
      subst hF
      have hl : mkLL 0 q.ty cs' = some l := hl
      unfold mkLL at hl
      split at hl
      · rename_i xs hxs
        simp only [Option.some.injEq] at hl
        subst hl
        have hcx := litLL_get hxs
        obtain ⟨e, a, l, kk, n, z, hsl, hi, h9, hin⟩ := idx_some h
        clear h
        simp only [L.mk.injEq, Ty.sl.injEq] at hsl
        obtain ⟨⟨rfl, rfl⟩, hsl⟩ := hsl
        simp only [heq_eq_eq] at hsl
        subst hsl
        subst hi
        refine ret_case (y := .lf ⟨q.ty, z⟩) h9 hd hself fun ac w g hiv he hn hh hon => ?_
        have ha := arep_lf (evalO_ok (P := P) (I := I) (φ := φ) (g := g) (w := w) he hn hh hx)
        have hb := repI (arep_lf (evalO_ok (P := P) (I := I) (φ := φ) (g := g) (w := w) he hn hh hy))
        obtain ⟨h0, hz⟩ := hin (onL_of hon)
        have hz : xs[n.toNat]? = some z := hz
        have hcell := (cellsOf_ok (cs := cs) (I := I) (φ := φ) (.st F) vv cs' hcs).1
        have hat : (trc I φ F vv)[n.toNat]? = some (tr I φ q.ty z) := by
          have : (trc I φ (.st F) vv)[n.toNat]? = some (trL I φ ⟨q.ty, z⟩) := by
            rw [← hcell, hcx, List.map_map, List.getElem?_map, hz]; rfl
          exact this
        have ha : RepT P w g.F (.ag (trc I φ F vv)) (ac.eval x) := ha
        obtain ⟨vals, us, hu, hlv, hv⟩ := ag_inv ha
        have hlt := lt_of_get hat
        obtain ⟨hv1, hv2⟩ := hv _ _ hat
        have hform := hj.form
        unfold formOk at hform
        rw [hjt] at hform
        simp only at hform
        have hqagg : q.ty.isAgg = false := by rw [hq.isAgg, hqa]
        have hqf : q.ty.flat.length = 1 := by rw [hq.flat, ← hq.cells, hq1]
        split at hform
        · rename_i fs hp
          simp only [Bool.and_eq_true] at hform
          have h5 := of_decide_eq_true hform.1
          rw [hfe] at h5
          have h6 : fs.toList = [] := by simpa using h5
          have h7 := hform.2
          rw [h6] at h7
          cases F <;> first | (simp [trc] at hlt; done) | (simp [rowF] at h7; done)
        · rename_i nn ee hp
          simp only [Bool.and_eq_true, beq_iff] at hform
          obtain ⟨h5, _, h6⟩ := hform
          subst h6
          have hce : P.cellsOf j.elem = 1 := by rw [← hq.cells, hq1]
          have hnn : n.toNat < nn := by
            have h7 := hj.flat
            rw [hjt] at h7
            have h8 : F.flat.length = P.cellsOf t := h7
            rw [trc_length, h8, h5, hce] at hlt
            omega
          obtain ⟨u, hu1, hu2⟩ := part_ok (I := I) (φ := φ) (P := P) (w := w) (F := g.F) (t := j.elem) (x := z) (vs := vals) (off := n.toNat) (us := fun j => us (n.toNat + j)) hq.kn (by rw [hce, hqf]) (by rw [← hq.agg, hqa, hqagg])
            (fun j c hjc => by
              obtain ⟨c0, h7, h8⟩ := trc_one (I := I) (φ := φ) q.ty hqagg z
              rw [h7] at hjc
              cases j with
              | zero => exact hv1
              | succ j => simp at hjc)
            (fun j c hjc => by
              obtain ⟨c0, h7, h8⟩ := trc_one (I := I) (φ := φ) q.ty hqagg z
              have h9 := tr_single (I := I) (φ := φ) q.ty hqagg z
              rw [h9] at hjc
              cases j with
              | zero => simp only [List.getElem?_cons_zero, Option.some.injEq] at hjc; subst hjc; exact hv2
              | succ j => simp at hjc)
            (by rw [hqf, hlv]; omega)
          refine ⟨u, ?_, .lf _ _ hu2⟩
          unfold execOp
          simp only [ho]
          refine run_v ?_
          unfold Instr.index
          rw [hu, hb]
          have hsz : (sizeOf j.elem).run P w = .ok 1 w := by rw [Eng.run_size hq.kn, hce]
          simp only [asIntOf, Sem.run_bind, Sem.run_pure, Result.andThen_ok, run_underlying hp]
          rw [if_pos ⟨h0, by omega⟩]
          simp only [Sem.run_bind, hsz, Result.andThen_ok, Nat.mul_one]
          exact hu1
        · cases hform
      · cases hl
    · cases h
  · cases h
theorem run_len {t ty : TypeId} {v : L} {n : L} {w : World} {F : Nat → Prop} {u : Value} {i : TI} (hi : formOk P t i = true) (hs : sameSort i.ty v.ty = true) (hn : lenLv v = some n) (hr : RepT P w F (trL I φ v) u) :
    ∃ z, (Builtin.len_ #[t] ty #[u]).run P w = .ok z w ∧ ∀ F', RepT P w F' (trL I φ n) z := by
  obtain ⟨vty, vv⟩ := v
  cases hity : i.ty with
  | str =>
    rw [hity] at hs
    cases vty with
    | str =>
      have hn : some (mkI .i64 (len (vv : List UInt8))) = some n := hn
      simp only [Option.some.injEq] at hn
      subst hn
      have hu := repS hr
      subst hu
      refine ⟨_, ?_, fun F' => repI' _ _⟩
      unfold Builtin.len_
      simp only [List.getElem?_toArray, List.getElem?_cons_zero, Sem.run_bind, run_underlying (form_str hi hity), Result.andThen_ok, Sem.run_pure, goInt, mk_size, len]
    | _ => cases hs
  | sl e a =>
    rw [hity] at hs
    cases vty with
    | sl e' a' =>
      have hn : some (mkI .i64 (len (vv : List a'.den))) = some n := hn
      simp only [Option.some.injEq] at hn
      subst hn
      obtain ⟨b, c, rfl⟩ : ∃ b c, u = .slice b (vv : List a'.den).length c := by
        have hr : RepT P w F (.sl e' false ((vv : List a'.den).map fun x => one a' (trc I φ a' x))) u := hr
        generalize hxs : ((vv : List a'.den).map fun x => one a' (trc I φ a' x)) = xs at hr
        have hlen : xs.length = (vv : List a'.den).length := by rw [← hxs]; simp
        cases hr with
        | nsl => exact ⟨none, 0, by rw [← hlen]; rfl⟩
        | esl _ _ b cap => exact ⟨some b, cap, by rw [← hlen]; rfl⟩
        | sl _ _ _ b off cap us => exact ⟨_, cap, by rw [hlen]⟩
      refine ⟨_, ?_, fun F' => repI' _ _⟩
      unfold Builtin.len_
      simp only [List.getElem?_toArray, List.getElem?_cons_zero, Sem.run_bind, run_underlying (form_sl hi hity).1, Result.andThen_ok, Sem.run_pure, goInt, len]
    | _ => cases hs
  | _ => rw [hity] at hs; cases hs
theorem exec_builtin {c : Call} {b : Builtin} {ac : Act} {w : World} {v : Sem Value} {z : Value} (ho : o.op = .call c) (hb : c.callee = .builtin b) (hv : ∀ q, builtin b c.argTypes o.type q (c.args.map ac.eval) = (do pure (.value (← v))))
    (h : v.run P w = .ok z w) : (execOp ac.eval o).run P w = .ok (.value z) w := by
  unfold execOp
  simp only [ho]
  unfold resolve
  simp only [hb, Sem.run_bind, Sem.run_pure, Result.andThen_ok]
  unfold invoke
  simp only
  rw [hv]
  exact run_v h
theorem op_len {c : Call} (hT : TabOk P I tb) (hf : FnsOk φ cs) (ho : o.op = .call c) (hb : c.callee = .builtin .len) (hd : ∀ d, o.dst = some d → d < nt) (hself : selfOk gd o.dst = true)
    (h : @opK L (Option ρ) (semL cs) (semF ρ) (semR ρ cs ls) tb st gd o.dst o.type o.op k = some r) : ∃ st', k st' = some r ∧ Does P I φ β nt o st gd st' := by
  rw [ho] at h
  simp only [opK, hb] at h
  split at h
  · rename_i x t hx0 ht0
    obtain ⟨xv, hx, h1⟩ := oCase_some h
    clear h
    obtain ⟨i, hti, h2⟩ := oCase_some h1
    clear h1
    have hi := ti_facts (hT t i hti)
    obtain ⟨v, h1, hv⟩ := peek_ok (P := P) (I := I) hf h2
    clear h2
    split at h1
    · rename_i hs
      obtain ⟨n, hn, h⟩ := oCase_some h1
      clear h1
      refine ret_case h hd hself fun ac w g hiv he hn' hh hon => ?_
      have ha := hv hiv _ (evalO_ok (P := P) (I := I) (φ := φ) (g := g) (w := w) he hn' hh hx)
      obtain ⟨z, hz1, hz2⟩ := run_len (ty := o.type) hi.form hs hn ha
      have e1 : c.args = #[x] := by rw [← Array.toList_inj]; simpa using hx0
      have e2 : c.argTypes = #[t] := by rw [← Array.toList_inj]; simpa using ht0
      refine ⟨z, exec_builtin ho hb (fun _ => rfl) ?_, .lf _ _ (hz2 _)⟩
      rw [e1, e2]
      simpa using hz1
    · cases h1
  · cases h
theorem op_minmax {c : Call} {b : Bool} (ho : o.op = .call c) (hb : c.callee = .builtin (if b then .max else .min)) (hd : ∀ d, o.dst = some d → d < nt) (hself : selfOk gd o.dst = true)
    (h : @opK L (Option ρ) (semL cs) (semF ρ) (semR ρ cs ls) tb st gd o.dst o.type o.op k = some r) : ∃ st', k st' = some r ∧ Does P I φ β nt o st gd st' := by
  have key : ∀ x y xv yv v, c.args.toList = [x, y] → @evalO L (semL cs) tb st (keysOf gd) 0 x = some (.lf xv) → @evalO L (semL cs) tb st (keysOf gd) 0 y = some (.lf yv) → minL b xv yv = some v →
      (match o.dst with | some d => k (putE st gd d (.lf v)) | none => k st) = some r → ∃ st', k st' = some r ∧ Does P I φ β nt o st gd st' := by
    intro x y xv yv v hxy hx hy hv h
    refine ret_case h hd hself fun ac w g hiv he hn' hh hon => ?_
    have ha := arep_lf (evalO_ok (P := P) (I := I) (φ := φ) (g := g) (w := w) he hn' hh hx)
    have hb' := arep_lf (evalO_ok (P := P) (I := I) (φ := φ) (g := g) (w := w) he hn' hh hy)
    have e1 : c.args = #[x, y] := by rw [← Array.toList_inj]; simpa using hxy
    unfold minL at hv
    split at hv
    · rename_i k1 m1 k2 m2 h1 h2
      split at hv
      · rename_i hk
        simp only [decide_eq_true_eq] at hk
        subst hk
        simp only [Option.some.injEq] at hv
        subst hv
        rw [int_some h1] at ha
        rw [int_some h2] at hb'
        have hxu := repI ha
        have hyu := repI hb'
        cases b with
        | true =>
          refine ⟨_, exec_builtin ho hb (fun _ => rfl) ?_, .lf _ _ (repI' _ _)⟩
          rw [e1]
          simp only [List.map_toArray, List.map_cons, List.map_nil, hxu, hyu, Builtin.max_, List.foldlM_cons, List.foldlM_nil, Builtin.max2, Sem.run_bind, Sem.run_pure, Result.andThen_ok]
          congr 2
          unfold mxI
          by_cases hlt : m1 < m2
          · simp [hlt]
          · simp [hlt]
        | false =>
          refine ⟨_, exec_builtin ho hb (fun _ => rfl) ?_, .lf _ _ (repI' _ _)⟩
          rw [e1]
          simp only [List.map_toArray, List.map_cons, List.map_nil, hxu, hyu, Builtin.min_, List.foldlM_cons, List.foldlM_nil, Builtin.min2, Sem.run_bind, Sem.run_pure, Result.andThen_ok]
          congr 2
          unfold mnI
          by_cases hlt : m2 < m1
          · simp [hlt]
          · simp [hlt]
      · cases hv
    · cases hv
  rw [ho] at h
  cases b with
  | true =>
    simp only [opK, hb, if_true] at h
    split at h
    · rename_i x y hxy
      obtain ⟨xv, hx, h1⟩ := oCase_some h
      obtain ⟨yv, hy, h2⟩ := oCase_some h1
      split at h2
      · obtain ⟨v, hv, h3⟩ := oCase_some h2
        exact key x y _ _ v hxy hx hy hv h3
      · cases h2
    · cases h
  | false =>
    simp only [opK, hb, Bool.false_eq_true, if_false] at h
    split at h
    · rename_i x y hxy
      obtain ⟨xv, hx, h1⟩ := oCase_some h
      obtain ⟨yv, hy, h2⟩ := oCase_some h1
      split at h2
      · obtain ⟨v, hv, h3⟩ := oCase_some h2
        exact key x y _ _ v hxy hx hy hv h3
      · cases h2
    · rename_i x y z hxyz
      obtain ⟨xv, hx, h1⟩ := oCase_some h
      obtain ⟨yv, hy, h2⟩ := oCase_some h1
      obtain ⟨zv, hz, h3⟩ := oCase_some h2
      clear h h1 h2
      split at h3
      · rename_i xv yv zv
        obtain ⟨v, hv, h4⟩ := oCase_some h3
        obtain ⟨v', hv', h⟩ := oCase_some h4
        clear h3 h4
        refine ret_case h hd hself fun ac w g hiv he hn' hh hon => ?_
        have ha := arep_lf (evalO_ok (P := P) (I := I) (φ := φ) (g := g) (w := w) he hn' hh hx)
        have hb' := arep_lf (evalO_ok (P := P) (I := I) (φ := φ) (g := g) (w := w) he hn' hh hy)
        have hc' := arep_lf (evalO_ok (P := P) (I := I) (φ := φ) (g := g) (w := w) he hn' hh hz)
        have e1 : c.args = #[x, y, z] := by rw [← Array.toList_inj]; simpa using hxyz
        have hv : minL false xv yv = some v := hv
        have hv' : minL false v zv = some v' := hv'
        unfold minL at hv
        split at hv
        · rename_i k1 m1 k2 m2 h1 h2
          split at hv
          · rename_i hk
            simp only [decide_eq_true_eq] at hk
            subst hk
            simp only [Option.some.injEq] at hv
            subst hv
            unfold minL at hv'
            split at hv'
            · rename_i k3 m3 k4 m4 h3 h4
              split at hv'
              · rename_i hk2
                simp only [decide_eq_true_eq] at hk2
                subst hk2
                simp only [Option.some.injEq] at hv'
                subst hv'
                have h3 : some (k1, mnI m1 m2) = some (k3, m3) := h3
                simp only [Option.some.injEq, Prod.mk.injEq] at h3
                obtain ⟨rfl, rfl⟩ := h3
                rw [int_some h1] at ha
                rw [int_some h2] at hb'
                rw [int_some h4] at hc'
                have hxu := repI ha
                have hyu := repI hb'
                have hzu := repI hc'
                refine ⟨_, exec_builtin ho hb (fun _ => rfl) ?_, .lf _ _ (repI' _ _)⟩
                rw [e1]
                simp only [List.map_toArray, List.map_cons, List.map_nil, hxu, hyu, hzu, Builtin.min_, List.foldlM_cons, List.foldlM_nil, Builtin.min2, Sem.run_bind, Sem.run_pure, Result.andThen_ok]
                have hm : ∀ a b : Int, (if a < b then Value.int k1 a else Value.int k1 b) = Value.int k1 (if a < b then a else b) := fun a b => by split <;> rfl
                unfold mnI
                by_cases hlt : m2 < m1
                · by_cases hlt2 : m4 < m2 <;> simp [hlt, hlt2, Builtin.min2]
                · by_cases hlt2 : m4 < m1 <;> simp [hlt, hlt2, Builtin.min2]
              · cases hv'
            · cases hv'
          · cases hv
        · cases hv
      · cases h3
    · cases h
end Go.Y
namespace Go.Y
open Go.Eng (T RepT RepM SRep Kept Base G SameOn VRep Split Live Free kn)
variable {P : Program} {I : Ids} {φ : FnP} {β : Base} {nt : Nat} {cs : List (Nat × Con)}
variable {ρ : Type} {ls : List (Nat × LoopC ρ)} {r : ρ} {tb : Tabs} {st : St L} {gd : Option (Gd L)} {k : St L → Option ρ} {o : Oper}
theorem exec_conv {s t : TypeId} {x : Operand} {ac : Act} {w : World} {z : Value} (ho : o.op = .convert s t x) (h : (convert s t (ac.eval x)).run P w = .ok z w) : (execOp ac.eval o).run P w = .ok (.value z) w := by
  unfold execOp
  simp only [ho]
  exact run_v h
theorem flat_single {A : Ty} (hA : A.isAgg = false) (xs : List A.den) : Eng.flat (xs.map fun x => tr I φ A x) = xs.map fun x => tr I φ A x := by
  induction xs with
  | nil => rfl
  | cons x xs ih =>
    have : (tr I φ A x).cells = [tr I φ A x] := by rw [tr_cells, tr_single A hA]
    simp only [List.map_cons, Eng.flat_cons, this, ih, List.singleton_append]
theorem foldl_push (l : List Int) (s : List UInt8) : l.foldl (fun (r : ByteArray) n => r.push (UInt8.ofNat n.toNat)) ⟨s.toArray⟩ = ⟨(s ++ l.map fun n => UInt8.ofNat n.toNat).toArray⟩ := by
  induction l generalizing s with
  | nil => simp
  | cons n l ih =>
    have : (⟨s.toArray⟩ : ByteArray).push (UInt8.ofNat n.toNat) = ⟨(s ++ [UInt8.ofNat n.toNat]).toArray⟩ := by
      apply ByteArray.ext
      simp [ByteArray.push]
    simp only [List.foldl_cons, this, ih]
    simp
theorem run_bytes {w : World} {F : Nat → Prop} {e : TypeId} {l : List Int} {u : Value} (h : RepT P w F (trL I φ ⟨.sl e (.int .u8), l⟩) u) :
    (∃ a n c, u = .slice a n c) ∧ (Conv.bytesToString u).run P w = .ok (.string ⟨(toStr l).toArray⟩) w := by
  have h : RepT P w F (.sl e false (l.map fun x => tr I φ (.int .u8) x)) u := h
  have hfl : Eng.flat (l.map fun x => tr I φ (.int .u8) x) = l.map fun x => tr I φ (.int .u8) x := flat_single (A := .int .u8) rfl l
  generalize hxs : (l.map fun x => tr I φ (.int .u8) x) = xs at h hfl
  cases h with
  | nsl =>
    have : l = [] := by simpa using hxs
    subst this
    exact ⟨⟨_, _, _, rfl⟩, rfl⟩
  | esl =>
    have : l = [] := by simpa using hxs
    subst this
    exact ⟨⟨_, _, _, rfl⟩, rfl⟩
  | sl _ _ _ b off cap us hF hs hl hc hr =>
    refine ⟨⟨_, _, _, rfl⟩, ?_⟩
    have hlen : xs.length = l.length := by rw [← hxs]; simp
    have hload : (loadCells ⟨b, off, none⟩ xs.length).run P w = .ok (l.map (Value.int .u8)).toArray w := by
      have := run_loadCells_list (P := P) (w := w) ⟨b, off, none⟩ (l.map (Value.int .u8)) (fun j v hj => by
        rw [Eng.addr_add]
        rw [List.getElem?_map, Option.map_eq_some_iff] at hj
        obtain ⟨n, hn, rfl⟩ := hj
        have hx : (Eng.flat xs)[j]? = some (.i .u8 n) := by rw [hfl, ← hxs, List.getElem?_map, hn]; rfl
        have h1 := hc j _ hx
        have h2 := hr j _ hx
        rw [h1]
        generalize us j = uj at h2
        cases h2
        rfl)
      rw [List.length_map, ← hlen] at this
      exact this
    rw [run_bytesToString w _ _ _ l hload]
    have := foldl_push l []
    simp only [List.nil_append] at this
    have e0 : (ByteArray.empty : ByteArray) = ⟨([] : List UInt8).toArray⟩ := rfl
    rw [e0, this]
    rfl
end Go.Y
namespace Go.Y
open Go.Eng (T RepT RepM SRep Kept Base G SameOn VRep Split Live Free kn)
variable {P : Program} {I : Ids} {φ : FnP} {β : Base} {nt : Nat} {cs : List (Nat × Con)}
variable {ρ : Type} {ls : List (Nat × LoopC ρ)} {r : ρ} {tb : Tabs} {st : St L} {gd : Option (Gd L)} {k : St L → Option ρ} {o : Oper}
theorem sl_at {w : World} {F : Nat → Prop} {e : TypeId} {a : Ty} {l : List a.den} {u : Value} {n : Nat} {x : a.den} (h : RepT P w F (trL I φ ⟨.sl e a, l⟩) u) (hx : l[n]? = some x) :
    ∃ (b off cap : Nat) (us : Nat → Value), u = .slice (some ⟨b, off, none⟩) l.length cap ∧ F b ∧ ∀ (j : Nat) c, (trc I φ a x)[j]? = some c → w.cell? ⟨b, off + n * P.cellsOf e + j, none⟩ = some (us j) ∧ RepT P w F c (us j) := by
  have h : RepT P w F (.sl e false (l.map fun x => tr I φ a x)) u := h
  generalize hxs : (l.map fun x => tr I φ a x) = xs at h
  have hlen : xs.length = l.length := by rw [← hxs]; simp
  have hxn : xs[n]? = some (tr I φ a x) := by rw [← hxs, List.getElem?_map, hx]; rfl
  cases h with
  | nsl => simp at hxn
  | esl => simp at hxn
  | sl _ _ _ b off cap us hF hs hl hc hr =>
    refine ⟨b, off, cap, fun j => us (n * P.cellsOf e + j), by rw [hlen], hF (fun e0 => by rw [e0] at hxn; simp at hxn), fun j c hj => ?_⟩
    have hf := Eng.flat_get (P := P) hs hxn (o := j) (c := c) (by rw [tr_cells]; exact hj)
    refine ⟨?_, hr _ c hf⟩
    rw [Nat.add_assoc]
    exact hc _ c hf
theorem sl_form {w : World} {F : Nat → Prop} {e : TypeId} {a : Ty} {l : List a.den} {u : Value} (h : RepT P w F (trL I φ ⟨.sl e a, l⟩) u) : ∃ b c, u = .slice b l.length c := by
  have hr : RepT P w F (.sl e false (l.map fun x => one a (trc I φ a x))) u := h
  generalize hxs : (l.map fun x => one a (trc I φ a x)) = xs at hr
  have hlen : xs.length = l.length := by rw [← hxs]; simp
  cases hr with
  | nsl => exact ⟨none, 0, by rw [← hlen]; rfl⟩
  | esl _ _ b cap => exact ⟨some b, cap, by rw [← hlen]; rfl⟩
  | sl _ _ _ b off cap us => exact ⟨_, cap, by rw [hlen]⟩
theorem run_indexAt {t e : TypeId} {b off len cap : Nat} {kk : IntKind} {n : Int} {w : World} (hp : P.underlying t = some (.slice e)) (hk : kn P e = true) (h0 : 0 ≤ n) (h1 : n < len) :
    (Instr.indexAt t (.slice (some ⟨b, off, none⟩) len cap) (.int kk n)).run P w = .ok (.pointer (some ⟨b, off + n.toNat * P.cellsOf e, none⟩)) w := by
  unfold Instr.indexAt
  simp only [asIntOf, Sem.run_bind, Sem.run_pure, Result.andThen_ok, run_underlying hp, if_pos (And.intro h0 h1), Eng.run_size hk, Eng.addr_add]
theorem sameSl_some {A B : Ty} (h : sameSl A B = true) : ∃ e a b, A = .sl e a ∧ B = .sl e b := by
  unfold sameSl at h
  split at h
  · rename_i e a e' b
    have := (beq_iff _ _).1 h
    subst this
    exact ⟨e, a, b, rfl, rfl⟩
  · cases h
theorem rep0 {w : World} {F : Nat → Prop} {t : T} {u : Value} {B : Nat → Prop} (h : RepM P w F 0 t u B) : RepT P w F t u := h
theorem nat_lt {m : Int} {n : Nat} (h1 : 0 ≤ m) (h2 : m < (n : Int)) : m.toNat < n := by omega
theorem op_indexAddr {t : TypeId} {x y : Operand} (hT : TabOk P I tb) (ho : o.op = .indexAddr t x y) (hd : ∀ d, o.dst = some d → d < nt) (hself : selfOk gd o.dst = true)
    (h : @opK L (Option ρ) (semL cs) (semF ρ) (semR ρ cs ls) tb st gd o.dst o.type o.op k = some r) : ∃ st', k st' = some r ∧ Does P I φ β nt o st gd st' := by
  rw [ho] at h
  simp only [opK] at h
  obtain ⟨xv, hx, h1⟩ := oCase_some h
  clear h
  obtain ⟨yv, hy, h2⟩ := oCase_some h1
  clear h1
  obtain ⟨j, htj, h⟩ := oCase_some h2
  clear h2
  have hj := ti_facts (hT t j htj)
  have run : ∀ (a : Act) (w : World) e A b off len cap kk n, j.ty = .sl e A → a.eval x = .slice (some ⟨b, off, none⟩) len cap → a.eval y = .int kk n → 0 ≤ n → n < len →
      (execOp a.eval o).run P w = .ok (.value (.pointer (some ⟨b, off + n.toNat * P.cellsOf e, none⟩))) w := by
    intro a w e A b off len cap kk n hje hxu hyu h0 h1
    obtain ⟨hu, _, hel⟩ := form_sl hj.form hje
    unfold execOp
    simp only [ho, hxu, hyu]
    exact run_v (run_indexAt hu (el_facts hel).2.2.1 h0 h1)
  split at h
  · rename_i i
    have stays : ∀ v, sameSl j.ty v.ty = true → (∀ (ac : Act) (w : World) (g : G), Inv P I φ β st g w → EnvR P I φ st g w st.env ac.tmps → GnvR P I φ st g w st.gnv ac.tmps → Hold ac.tmps (keysOf gd) → RepT P w g.F (trL I φ v) (ac.eval x)) →
        @RAlg.idx L (Option ρ) (semR ρ cs ls) (gd.map (·.c)) v i (fun y => match o.dst with | some d => k (putE st gd d (.fp y)) | none => k st) = some r → ∃ st', k st' = some r ∧ Does P I φ β nt o st gd st' := by
      intro v hs hv h
      obtain ⟨e, a, l, kk, n, z, hsl, hi, h9, hin⟩ := idx_some h
      subst hsl; subst hi
      obtain ⟨e', A, B, hje, hve⟩ := sameSl_some hs
      simp only [Ty.sl.injEq] at hve
      obtain ⟨rfl, rfl⟩ := hve
      refine ret_case h9 hd hself fun ac w g hiv he hn hh hon => ?_
      obtain ⟨h0, hz⟩ := hin (onL_of hon)
      obtain ⟨b, off, cap, us, hu, hFb, hc⟩ := sl_at (hv ac w g hiv he hn hh) hz
      have hyu := repI (arep_lf (evalO_ok (P := P) (I := I) (φ := φ) (g := g) (w := w) he hn hh hy))
      have hlt := lt_of_get hz
      refine ⟨_, run ac w e A b off _ cap kk n hje hu hyu h0 (by omega), .fp _ b _ us hFb (fun j c hj => (hc j c hj).1) fun j c hj => (hc j c hj).2⟩
    split at h
    · rename_i l
      obtain ⟨v, hv, h1⟩ := oCase_some h
      clear h
      split at h1
      · rename_i s d v' hcell
        split at h1
        · rename_i hs
          split at h1
          · rename_i hd0
            have hd0 := (beq_iff _ _).1 hd0
            subst hd0
            refine stays v hs (fun ac w g hiv he hn hh => ?_) h1
            obtain ⟨r1, s1, d1, e1, e2, e3, e4, e5, e6, e7, B, hB, hL⟩ := peekA_ok hiv hv (evalO_ok (P := P) (I := I) (φ := φ) (g := g) (w := w) he hn hh hx)
            obtain ⟨r2, f1, f2, f3⟩ := cellAt_iff.1 hcell
            rw [e1, Option.some.injEq] at f1
            subst f1
            rw [e3, Option.some.injEq, Cell.mk.injEq, E.o.injEq] at f3
            rw [f3.2.1] at hB
            exact rep0 hB
          · obtain ⟨n, hn0, h2⟩ := oCase_some h1
            clear h1
            obtain ⟨c1, hc1, h1⟩ := oCase_some h2
            clear h2
            obtain ⟨c2, hc2, h2⟩ := oCase_some h1
            clear h1
            obtain ⟨c, hc, h1⟩ := oCase_some h2
            clear h2
            obtain ⟨h2, cb, hcb, hck⟩ := check_some h1
            clear h1
            obtain ⟨e', A, Bt, hje, hve⟩ := sameSl_some hs
            obtain ⟨vty, vv⟩ := v
            have hve : vty = .sl e' Bt := hve
            subst hve
            have hn0 : some (mkI .i64 (len (vv : List Bt.den))) = some n := hn0
            simp only [Option.some.injEq] at hn0
            subst hn0
            have hint : ∃ kk m, i = ⟨.int kk, m⟩ ∧ c1 = mkB (decide (0 ≤ m)) ∧ c2 = mkB (decide (m < len (vv : List Bt.den))) := by
              have hc1 : (match i.int with | some (k', b) => binI2 .leq .i64 k' 0 b | none => none) = some c1 := hc1
              have hc2 : binL .lss i (mkI .i64 (len (vv : List Bt.den))) = some c2 := hc2
              cases hi : i.int with
              | none => rw [hi] at hc1; cases hc1
              | some q =>
                obtain ⟨kk, m⟩ := q
                rw [hi] at hc1
                refine ⟨kk, m, int_some hi, ?_, ?_⟩
                · simp only [binI2] at hc1
                  split at hc1
                  · simp only [binI, Option.some.injEq] at hc1; exact hc1.symm
                  · cases hc1
                · unfold binL at hc2
                  rw [hi] at hc2
                  have hc2 : binI2 .lss kk .i64 m (len (vv : List Bt.den)) = some c2 := hc2
                  simp only [binI2] at hc2
                  split at hc2
                  · simp only [binI, Option.some.injEq] at hc2; exact hc2.symm
                  · cases hc2
            obtain ⟨kk, m, rfl, rfl, rfl⟩ := hint
            have hc : some (mkB (decide (0 ≤ m) && decide (m < len (vv : List Bt.den)))) = some c := hc
            simp only [Option.some.injEq] at hc
            subst hc
            have hcb := bool_mkB hcb
            refine ret_case h2 hd hself fun ac w g hiv he hn hh hon => ?_
            have hbt : (decide (0 ≤ m) && decide (m < len (vv : List Bt.den))) = true := by rw [hcb]; exact hck (onL_of hon)
            simp only [Bool.and_eq_true, decide_eq_true_eq] at hbt
            have hya := repI (arep_lf (evalO_ok (P := P) (I := I) (φ := φ) (g := g) (w := w) he hn hh hy))
            have hax := evalO_ok (P := P) (I := I) (φ := φ) (g := g) (w := w) he hn hh hx
            obtain ⟨r1, s1, d1, e1, e2, e3, e4, e5, e6, e7, B, hB, hL⟩ := peekA_ok hiv hv hax
            have hm2 : m < ((vv : List Bt.den).length : Int) := hbt.2
            have hm1 : 0 ≤ m := hbt.1
            have hm : Int.toNat m < (vv : List Bt.den).length := nat_lt hm1 hm2
            obtain ⟨b, off, cap, us, hu, _, _⟩ := sl_at (n := m.toNat) (x := (vv : List Bt.den)[m.toNat]) (RepM.give d1 hB) (by simp [hm])
            refine ⟨_, run ac w e' A b off _ cap kk m hje hu hya hm1 hm2, ?_⟩
            have hbn : bnd st l := by cases hax with | ar _ _ hb _ => exact hb
            refine .pt _ b _ hbn fun hvp ht => ?_
            have hat : Eng.at_ (injS I φ st) (injLoc l) = some (d1, trL I φ ⟨.sl e' Bt, vv⟩) := by
              have hr' : Eng.get (injS I φ st) (injLoc l).root = some (injR I φ st r1) := by rw [get_injS]; simp [injLoc, e1]
              have hc' := injR_cell (I := I) (φ := φ) (st := st) e3
              simp only [injE] at hc'
              have hst' : (injLoc l).steps = [] := by simp [injLoc, e6]
              unfold Eng.at_
              rw [hr']
              simp only [show (injLoc l).off = l.off from rfl, hc', hst']
              cases d1 <;> rfl
            have hV : Eng.locV P g w (injS I φ st) (injLoc l) = some (ac.eval x) := by
              have hr' : Eng.get (injS I φ st) (injLoc l).root = some (injR I φ st r1) := by rw [get_injS]; simp [injLoc, e1]
              have hst' : (injLoc l).steps = [] := by simp [injLoc, e6]
              unfold Eng.locV
              simp only [hst', hr', Option.bind_some]
              exact e7
            have hinto : injLoc { l with steps := [((⟨.int kk, m⟩ : L), 0)] } = (injLoc l).into m.toNat 0 := by simp [injLoc, Eng.Loc.into, e6, idxN]
            rw [hinto, Eng.locA_into hiv.s hat hV, hu]
            have : trL I φ ⟨.sl e' Bt, vv⟩ = .sl e' false ((vv : List Bt.den).map fun x => one Bt (trc I φ Bt x)) := rfl
            rw [this]
            simp only [Eng.stepA, Nat.add_zero]
        · cases h1
      · cases h1
    · rename_i v
      split at h
      · rename_i hs
        exact stays v hs (fun ac w g hiv he hn hh => arep_lf (evalO_ok (P := P) (I := I) (φ := φ) (g := g) (w := w) he hn hh hx)) h
      · cases h
    · rename_i v
      split at h
      · rename_i hs
        refine stays v hs (fun ac w g hiv he hn hh => ?_) h
        have hax := evalO_ok (P := P) (I := I) (φ := φ) (g := g) (w := w) he hn hh hx
        generalize ac.eval x = u at hax
        cases hax with
        | tl _ _ _ hr => exact hr
      · cases h
    · rename_i e a
      split at h
      · cases h
      · rename_i _ hs
        refine stays ⟨.sl e a, ([] : List a.den)⟩ hs (fun ac w g hiv he hn hh => ?_) h
        have hax := evalO_ok (P := P) (I := I) (φ := φ) (g := g) (w := w) he hn hh hx
        generalize ac.eval x = u at hax
        cases hax with
        | zs _ _ _ hz => exact rep_zs hz
      · cases h
    · cases h
  · cases h
end Go.Y
namespace Go.Y
open Go.Eng (T RepT RepM SRep Kept Base G SameOn VRep Split Live Free kn)
variable {P : Program} {I : Ids} {φ : FnP} {β : Base} {nt : Nat} {cs : List (Nat × Con)}
variable {ρ : Type} {ls : List (Nat × LoopC ρ)} {r : ρ} {tb : Tabs} {st : St L} {gd : Option (Gd L)} {k : St L → Option ρ} {o : Oper}
theorem cellAV_ok {g : G} {w : World} (hi : Inv P I φ β st g w) {l : Loc L} (hst : l.steps = []) {r1 : Root L} (hr : get st.sto l.root = some r1) (hg : r1.gen = l.gen) {j : Nat} {c : Cell L} (hc : r1.cells[j]? = some c) :
    ∃ u, Eng.rootV g w l.root (injR I φ st r1) j = some u ∧ ARep P I φ st g w (@cellAV L (semL cs) st { l with off := j } c) u := by
  have hr' : Eng.get (injS I φ st) l.root = some (injR I φ st r1) := by rw [get_injS, hr]; rfl
  obtain ⟨_, Bs, hsp, hcell⟩ := hi.s.root _ _ hr'
  have hc' := injR_cell (I := I) (φ := φ) (st := st) hc
  obtain ⟨u, hu, hrep⟩ := hcell _ _ hc'
  refine ⟨u, hu, ?_⟩
  obtain ⟨s, e⟩ := c
  cases e with
  | o d v =>
    simp only [injE] at hrep
    have hrep : RepM P w g.F d (trL I φ v) u (Bs j) := hrep
    cases d with
    | zero => exact .lf _ _ (rep0 hrep)
    | succ d =>
      obtain ⟨vty, vv⟩ := v
      have plain : (∀ e a, vty ≠ .sl e a) → (∀ e a, vty ≠ .ptr e a) → RepT P w g.F (trL I φ ⟨vty, vv⟩) u := by
        intro h1 h2
        cases vty with
        | sl e a => exact absurd rfl (h1 e a)
        | ptr e a => exact absurd rfl (h2 e a)
        | err =>
          have h3 : RepM P w g.F (d + 1) (trE I vv) u (Bs j) := hrep
          show RepT P w g.F (trE I vv) u
          cases vv <;> exact h3
        | _ => exact hrep
      cases vty with
      | sl e a =>
        refine .ar _ _ ⟨r1, hr, Nat.le_of_eq hg.symm, fun _ c hc1 => ?_⟩ fun _ _ _ _ _ _ _ => ?_
        · simp only at hc1
          rw [hc, Option.some.injEq] at hc1
          subst hc1
          exact Nat.le_refl _
        · unfold Eng.locV
          simp only [injLoc, hst, List.map_nil, hr', Option.bind_some]
          exact hu
      | ptr e a => exact .u _
      | _ => exact .lf _ _ (plain (by simp) (by simp))
  | mv => exact .u _
  | rf l' =>
    have hcb := hi.c l.root r1 ⟨s, .rf l'⟩ l' hr (List.mem_of_getElem? hc) rfl
    unfold cellAV
    simp only
    cases hra : rootAt st l' with
    | none => exact .u _
    | some r2 =>
      cases hm : r2.mem with
      | none => simp only [hm]; exact .u _
      | some e =>
        simp only [hm]
        simp only [injE, hra] at hrep
        have hrep : VRep P g w (injS I φ st) (.pt (injLoc l')) u := hrep
        cases hrep with
        | pt _ _ hp =>
          obtain ⟨h1, h2⟩ := rootAt_iff.1 hra
          have hst' : (injLoc l').steps = [] := by simp [injLoc, hcb.2]
          have hget : Eng.get (injS I φ st) (injLoc l').root = some (injR I φ st r2) := by rw [get_injS]; simp [injLoc, h1]
          have hA : Eng.locA P g w (injS I φ st) (injLoc l') = some ⟨g.ad (injLoc l').root, (injLoc l').off, none⟩ := by
            unfold Eng.locA
            simp only [hget, hst', injR, hm, Option.map_some]
          have ht : Eng.There (injS I φ st) (injLoc l') := by
            unfold Eng.There
            simp only [hst']
            exact ⟨_, e, hget, by simp [injR, hm]⟩
          obtain ⟨a, ha, hu'⟩ := hp ht
          rw [hA, Option.some.injEq] at ha
          subst ha
          subst hu'
          exact .pt l' _ _ hcb.1 fun _ _ => hA
theorem loadL_ok {g : G} {w : World} (hi : Inv P I φ β st g w) {l : Loc L} (hst : l.steps = []) {r1 : Root L} (hr : get st.sto l.root = some r1) (hg : r1.gen = l.gen) :
    ∀ (zs : List (Cell L)) (j : Nat), (∀ i c, zs[i]? = some c → r1.cells[l.off + j + i]? = some c) → ∃ us : Nat → Value, (@loadK.loadL L (semL cs) st l j zs).length = zs.length ∧
      ∀ i x, (@loadK.loadL L (semL cs) st l j zs)[i]? = some x → Eng.rootV g w l.root (injR I φ st r1) (l.off + j + i) = some (us i) ∧ ARep P I φ st g w x (us i) := by
  intro zs
  induction zs with
  | nil => intro j _; exact ⟨fun _ => undef, rfl, fun i x hx => by simp [loadK.loadL] at hx⟩
  | cons c zs ih =>
    intro j hz
    obtain ⟨us, h1, h2⟩ := ih (j + 1) (fun i c hc => by have := hz (i + 1) c (by simpa using hc); rw [← this]; congr 1; omega)
    obtain ⟨u, hu, ha⟩ := cellAV_ok (cs := cs) hi hst hr hg (hz 0 c rfl)
    refine ⟨fun i => match i with | 0 => u | i + 1 => us i, by simp [loadK.loadL, h1], fun i x hx => ?_⟩
    cases i with
    | zero =>
      simp only [loadK.loadL, List.getElem?_cons_zero, Option.some.injEq] at hx
      subst hx
      exact ⟨hu, by simpa using ha⟩
    | succ i =>
      simp only [loadK.loadL, List.getElem?_cons_succ] at hx
      obtain ⟨h3, h4⟩ := h2 i x hx
      refine ⟨?_, h4⟩
      rw [← h3]
      congr 1
      omega
theorem run_loadAt_agg {t : TypeId} (hk : kn P t = true) {w : World} {b o : Nat} {us : Nat → Value} (hc : ∀ j, j < P.cellsOf t → w.cell? ⟨b, o + j, none⟩ = some (us j)) (ha : Eng.aggOf P t = true) :
    (Instr.loadAt t (.pointer (some ⟨b, o, none⟩))).run P w = .ok (.agg ((List.range (P.cellsOf t)).map us).toArray) w := by
  unfold Instr.loadAt
  simp only [Sem.run_bind, Eng.run_sure, Result.andThen_ok, Eng.run_loadVar hk hc ha]
theorem run_loadAt_one {t : TypeId} (hk : kn P t = true) {w : World} {a : Addr} {u : Value} (hc : w.cell? a = some u) (ha : Eng.aggOf P t = false) :
    (Instr.loadAt t (.pointer (some a))).run P w = .ok u w := by
  unfold Instr.loadAt
  simp only [Sem.run_bind, Instr.sureAddr, Sem.run_pure, Result.andThen_ok, Eng.run_loadVar1 hk hc ha]
theorem owned_at {w : World} {F : Nat → Prop} {d n : Nat} {e : TypeId} {a : Ty} {l : List a.den} {u : Value} {B : Nat → Prop} {x : a.den} (h : RepM P w F (d + 1) (trL I φ ⟨.sl e a, l⟩) u B) (hx : l[n]? = some x) (hne0 : 0 < (trc I φ a x).length) :
    ∃ (b len cap : Nat), u = .slice (some ⟨b, 0, none⟩) len cap ∧ ∀ (j : Nat) c, (trc I φ a x)[j]? = some c → ∃ u' B', w.cell? ⟨b, n * P.cellsOf e + j, none⟩ = some u' ∧ RepM P w F d c u' B' := by
  have h : RepM P w F (d + 1) (.sl e false (l.map fun x => tr I φ a x)) u B := h
  simp only [RepM] at h
  obtain ⟨us, ho, hs, Bs, hsp, hr⟩ := h
  have hxn : (l.map fun x => tr I φ a x)[n]? = some (tr I φ a x) := by rw [List.getElem?_map, hx]; rfl
  have hlen : us.length = (Eng.flat (l.map fun x => tr I φ a x)).length := by rw [ho.len, Eng.flat_length hs]
  by_cases hne : us.length = 0
  · have hq : (trc I φ a x).length = 0 := by
      cases hq : trc I φ a x with
      | nil => rfl
      | cons c q =>
        have hf := Eng.flat_get (P := P) hs hxn (o := 0) (c := c) (by rw [tr_cells, hq]; rfl)
        have := lt_of_get hf
        omega
    omega
  · obtain ⟨b, cap, hv, _⟩ := Eng.owns_addr ho (j := 0) (by omega)
    subst hv
    refine ⟨b, _, cap, rfl, fun j c hj => ?_⟩
    have hf := Eng.flat_get (P := P) hs hxn (o := j) (c := c) (by rw [tr_cells]; exact hj)
    have hlt : n * P.cellsOf e + j < us.length := by rw [hlen]; exact lt_of_get hf
    refine ⟨us[n * P.cellsOf e + j], Bs (n * P.cellsOf e + j), ho.cell _ _ (by simp [hlt]), hr _ c _ hf (by simp [hlt])⟩
theorem repM_plain {w : World} {F : Nat → Prop} {d : Nat} {v : L} {u : Value} {B : Nat → Prop} (h : RepM P w F d (trL I φ v) u B) (hp : v.ty.plain = true) : RepT P w F (trL I φ v) u := by
  cases d with
  | zero => exact h
  | succ d =>
    obtain ⟨vty, vv⟩ := v
    cases vty with
    | sl e a => cases hp
    | ptr e a => cases hp
    | err =>
      have h3 : RepM P w F (d + 1) (trE I vv) u B := h
      show RepT P w F (trE I vv) u
      cases vv <;> exact h3
    | _ => exact h
theorem allPlain_mem {zs : List L} (h : @allPlain L (semL cs) zs = true) : ∀ v ∈ zs, v.ty.plain = true := by
  induction zs with
  | nil => intro v hv; simp at hv
  | cons z zs ih =>
    intro v hv
    simp only [allPlain, Bool.and_eq_true] at h
    rcases List.mem_cons.1 hv with rfl | hv
    · exact h.1
    · exact ih h.2 v hv
theorem load_root {g : G} {w : World} (hi : Inv P I φ β st g w) {l : Loc L} (hst : l.steps = []) {r1 : Root L} (hr : rootAt st l = some r1) {e : TypeId} (hm : r1.mem = some e) {t : TypeId} {i : TI} (hti : TiFacts P I t i) {u : Value} (ha : ARep P I φ st g w (.pt l) u)
    (hn : (@loadK.loadL L (semL cs) st l 0 (takeL i.cells (dropL l.off r1.cells))).length = i.cells) {y : AV L}
    (hy : (i.agg = true ∧ y = @mkAg L (semL cs) i.ty (@loadK.loadL L (semL cs) st l 0 (takeL i.cells (dropL l.off r1.cells)))) ∨ (i.agg = false ∧ @loadK.loadL L (semL cs) st l 0 (takeL i.cells (dropL l.off r1.cells)) = [y])) :
    ∃ z, (Instr.loadAt t u).run P w = .ok z w ∧ ARep P I φ st g w y z := by
  obtain ⟨h1, h2⟩ := rootAt_iff.1 hr
  obtain ⟨us, h3, h4⟩ := loadL_ok (cs := cs) hi hst h1 h2 (takeL i.cells (dropL l.off r1.cells)) 0 (fun j c hj => by
    rw [takeL_eq, dropL_eq, List.getElem?_take] at hj
    split at hj
    · rw [List.getElem?_drop] at hj; simpa using hj
    · cases hj)
  generalize hz : @loadK.loadL L (semL cs) st l 0 (takeL i.cells (dropL l.off r1.cells)) = zs at h3 h4 hn hy
  cases ha with
  | pt _ b o hb hl =>
    have hget : Eng.get (injS I φ st) (injLoc l).root = some (injR I φ st r1) := by rw [get_injS]; simp [injLoc, h1]
    have hst' : (injLoc l).steps = [] := by simp [injLoc, hst]
    have hA := hl ⟨⟨r1, hr⟩, fun hne => absurd hst hne⟩ (by
      unfold Eng.There
      simp only [hst']
      exact ⟨_, e, hget, by simp [injR, hm]⟩)
    unfold Eng.locA at hA
    simp only [hget, hst', injR, hm, Option.map_some, Option.some.injEq, Addr.mk.injEq] at hA
    obtain ⟨rfl, rfl, _⟩ := hA
    have hcell : ∀ j x, zs[j]? = some x → w.cell? ⟨g.ad l.root, l.off + j, none⟩ = some (us j) := by
      intro j x hj
      have := (h4 j x hj).1
      unfold Eng.rootV at this
      simp only [injR, hm, Nat.add_zero] at this
      exact this
    rcases hy with ⟨hag, rfl⟩ | ⟨hag, hy⟩
    · refine ⟨_, run_loadAt_agg hti.kn (us := us) (fun j hj => ?_) (by rw [← hti.agg]; exact hag), mkAg_ok (us := us) (by rw [hti.isAgg, hag]) (by simp [hn, hti.cells]) fun j c hj => ?_⟩
      · have hjl : j < zs.length := by rw [hn, hti.cells]; exact hj
        exact hcell j zs[j] (by simp [hjl])
      · have hjl := lt_of_get hj
        refine ⟨?_, (h4 j c hj).2⟩
        have : j < P.cellsOf t := by rw [← hti.cells, ← hn]; exact hjl
        simp [this]
    · have hj : zs[0]? = some y := by rw [hy]; rfl
      refine ⟨us 0, run_loadAt_one hti.kn (hcell 0 y hj) (by rw [← hti.agg]; exact hag), (h4 0 y hj).2⟩
theorem load_deep {g : G} {w : World} (hi : Inv P I φ β st g w) {l : Loc L} {kk : IntKind} {n : Int} {oo : Nat} (hst : l.steps = [(⟨.int kk, n⟩, oo)]) {r1 : Root L} (hr : rootAt st l = some r1) {d s : Nat} {e : TypeId} {a : Ty} {xs : List a.den} (hc : r1.cells[l.off]? = some ⟨s, .o (d + 1) ⟨.sl e a, xs⟩⟩) (hs : s = l.stamp)
    {x : a.den} (hx : xs[n.toNat]? = some x) {ys : List L} (hys : @cellsOf L (semL cs) a ⟨a, x⟩ = some ys) {t : TypeId} {i : TI} (hti : TiFacts P I t i) {u : Value} (ha : ARep P I φ st g w (.pt l) u)
    (hn : (takeL i.cells (dropL oo ys)).length = i.cells) (hpl : d = 0 ∨ ∀ v ∈ takeL i.cells (dropL oo ys), v.ty.plain = true) {y : L}
    (hy : (i.agg = true ∧ i.cells ≠ 0 ∧ @packAll L (semL cs) i.ty (takeL i.cells (dropL oo ys)) = some y) ∨ (i.agg = false ∧ takeL i.cells (dropL oo ys) = [y])) :
    ∃ z, (Instr.loadAt t u).run P w = .ok z w ∧ RepT P w g.F (trL I φ y) z := by
  obtain ⟨h1, h2⟩ := rootAt_iff.1 hr
  have hys' := cellsOf_ok (I := I) (φ := φ) a x ys hys
  generalize hz : takeL i.cells (dropL oo ys) = zs at hn hpl hy
  have hzs : ∀ j v, zs[j]? = some v → (trc I φ a x)[oo + j]? = some (trL I φ v) := by
    intro j v hj
    rw [← hz, takeL_eq, dropL_eq, List.getElem?_take] at hj
    split at hj
    · rw [List.getElem?_drop] at hj
      rw [← hys'.1, List.getElem?_map, hj]; rfl
    · cases hj
  have hz0 : 0 < zs.length := by
    rcases hy with ⟨_, h, _⟩ | ⟨_, h⟩
    · omega
    · rw [h]; simp
  obtain ⟨z0, hz0'⟩ : ∃ z0, zs[0]? = some z0 := ⟨zs[0], by simp [hz0]⟩
  have hpos : 0 < (trc I φ a x).length := by have := lt_of_get (hzs 0 z0 hz0'); omega
  have hget : Eng.get (injS I φ st) (injLoc l).root = some (injR I φ st r1) := by rw [get_injS]; simp [injLoc, h1]
  obtain ⟨_, Bs, hsp, hcell⟩ := hi.s.root _ _ hget
  have hc' := injR_cell (I := I) (φ := φ) (st := st) hc
  simp only [injE] at hc'
  obtain ⟨uu, huu, hrep⟩ := hcell _ _ hc'
  have hrep : RepM P w g.F (d + 1) (trL I φ ⟨.sl e a, xs⟩) uu (Bs l.off) := hrep
  obtain ⟨b0, len0, cap0, rfl, hel⟩ := owned_at hrep hx hpos
  have hst' : (injLoc l).steps = [(n.toNat, oo)] := by simp [injLoc, hst, idxN]
  have htree : trL I φ ⟨.sl e a, xs⟩ = .sl e false (xs.map fun x => tr I φ a x) := rfl
  cases ha with
  | pt _ b o hb hl =>
    have hA := hl ⟨⟨r1, hr⟩, fun _ => ⟨_, cellAt_iff.2 ⟨r1, h1, h2, hc⟩, hs⟩⟩ (by
      unfold Eng.There
      simp only [hst']
      unfold Eng.at_
      rw [hget]
      simp only [show (injLoc l).off = l.off from rfl, hc', hst', htree]
      have hstep : (T.sl e false (xs.map fun x => tr I φ a x)).step (n.toNat, oo) = some (trL I φ z0) := by
        simp only [T.step, List.getElem?_map, hx, Option.map_some, Option.bind_some, tr_cells]
        have := hzs 0 z0 hz0'
        simpa using this
      exact ⟨(d, trL I φ z0), by simp only [Eng.walkT, hstep, Option.bind_some]⟩)
    unfold Eng.locA at hA
    simp only [hget, hst', show (injLoc l).off = l.off from rfl, hc', huu, Option.bind_some, htree, Eng.walkA, Eng.stepA, Option.some.injEq, Addr.mk.injEq, Nat.zero_add] at hA
    obtain ⟨rfl, rfl, _⟩ := hA
    have hcells : ∀ j v, zs[j]? = some v → ∃ u', w.cell? ⟨b0, n.toNat * P.cellsOf e + oo + j, none⟩ = some u' ∧ RepT P w g.F (trL I φ v) u' := by
      intro j v hj
      obtain ⟨u', B', h5, h6⟩ := hel (oo + j) _ (hzs j v hj)
      refine ⟨u', by rw [Nat.add_assoc]; exact h5, ?_⟩
      rcases hpl with rfl | hpl
      · exact h6
      · exact repM_plain h6 (hpl v (List.mem_of_getElem? hj))
    have hus : ∃ us : Nat → Value, ∀ j v, zs[j]? = some v → w.cell? ⟨b0, n.toNat * P.cellsOf e + oo + j, none⟩ = some (us j) ∧ RepT P w g.F (trL I φ v) (us j) := by
      refine ⟨fun j => (w.cell? ⟨b0, n.toNat * P.cellsOf e + oo + j, none⟩).getD undef, fun j v hj => ?_⟩
      obtain ⟨u', h5, h6⟩ := hcells j v hj
      simp only [h5, Option.getD_some]
      exact ⟨trivial, h6⟩
    obtain ⟨us, hus⟩ := hus
    rcases hy with ⟨hag, hne, hpk⟩ | ⟨hag, hy⟩
    · obtain ⟨h7, h8⟩ := packAll_ok (I := I) (φ := φ) hpk
      have hyag : y.ty.isAgg = true := by rw [h8, hti.isAgg, hag]
      have htr : trL I φ y = .ag (trcL I φ y) := tr_agg y.ty hyag y.val
      refine ⟨_, run_loadAt_agg hti.kn (us := us) (fun j hj => ?_) (by rw [← hti.agg]; exact hag), ?_⟩
      · have hjl : j < zs.length := by rw [hn, hti.cells]; exact hj
        exact (hus j zs[j] (by simp [hjl])).1
      · rw [htr, ← h7]
        refine .ag _ _ us (by simp [hn, hti.cells]) (fun j c hj => ?_) (fun j c hj => ?_) <;>
          (rw [List.getElem?_map, Option.map_eq_some_iff] at hj
           obtain ⟨v, hv, rfl⟩ := hj)
        · have hjl := lt_of_get hv
          have : j < P.cellsOf t := by rw [← hti.cells, ← hn]; exact hjl
          simp [this]
        · exact (hus j v hv).2
    · have hj : zs[0]? = some y := by rw [hy]; rfl
      exact ⟨us 0, run_loadAt_one hti.kn (hus 0 y hj).1 (by rw [← hti.agg]; exact hag), (hus 0 y hj).2⟩
end Go.Y
namespace Go.Y
open Go.Eng (T RepT RepM SRep Kept Base G SameOn VRep Split Live Free kn)
variable {P : Program} {I : Ids} {φ : FnP} {β : Base} {nt : Nat} {cs : List (Nat × Con)}
variable {ρ : Type} {ls : List (Nat × LoopC ρ)} {r : ρ} {tb : Tabs} {st : St L} {gd : Option (Gd L)} {k : St L → Option ρ} {o : Oper}
theorem loadK_ok {l : Loc L} {g0 : Option L} {t : TypeId} {i : TI} (hti : TiFacts P I t i) {kk : AV L → Option ρ} (h : @loadK L (Option ρ) (semL cs) (semF ρ) (semR ρ cs ls) st g0 i.agg i.ty i.cells l kk = some r) :
    ∃ y, kk y = some r ∧ ∀ {g : G} {w : World} {u : Value}, OnL g0 → Inv P I φ β st g w → ARep P I φ st g w (.pt l) u → ∃ z, (Instr.loadAt t u).run P w = .ok z w ∧ ARep P I φ st g w y z := by
  unfold loadK at h
  obtain ⟨r1, hr, h1⟩ := oCase_some h
  clear h
  split at h1
  · rename_i hst
    split at h1
    · cases h1
    · rename_i e hm
      simp only at h1
      split at h1
      · cases h1
      · rename_i hlen
        have hlen := (beq_iff _ _).1 hlen
        split at h1
        · rename_i hag
          exact ⟨_, h1, fun _ hi ha => load_root hi hst hr hm hti ha hlen (.inl ⟨hag, rfl⟩)⟩
        · rename_i hag
          split at h1
          · rename_i y hy
            exact ⟨_, h1, fun _ hi ha => load_root hi hst hr hm hti ha hlen (.inr ⟨hag, hy⟩)⟩
          · cases h1
  · rename_i iv oo hst
    split at h1
    · rename_i s d v hc
      split at h1
      · cases h1
      · rename_i hs
        have hs := (beq_iff _ _).1 hs
        rw [getL_eq] at hc
        obtain ⟨e, a, xs, k1, n, x, hv, hi0, h2, hin⟩ := idx_some h1
        clear h1
        subst hv; subst hi0
        obtain ⟨ys, hys, h1⟩ := oCase_some h2
        clear h2
        simp only at h1
        split at h1
        · cases h1
        · rename_i hcond
          simp only [Bool.and_eq_true, Bool.or_eq_true] at hcond
          have hn := (beq_iff _ _).1 hcond.1
          have hpl : d = 0 ∨ ∀ v ∈ takeL i.cells (dropL oo ys), v.ty.plain = true := by
            rcases hcond.2 with h | h
            · exact .inl ((beq_iff _ _).1 h)
            · exact .inr (allPlain_mem h)
          split at h1
          · rename_i hag
            split at h1
            · cases h1
            · rename_i hne
              obtain ⟨y, hy, h2⟩ := oCase_some h1
              refine ⟨_, h2, fun hon hi ha => ?_⟩
              obtain ⟨_, hx⟩ := hin hon
              obtain ⟨z, h3, h4⟩ := load_deep hi hst hr hc hs hx hys hti ha hn hpl (.inl ⟨hag, hne, hy⟩)
              exact ⟨z, h3, .lf _ _ h4⟩
          · rename_i hag
            split at h1
            · rename_i y hy
              refine ⟨_, h1, fun hon hi ha => ?_⟩
              obtain ⟨_, hx⟩ := hin hon
              obtain ⟨z, h3, h4⟩ := load_deep hi hst hr hc hs hx hys hti ha hn hpl (.inr ⟨hag, hy⟩)
              exact ⟨z, h3, .lf _ _ h4⟩
            · cases h1
    · cases h1
  · cases h1
theorem op_load {t : TypeId} {x : Operand} (hT : TabOk P I tb) (ho : o.op = .load t x) (hd : ∀ d, o.dst = some d → d < nt) (hself : selfOk gd o.dst = true)
    (h : @opK L (Option ρ) (semL cs) (semF ρ) (semR ρ cs ls) tb st gd o.dst o.type o.op k = some r) : ∃ st', k st' = some r ∧ Does P I φ β nt o st gd st' := by
  rw [ho] at h
  simp only [opK] at h
  obtain ⟨xv, hx, h1⟩ := oCase_some h
  clear h
  obtain ⟨i, hti, h⟩ := oCase_some h1
  clear h1
  have hi := ti_facts (hT t i hti)
  have run : ∀ (a : Act) (w : World) z, (Instr.loadAt t (a.eval x)).run P w = .ok z w → (execOp a.eval o).run P w = .ok (.value z) w := by
    intro a w z hz
    unfold execOp
    simp only [ho]
    exact run_v hz
  split at h
  · rename_i l
    obtain ⟨y, h1, hy⟩ := loadK_ok (P := P) (I := I) (φ := φ) (β := β) hi h
    refine ret_case h1 hd hself fun ac w g hiv he hn hh hon => ?_
    obtain ⟨z, h2, h3⟩ := hy (onL_of hon) hiv (evalO_ok (P := P) (I := I) (φ := φ) (g := g) (w := w) he hn hh hx)
    exact ⟨z, run ac w z h2, h3⟩
  · rename_i v
    split at h
    · rename_i hdec
      have hty : i.ty = v.ty := of_decide_eq_true hdec
      refine ret_case h hd hself fun ac w g hiv he hn hh hon => ?_
      have ha := evalO_ok (P := P) (I := I) (φ := φ) (g := g) (w := w) he hn hh hx
      generalize hu : ac.eval x = u at ha
      have hlen : (trcL I φ v).length = P.cellsOf t := by
        show (trc I φ v.ty v.val).length = _
        rw [trc_length, ← hty, hi.flat]
      cases ha with
      | fp _ b off us hF hc hr =>
        cases hag : i.agg with
        | true =>
          have hyag : v.ty.isAgg = true := by rw [← hty, hi.isAgg, hag]
          have htr : trL I φ v = .ag (trcL I φ v) := tr_agg v.ty hyag v.val
          refine ⟨_, run ac w _ (by
            rw [hu]
            refine run_loadAt_agg hi.kn (us := us) (fun j hj => ?_) (by rw [← hi.agg]; exact hag)
            have hjl : j < (trcL I φ v).length := by rw [hlen]; exact hj
            exact hc j (trcL I φ v)[j] (by simp [hjl])), .lf _ _ ?_⟩
          rw [htr]
          refine .ag _ _ us (by simp [hlen]) (fun j c hj => ?_) fun j c hj => hr j c hj
          have : j < P.cellsOf t := by rw [← hlen]; exact lt_of_get hj
          simp [this]
        | false =>
          have hyag : v.ty.isAgg = false := by rw [← hty, hi.isAgg, hag]
          have h1 : (trcL I φ v)[0]? = some (trL I φ v) := by
            have : trcL I φ v = [trL I φ v] := tr_single v.ty hyag v.val
            rw [this]; rfl
          have h2 := hc 0 _ h1
          exact ⟨us 0, run ac w _ (by rw [hu]; exact run_loadAt_one hi.kn h2 (by rw [← hi.agg]; exact hag)), .lf _ _ (hr 0 _ h1)⟩
    · cases h
  · cases h
end Go.Y
namespace Go.Y
open Go.Eng (T RepT RepM SRep Kept Base G SameOn VRep Split Live Free kn)
variable {P : Program} {I : Ids} {φ : FnP} {β : Base} {nt : Nat} {cs : List (Nat × Con)}
variable {ρ : Type} {ls : List (Nat × LoopC ρ)} {r : ρ} {tb : Tabs} {st : St L} {gd : Option (Gd L)} {k : St L → Option ρ} {o : Oper}
def pk1 (cs : List (Nat × Con)) (st : St L) : AV L → Option L
  | .lf v => some v
  | .tl v => some v
  | .zs e a => some ⟨.sl e a, ([] : List a.den)⟩
  | .ar l => @peekA L (semL cs) st l
  | _ => none
def pkL (cs : List (Nat × Con)) (st : St L) : List (AV L) → Option (List L)
  | [] => some []
  | c :: r => match pk1 cs st c, pkL cs st r with
    | some v, some vs => some (v :: vs)
    | _, _ => none
def pk (cs : List (Nat × Con)) (st : St L) : AV L → Option L
  | .ag t ps => match t.isAgg with
    | true => match pkL cs st ps with
      | some vs => @packAll L (semL cs) t vs
      | none => none
    | false => none
  | .fn f [] => fnL cs f
  | .fn _ (_ :: _) => none
  | x => pk1 cs st x
theorem peekL_pk {g : Option L} : ∀ (ps : List (AV L)) (acc : List L) (f : List L → Option ρ), @peekK.peekL L (Option ρ) (semL cs) (semF ρ) st ps acc f = some r → ∃ vs, pkL cs st ps = some vs ∧ f (acc.reverse ++ vs) = some r
  | [], acc, f, h => ⟨[], rfl, by simpa [peekK.peekL] using h⟩
  | c :: ps, acc, f, h => by
    have step : ∀ v, pk1 cs st c = some v → @peekK.peekL L (Option ρ) (semL cs) (semF ρ) st ps (v :: acc) f = some r → ∃ vs, pkL cs st (c :: ps) = some vs ∧ f (acc.reverse ++ vs) = some r := by
      intro v hv h
      obtain ⟨vs, h1, h2⟩ := peekL_pk (g := g) ps (v :: acc) f h
      exact ⟨v :: vs, by simp [pkL, hv, h1], by simpa using h2⟩
    cases c with
    | lf v => exact step v rfl h
    | tl v => exact step v rfl h
    | zs e a => exact step _ rfl h
    | ar l =>
      simp only [peekK.peekL] at h
      obtain ⟨v, hv, h⟩ := oCase_some h
      exact step v hv h
    | _ => simp only [peekK.peekL] at h; cases h
theorem peek_pk {g : Option L} {x : AV L} {f : L → Option ρ} (h : @peekK L (Option ρ) (semL cs) (semF ρ) st g x f = some r) : ∃ v, pk cs st x = some v ∧ f v = some r := by
  cases x with
  | lf v => exact ⟨v, rfl, h⟩
  | tl v => exact ⟨v, rfl, h⟩
  | zs e a => exact ⟨_, rfl, h⟩
  | ar l =>
    simp only [peekK] at h
    obtain ⟨v, hv, h⟩ := oCase_some h
    exact ⟨v, hv, h⟩
  | ag t ps =>
    simp only [peekK] at h
    split at h
    · rename_i ht
      obtain ⟨vs, h1, h2⟩ := peekL_pk (g := g) ps [] _ h
      obtain ⟨v, hv, h⟩ := oCase_some h2
      exact ⟨v, by simpa [pk, ht, h1] using hv, h⟩
    · cases h
  | fn f ps =>
    cases ps with
    | nil =>
      simp only [peekK] at h
      obtain ⟨v, hv, h⟩ := oCase_some h
      exact ⟨v, hv, h⟩
    | cons c ps => simp only [peekK] at h; cases h
  | _ => simp only [peekK] at h; cases h
theorem peekAll_pk {g : Option L} : ∀ (xs : List (AV L)) (acc : List L) (f : List L → Option ρ), @peekAll L (Option ρ) (semL cs) (semF ρ) st g xs acc f = some r → ∃ vs : List L, vs.length = xs.length ∧ (∀ (j : Nat) x, xs[j]? = some x → ∃ v, vs[j]? = some v ∧ pk cs st x = some v) ∧ f (acc.reverse ++ vs) = some r
  | [], acc, f, h => ⟨[], rfl, fun j x hj => by simp at hj, by simpa [peekAll] using h⟩
  | x :: xs, acc, f, h => by
    simp only [peekAll] at h
    obtain ⟨v, hv, h1⟩ := peek_pk h
    obtain ⟨vs, h2, h3, h4⟩ := peekAll_pk xs (v :: acc) f h1
    refine ⟨v :: vs, by simp [h2], fun j y hj => ?_, by simpa using h4⟩
    cases j with
    | zero => simp only [List.getElem?_cons_zero, Option.some.injEq] at hj; subst hj; exact ⟨v, rfl, hv⟩
    | succ j => exact h3 j y (by simpa using hj)
theorem cellAt_set {k0 j0 : Nat} {c0 c1 : Cell L} {r0 : Root L} (hr : get st.sto k0 = some r0) (hc : r0.cells[j0]? = some c0) (l : Loc L) :
    cellAt (setCell st k0 j0 c1) l = if l.root = k0 ∧ l.off = j0 ∧ l.gen = r0.gen then some c1 else cellAt st l := by
  have hget := get_setCell st k0 j0 c1 r0 hr
  unfold cellAt rootAt
  rw [hget]
  by_cases hk : l.root = k0
  · rw [if_pos hk, hk, hr]
    simp only
    cases hb : Nat.beq r0.gen l.gen with
    | false =>
      have : ¬ (l.gen = r0.gen) := by
        intro e; rw [e, Nat.beq_refl] at hb; cases hb
      simp [this]
    | true =>
      have hg := (beq_iff _ _).1 hb
      simp only [getL_eq]
      by_cases hj : l.off = j0
      · have hlt := lt_of_get hc
        simp [hj, hg, List.getElem?_set, hlt]
      · simp [hj, List.getElem?_set, Ne.symm hj]
  · rw [if_neg hk]
    simp [hk]
theorem peekA_freezeL (l l' : Loc L) : @peekA L (semL cs) (freezeL st l') l = @peekA L (semL cs) st l := by
  unfold freezeL
  split
  · rename_i s d v hc
    obtain ⟨r0, h1, h2, h3⟩ := cellAt_iff.1 hc
    unfold peekA
    rw [cellAt_set h1 h3]
    split
    · by_cases hcond : l.root = l'.root ∧ l.off = l'.off ∧ l.gen = r0.gen
      · rw [if_pos hcond]
        have : cellAt st l = some ⟨s, .o d v⟩ := cellAt_iff.2 ⟨r0, by rw [hcond.1]; exact h1, hcond.2.2.symm, by rw [hcond.2.1]; exact h3⟩
        rw [this]
      · rw [if_neg hcond]
    · rfl
  · rfl
theorem pk1_freezeL (l : Loc L) (x : AV L) : pk1 cs (freezeL st l) x = pk1 cs st x := by
  cases x <;> first | rfl | exact peekA_freezeL _ _
theorem pkL_freezeL (l : Loc L) (ps : List (AV L)) : pkL cs (freezeL st l) ps = pkL cs st ps := by
  induction ps with
  | nil => rfl
  | cons c ps ih => simp only [pkL, pk1_freezeL, ih]
theorem pk_freezeL (l : Loc L) (x : AV L) : pk cs (freezeL st l) x = pk cs st x := by
  cases x with
  | ag t ps => simp only [pk, pkL_freezeL]
  | fn f ps => cases ps <;> rfl
  | ar l' => exact pk1_freezeL (cs := cs) (st := st) l (.ar l')
  | _ => rfl
theorem freezeL_ok {g : G} {w : World} (hi : Inv P I φ β st g w) (l : Loc L) : ∃ g', Pass P I φ st g w (freezeL st l) g' w ∧ Inv P I φ β (freezeL st l) g' w ∧
    ∀ v u, @peekA L (semL cs) st l = some v → ARep P I φ st g w (.ar l) u → RepT P w g'.F (trL I φ v) u := by
  unfold freezeL
  split
  · rename_i s d v hc
    obtain ⟨r0, h1, h2, h3⟩ := cellAt_iff.1 hc
    obtain ⟨g', h4, h5, _, u, hu, hr⟩ := inv_freeze hi h1 h3
    refine ⟨g', h4, h5, fun v' u' hp ha => ?_⟩
    obtain ⟨r1, s1, d1, e1, e2, e3, e4, e5, e6, e7, _⟩ := peekA_ok hi hp ha
    rw [h1, Option.some.injEq] at e1
    subst e1
    rw [h3, Option.some.injEq, Cell.mk.injEq, E.o.injEq] at e3
    rw [hu, Option.some.injEq] at e7
    rw [← e3.2.2, ← e7]
    exact hr
  · rename_i hno
    refine ⟨g, Pass.refl _ _ _, hi, fun v' u' hp ha => ?_⟩
    exfalso
    unfold peekA at hp
    split at hp
    · split at hp
      · rename_i s d v hc
        exact hno s d v hc
      · cases hp
    · cases hp
theorem freezeL_env (l : Loc L) : (freezeL st l).env = st.env ∧ (freezeL st l).gnv = st.gnv := by
  unfold freezeL
  split
  · unfold setCell
    split <;> exact ⟨rfl, rfl⟩
  · exact ⟨rfl, rfl⟩
theorem frP_env (c : AV L) : (frP st c).env = st.env ∧ (frP st c).gnv = st.gnv := by
  cases c <;> first | exact ⟨rfl, rfl⟩ | exact freezeL_env _
theorem pk_frP (c x : AV L) : pk cs (frP st c) x = pk cs st x := by
  cases c with
  | ar l => exact pk_freezeL l x
  | _ => rfl
theorem pkL_frP (c : AV L) (ps : List (AV L)) : pkL cs (frP st c) ps = pkL cs st ps := by
  cases c with
  | ar l => exact pkL_freezeL l ps
  | _ => rfl
theorem frP_ok {g : G} {w : World} (hi : Inv P I φ β st g w) (c : AV L) : ∃ g', Pass P I φ st g w (frP st c) g' w ∧ Inv P I φ β (frP st c) g' w ∧
    ∀ v u, pk1 cs st c = some v → ARep P I φ st g w c u → RepT P w g'.F (trL I φ v) u := by
  cases c with
  | ar l => exact freezeL_ok hi l
  | lf v =>
    refine ⟨g, Pass.refl _ _ _, hi, fun v' u h ha => ?_⟩
    simp only [pk1, Option.some.injEq] at h; subst h; exact arep_lf ha
  | tl v =>
    refine ⟨g, Pass.refl _ _ _, hi, fun v' u h ha => ?_⟩
    simp only [pk1, Option.some.injEq] at h; subst h
    cases ha with | tl _ _ _ hr => exact hr
  | zs e a =>
    refine ⟨g, Pass.refl _ _ _, hi, fun v' u h ha => ?_⟩
    simp only [pk1, Option.some.injEq] at h; subst h
    cases ha with | zs _ _ _ hr => exact rep_zs hr
  | _ => exact ⟨g, Pass.refl _ _ _, hi, fun v' u h ha => by cases h⟩
theorem frL_env (ps : List (AV L)) : ∀ st : St L, (frL st ps).env = st.env ∧ (frL st ps).gnv = st.gnv := by
  induction ps with
  | nil => intro st; exact ⟨rfl, rfl⟩
  | cons c ps ih =>
    intro st
    have h1 := ih (frP st c)
    have h2 := frP_env (st := st) c
    exact ⟨h1.1.trans h2.1, h1.2.trans h2.2⟩
theorem pk_frL (ps : List (AV L)) (x : AV L) : ∀ st : St L, pk cs (frL st ps) x = pk cs st x := by
  induction ps with
  | nil => intro st; rfl
  | cons c ps ih => intro st; exact (ih (frP st c)).trans (pk_frP c x)
theorem frL_ok {w : World} (ps : List (AV L)) : ∀ (st : St L) (g : G), Inv P I φ β st g w → ∃ g', Pass P I φ st g w (frL st ps) g' w ∧ Inv P I φ β (frL st ps) g' w ∧
    ∀ vs, pkL cs st ps = some vs → vs.length = ps.length ∧ ∀ (j : Nat) c v u, ps[j]? = some c → vs[j]? = some v → ARep P I φ st g w c u → RepT P w g'.F (trL I φ v) u := by
  induction ps with
  | nil =>
    intro st g hi
    refine ⟨g, Pass.refl _ _ _, hi, fun vs h => ?_⟩
    simp only [pkL, Option.some.injEq] at h
    subst h
    exact ⟨rfl, fun j c v u hj => by simp at hj⟩
  | cons c ps ih =>
    intro st g hi
    obtain ⟨g1, hp1, hi1, h1⟩ := frP_ok (cs := cs) hi c
    obtain ⟨g2, hp2, hi2, h2⟩ := ih (frP st c) g1 hi1
    refine ⟨g2, hp1.trans hp2, hi2, fun vs h => ?_⟩
    simp only [pkL] at h
    split at h
    · rename_i v0 vs0 hv hvs
      simp only [Option.some.injEq] at h
      subst h
      obtain ⟨h3, h4⟩ := h2 vs0 (by rw [pkL_frP]; exact hvs)
      refine ⟨by simp [h3], fun j c1 v u hj hvj ha => ?_⟩
      cases j with
      | zero =>
        simp only [List.getElem?_cons_zero, Option.some.injEq] at hj hvj
        subst hj; subst hvj
        exact hp2.rep (h1 v0 u hv ha)
      | succ j => exact h4 j c1 v u (by simpa using hj) (by simpa using hvj) (hp1.a c1 u ha)
    · cases h
theorem freezeA_env (x : AV L) : (freezeA st x).env = st.env ∧ (freezeA st x).gnv = st.gnv := by
  cases x with
  | ar l => exact freezeL_env l
  | ag t ps => exact frL_env ps st
  | _ => exact ⟨rfl, rfl⟩
theorem pk_freezeA (x y : AV L) : pk cs (freezeA st x) y = pk cs st y := by
  cases x with
  | ar l => exact pk_freezeL l y
  | ag t ps => exact pk_frL ps y st
  | _ => rfl
theorem freezeA_ok {g : G} {w : World} (hf : FnsOk φ cs) (hi : Inv P I φ β st g w) (x : AV L) : ∃ g', Pass P I φ st g w (freezeA st x) g' w ∧ Inv P I φ β (freezeA st x) g' w ∧
    ∀ v u, pk cs st x = some v → ARep P I φ st g w x u → RepT P w g'.F (trL I φ v) u := by
  cases x with
  | ag t ps =>
    obtain ⟨g', h1, h2, h3⟩ := frL_ok (cs := cs) (P := P) (I := I) (φ := φ) ps st g hi
    refine ⟨g', h1, h2, fun v u h ha => ?_⟩
    simp only [pk] at h
    split at h
    · rename_i ht
      split at h
      · rename_i vs hvs
        obtain ⟨h4, h5⟩ := h3 vs hvs
        cases ha with
        | ag _ _ vals us hl hv hr => exact rep_agg hl hv h4 (fun j c v0 hc hv0 => h5 j c v0 _ hc hv0 (hr j c hc)) h ht
      · cases h
    · cases h
  | fn f ps =>
    refine ⟨g, Pass.refl _ _ _, hi, fun v u h ha => ?_⟩
    cases ps with
    | nil =>
      have h : fnL cs f = some v := h
      unfold fnL at h
      split at h
      · rename_i c hc
        simp only [Option.some.injEq] at h
        subst h
        cases ha with
        | fn _ _ vals us hl hvv hr =>
          have : vals = #[] := by simpa using hl
          subst this
          exact .fl _ _ (hf f c hc _ _)
      · cases h
    | cons c ps => cases h
  | ar l => exact freezeL_ok hi l
  | lf v => exact frP_ok (cs := cs) hi (.lf v)
  | tl v => exact frP_ok (cs := cs) hi (.tl v)
  | zs e a => exact frP_ok (cs := cs) hi (.zs e a)
  | pt l => exact ⟨g, Pass.refl _ _ _, hi, fun v u h => by cases h⟩
  | fp v => exact ⟨g, Pass.refl _ _ _, hi, fun v u h => by cases h⟩
  | tu vs => exact ⟨g, Pass.refl _ _ _, hi, fun v u h => by cases h⟩
  | u => exact ⟨g, Pass.refl _ _ _, hi, fun v u h => by cases h⟩
theorem freezeAll_env (xs : List (AV L)) : ∀ st : St L, (freezeAll st xs).env = st.env ∧ (freezeAll st xs).gnv = st.gnv := by
  induction xs with
  | nil => intro st; exact ⟨rfl, rfl⟩
  | cons x xs ih =>
    intro st
    have h1 := ih (freezeA st x)
    have h2 := freezeA_env (st := st) x
    exact ⟨h1.1.trans h2.1, h1.2.trans h2.2⟩
theorem freezeAll_ok {w : World} (hf : FnsOk φ cs) (xs : List (AV L)) : ∀ (st : St L) (g : G), Inv P I φ β st g w → ∃ g', Pass P I φ st g w (freezeAll st xs) g' w ∧ Inv P I φ β (freezeAll st xs) g' w ∧
    ∀ (j : Nat) x v u, xs[j]? = some x → pk cs st x = some v → ARep P I φ st g w x u → RepT P w g'.F (trL I φ v) u := by
  induction xs with
  | nil => intro st g hi; exact ⟨g, Pass.refl _ _ _, hi, fun j x v u hj => by simp at hj⟩
  | cons x xs ih =>
    intro st g hi
    obtain ⟨g1, hp1, hi1, h1⟩ := freezeA_ok hf hi x
    obtain ⟨g2, hp2, hi2, h2⟩ := ih (freezeA st x) g1 hi1
    refine ⟨g2, hp1.trans hp2, hi2, fun j y v u hj hv ha => ?_⟩
    cases j with
    | zero =>
      simp only [List.getElem?_cons_zero, Option.some.injEq] at hj
      subst hj
      exact hp2.rep (h1 v u hv ha)
    | succ j => exact h2 j y v u (by simpa using hj) (by rw [pk_freezeA]; exact hv) (hp1.a y u ha)
end Go.Y
namespace Go.Y
open Go.Eng (T RepT RepM SRep Kept Base G SameOn VRep Split Live Free kn)
variable {P : Program} {I : Ids} {φ : FnP} {β : Base} {nt : Nat} {cs : List (Nat × Con)}
variable {ρ : Type} {ls : List (Nat × LoopC ρ)} {r : ρ} {tb : Tabs} {st : St L} {gd : Option (Gd L)} {k : St L → Option ρ} {o : Oper}
theorem ret_turn {st1 : St L} {y : AV L} (h : (match o.dst with | some d => k (putE st1 gd d y) | none => k st) = some r) (hd : ∀ d, o.dst = some d → d < nt) (hself : selfOk gd o.dst = true) (henv : st1.env = st.env) (hgnv : st1.gnv = st.gnv)
    (hrun : ∀ (a : Act) (w : World) (g : G), Inv P I φ β st g w → EnvR P I φ st g w st.env a.tmps → GnvR P I φ st g w st.gnv a.tmps → Hold a.tmps (keysOf gd) → On gd → ∃ u g', (execOp a.eval o).run P w = .ok (.value u) w ∧
      Pass P I φ st g w st1 g' w ∧ Inv P I φ β st1 g' w ∧ ARep P I φ st1 g' w y u)
    (hskip : ∀ (w : World) (g : G), Inv P I φ β st g w → ∃ g', Pass P I φ st g w st1 g' w ∧ Inv P I φ β st1 g' w) :
    ∃ st', k st' = some r ∧ Does P I φ β nt o st gd st' := by
  cases hdst : o.dst with
  | none =>
    rw [hdst] at h
    exact ⟨st, h, does_none hdst fun a w g hi he hn hh hon => by obtain ⟨u, g', h1, _⟩ := hrun a w g hi he hn hh hon; exact ⟨u, h1⟩⟩
  | some d =>
    rw [hdst] at h
    exact ⟨_, h, does_val hdst (hd d hdst) hself henv hgnv (fun a w g hi he hn hh hon => by
      obtain ⟨u, g', h1, h2, h3, h4⟩ := hrun a w g hi he hn hh hon
      exact ⟨u, w, g', h1, h2, h3, h4⟩) hskip⟩
theorem sub_rep {w : World} {F : Nat → Prop} {e : TypeId} {a : Ty} {l : List a.den} {b : Option Addr} {n cap lo hi : Nat} (h : RepT P w F (trL I φ ⟨.sl e a, l⟩) (.slice b n cap)) (h1 : lo ≤ hi) (h2 : hi ≤ n) :
    RepT P w F (trL I φ ⟨.sl e a, ((l.take hi).drop lo : List a.den)⟩) (.slice (if cap = lo then b else b.map (·.add (lo * P.cellsOf e))) (hi - lo) (cap - lo)) ∧ n = l.length ∧ n ≤ cap := by
  have h : RepT P w F (.sl e false (l.map fun x => tr I φ a x)) (.slice b n cap) := h
  show RepT P w F (.sl e false (((l.take hi).drop lo).map fun x => tr I φ a x)) _ ∧ _
  have hm : ((l.take hi).drop lo).map (fun x => tr I φ a x) = ((l.map fun x => tr I φ a x).take hi).drop lo := by rw [List.map_drop, List.map_take]
  rw [hm]
  have hlen : (l.map fun x => tr I φ a x).length = l.length := List.length_map ..
  generalize (l.map fun x => tr I φ a x) = xs at h hlen
  cases h with
  | nsl =>
    have h3 : hi = 0 := by simpa using h2
    have h4 : lo = 0 := by omega
    subst h3; subst h4
    refine ⟨?_, by simpa using hlen, Nat.le_refl _⟩
    simp only [List.take_zero, List.drop_zero, if_true, Nat.sub_zero]
    exact .nsl e false
  | esl _ _ b cap =>
    have h3 : hi = 0 := by simpa using h2
    have h4 : lo = 0 := by omega
    subst h3; subst h4
    refine ⟨?_, by simpa using hlen, Nat.zero_le _⟩
    simp only [List.take_zero, List.drop_zero, Nat.sub_zero, Nat.zero_mul, Option.map_some]
    split
    · exact .esl e false b cap
    · exact .esl e false _ cap
  | sl _ _ _ b off cap us hF hs hl hc hr =>
    refine ⟨?_, hlen, hl⟩
    have hsub : ∀ x ∈ (xs.take hi).drop lo, x ∈ xs := fun x hx => List.mem_of_mem_take (List.mem_of_mem_drop hx)
    have hl2 : ((xs.take hi).drop lo).length = hi - lo := by rw [List.length_drop, List.length_take]; omega
    by_cases hcl : cap = lo
    · have h5 : hi = lo := by omega
      rw [if_pos hcl]
      have hnil : (xs.take hi).drop lo = [] := List.eq_nil_of_length_eq_zero (by rw [hl2]; omega)
      rw [hnil]
      have : hi - lo = ([] : List T).length := by simp; omega
      rw [this]
      exact .sl e false [] b off _ (fun _ => undef) (fun h => absurd rfl h) (fun x hx => by simp at hx) (Nat.zero_le _) (fun j t hj => by simp [Eng.flat] at hj) (fun j t hj => by simp [Eng.flat] at hj)
    · rw [if_neg hcl]
      simp only [Option.map_some, Eng.addr_add]
      rw [← hl2]
      have hidx : ∀ j t, (Eng.flat ((xs.take hi).drop lo))[j]? = some t → (Eng.flat xs)[lo * P.cellsOf e + j]? = some t := by
        intro j t hj
        have e1 : Eng.flat xs = Eng.flat (xs.take lo) ++ (Eng.flat ((xs.take hi).drop lo) ++ Eng.flat (xs.drop hi)) := by
          unfold Eng.flat
          rw [← List.flatMap_append, ← List.flatMap_append]
          congr 1
          have e3 : (xs.take hi).drop lo ++ xs.drop hi = xs.drop lo := by
            have e4 := List.take_append_drop hi xs
            have e5 : xs.drop lo = (xs.take hi ++ xs.drop hi).drop lo := by rw [e4]
            rw [e5, List.drop_append_of_le_length (by rw [List.length_take]; omega)]
          rw [e3, List.take_append_drop]
        have e2 : (Eng.flat (xs.take lo)).length = lo * P.cellsOf e := by
          rw [Eng.flat_length (fun x hx => hs x (List.mem_of_mem_take hx)), List.length_take]
          congr 1
          omega
        rw [e1, List.getElem?_append_right (by omega), e2, Nat.add_sub_cancel_left, List.getElem?_append_left (lt_of_get hj)]
        exact hj
      refine .sl e false _ b (off + lo * P.cellsOf e) (cap - lo) (fun j => us (lo * P.cellsOf e + j)) (fun hne => hF fun e0 => hne (by rw [e0]; simp)) (fun x hx => hs x (hsub x hx)) (by rw [hl2]; omega) (fun j t hj => ?_) fun j t hj => hr _ t (hidx j t hj)
      rw [Nat.add_assoc]
      exact hc _ t (hidx j t hj)
theorem run_bound {k1 : IntKind} {n : Int} {y : Nat} {c : BoundsCode} {w : World} (h0 : 0 ≤ n) (h1 : n ≤ y) : (Instr.sliceBound (.int k1 n) y c).run P w = .ok n.toNat w := by
  unfold Instr.sliceBound
  simp only [asIntOf, Sem.run_bind, Sem.run_pure, Result.andThen_ok, if_pos (And.intro h0 h1)]
theorem run_bounds {b : Bool} {len cap : Nat} {low high : Option Value} {lo hi : Int} {w : World} (hlo : (low = none ∧ lo = 0) ∨ ∃ kk, low = some (.int kk lo)) (hhi : (high = none ∧ hi = len) ∨ ∃ kk, high = some (.int kk hi)) (h0 : 0 ≤ lo) (h1 : lo ≤ hi) (h2 : hi ≤ len) (h3 : len ≤ cap) :
    (Instr.sliceBounds b len cap low high none).run P w = .ok (lo.toNat, hi.toNat, cap) w := by
  unfold Instr.sliceBounds
  have e1 : hi.toNat ≤ cap := by omega
  rcases hhi with ⟨rfl, rfl⟩ | ⟨k2, rfl⟩
  · rcases hlo with ⟨rfl, rfl⟩ | ⟨k1, rfl⟩
    · simp [Sem.run_bind, Sem.run_pure]
    · simp only [Sem.run_bind, Sem.run_pure, Result.andThen_ok, run_bound h0 h1, Int.toNat_natCast]
  · have e2 : hi ≤ (cap : Int) := by omega
    have e3 : lo ≤ (hi.toNat : Int) := by omega
    rcases hlo with ⟨rfl, rfl⟩ | ⟨k1, rfl⟩
    · simp only [Sem.run_bind, Sem.run_pure, Result.andThen_ok, run_bound (by omega : 0 ≤ hi) e2, Int.toNat_zero]
    · simp only [Sem.run_bind, Sem.run_pure, Result.andThen_ok, run_bound (by omega : 0 ≤ hi) e2, run_bound h0 e3]
theorem run_slice_str {t : TypeId} {s : List UInt8} {low high : Option Value} {lo hi : Int} {w : World} (hp : P.underlying t = some .string) (hlo : (low = none ∧ lo = 0) ∨ ∃ kk, low = some (.int kk lo)) (hhi : (high = none ∧ hi = s.length) ∨ ∃ kk, high = some (.int kk hi)) (h0 : 0 ≤ lo) (h1 : lo ≤ hi) (h2 : hi ≤ s.length) :
    (Instr.sliceAt t (.string ⟨s.toArray⟩) low high none).run P w = .ok (.string ⟨((s.take hi.toNat).drop lo.toNat).toArray⟩) w := by
  unfold Instr.sliceAt Instr.slice
  simp only [Sem.run_bind, run_underlying hp, Result.andThen_ok, Option.isSome_none, Bool.false_eq_true, if_false, mk_size, Sem.run_pure]
  have hb := run_bounds (P := P) (b := false) (len := s.length) (cap := s.length) (w := w) hlo hhi h0 h1 h2 (Nat.le_refl _)
  simp only [Sem.run_bind, hb, Result.andThen_ok, Sem.run_pure]
  congr 2
  apply ByteArray.ext
  have hd : ∀ (a b : Nat), (ByteArray.extract ⟨s.toArray⟩ a b).data = s.toArray.extract a b := by
    intro a b
    simp
  rw [hd]
  apply Array.toList_inj.1
  simp only [List.extract_toArray, List.extract_eq_take_drop]
  rw [List.drop_take]
theorem run_slice_sl {t e : TypeId} {b : Option Addr} {len cap : Nat} {low high : Option Value} {lo hi : Int} {w : World} (hp : P.underlying t = some (.slice e)) (hk : kn P e = true) (hlo : (low = none ∧ lo = 0) ∨ ∃ kk, low = some (.int kk lo)) (hhi : (high = none ∧ hi = len) ∨ ∃ kk, high = some (.int kk hi)) (h0 : 0 ≤ lo) (h1 : lo ≤ hi) (h2 : hi ≤ len) (h3 : len ≤ cap) :
    (Instr.sliceAt t (.slice b len cap) low high none).run P w = .ok (.slice (if cap = lo.toNat then b else b.map (·.add (lo.toNat * P.cellsOf e))) (hi.toNat - lo.toNat) (cap - lo.toNat)) w := by
  unfold Instr.sliceAt Instr.slice
  have hb := run_bounds (P := P) (b := true) (len := len) (cap := cap) (w := w) hlo hhi h0 h1 h2 h3
  simp only [Sem.run_bind, run_underlying hp, Result.andThen_ok, hb, Eng.run_size hk, Sem.run_pure]
end Go.Y
namespace Go.Y
open Go.Eng (T RepT RepM SRep Kept Base G SameOn VRep Split Live Free kn)
variable {P : Program} {I : Ids} {φ : FnP} {β : Base} {nt : Nat} {cs : List (Nat × Con)}
variable {ρ : Type} {ls : List (Nat × LoopC ρ)} {r : ρ} {tb : Tabs} {st : St L} {gd : Option (Gd L)} {k : St L → Option ρ} {o : Oper}
theorem checkIdx_some {g : Option L} {n hi : L} {q : Option ρ} (h : @checkIdx L (Option ρ) (semL cs) (semF ρ) (semR ρ cs ls) g n hi q = some r) :
    q = some r ∧ ∃ k1 a k2 b, n = ⟨.int k1, a⟩ ∧ hi = ⟨.int k2, b⟩ ∧ (OnL g → (0 : Int) ≤ a ∧ (a : Int) ≤ b) := by
  unfold checkIdx at h
  obtain ⟨c1, hc1, h1⟩ := oCase_some h
  clear h
  obtain ⟨c2, hc2, h⟩ := oCase_some h1
  clear h1
  obtain ⟨c, hc, h1⟩ := oCase_some h
  clear h
  obtain ⟨h, cb, hcb, hck⟩ := check_some h1
  clear h1
  refine ⟨h, ?_⟩
  have hc1 : (match n.int with | some (k', b) => binI2 .leq .i64 k' 0 b | none => none) = some c1 := hc1
  have hc2 : binL .leq n hi = some c2 := hc2
  cases hn : n.int with
  | none => rw [hn] at hc1; cases hc1
  | some q1 =>
    obtain ⟨k1, a⟩ := q1
    rw [hn] at hc1
    unfold binL at hc2
    rw [hn] at hc2
    simp only at hc2
    cases hh : hi.int with
    | none => rw [hh] at hc2; cases hc2
    | some q2 =>
      obtain ⟨k2, b⟩ := q2
      rw [hh] at hc2
      simp only [binI2] at hc1 hc2
      split at hc1
      · split at hc2
        · simp only [binI, Option.some.injEq] at hc1 hc2
          subst hc1; subst hc2
          have hc : some (mkB (decide (0 ≤ a) && decide (a ≤ b))) = some c := hc
          simp only [Option.some.injEq] at hc
          subst hc
          have hcb := bool_mkB hcb
          refine ⟨k1, a, k2, b, int_some hn, int_some hh, fun hon => ?_⟩
          rw [hck hon] at hcb
          simpa using hcb
        · cases hc2
      · cases hc1
theorem sameRow_some {A B : Ty} (h : sameRow A B = true) : (A = .str ∧ B = .str) ∨ ∃ e a b, A = .sl e a ∧ B = .sl e b := by
  unfold sameRow at h
  split at h
  · exact .inl ⟨rfl, rfl⟩
  · rename_i e a e' b
    have := (beq_iff _ _).1 h
    subst this
    exact .inr ⟨e, a, b, rfl, rfl⟩
  · cases h
def BdOf (cs : List (Nat × Con)) (tb : Tabs) (st : St L) (ks : List (Nat × Bool)) (d : Int) (x : Option Operand) (k1 : IntKind) (n : Int) : Prop :=
  (x = none ∧ n = d) ∨ ∃ y, x = some y ∧ @evalO L (semL cs) tb st ks 0 y = some (.lf ⟨.int k1, n⟩)
theorem bd_val {g : G} {w : World} {ac : Act} {ks : List (Nat × Bool)} {d n : Int} {x : Option Operand} {k1 : IntKind} (he : EnvR P I φ st g w st.env ac.tmps) (hn : GnvR P I φ st g w st.gnv ac.tmps) (hh : Hold ac.tmps ks) (h : BdOf cs tb st ks d x k1 n) :
    (x.map ac.eval = none ∧ n = d) ∨ ∃ kk, x.map ac.eval = some (.int kk n) := by
  rcases h with ⟨rfl, rfl⟩ | ⟨y, rfl, hy⟩
  · exact .inl ⟨rfl, rfl⟩
  · exact .inr ⟨k1, by simp [repI (arep_lf (evalO_ok (P := P) (I := I) (φ := φ) (g := g) (w := w) he hn hh hy))]⟩
def BdL (cs : List (Nat × Con)) (tb : Tabs) (st : St L) (ks : List (Nat × Bool)) (d : L) (x : Option Operand) (v : L) : Prop :=
  (x = none ∧ v = d) ∨ ∃ y, x = some y ∧ @evalO L (semL cs) tb st ks 0 y = some (.lf v)
theorem bdL {ks : List (Nat × Bool)} {d n : Int} {x : Option Operand} {k1 : IntKind} (h : BdL cs tb st ks (mkI .i64 d) x ⟨.int k1, n⟩) : BdOf cs tb st ks d x k1 n := by
  rcases h with ⟨h1, h2⟩ | ⟨y, h1, h2⟩
  · refine .inl ⟨h1, ?_⟩
    simp only [mkI, L.mk.injEq, Ty.int.injEq] at h2
    obtain ⟨rfl, h2⟩ := h2
    simpa using h2
  · exact .inr ⟨y, h1, h2⟩
theorem op_slice {t : TypeId} {x : Operand} {lo hi mx : Option Operand} (hT : TabOk P I tb) (hf : FnsOk φ cs) (ho : o.op = .slice t x lo hi mx) (hd : ∀ d, o.dst = some d → d < nt) (hself : selfOk gd o.dst = true)
    (h : @opK L (Option ρ) (semL cs) (semF ρ) (semR ρ cs ls) tb st gd o.dst o.type o.op k = some r) : ∃ st', k st' = some r ∧ Does P I φ β nt o st gd st' := by
  rw [ho] at h
  simp only [opK] at h
  obtain ⟨xv, hx, h1⟩ := oCase_some h
  clear h
  obtain ⟨i, hti, h⟩ := oCase_some h1
  clear h1
  have hI := ti_facts (hT t i hti)
  have exec : ∀ (ac : Act) (w : World) z, (Instr.sliceAt t (ac.eval x) (lo.map ac.eval) (hi.map ac.eval) (mx.map ac.eval)).run P w = .ok z w → (execOp ac.eval o).run P w = .ok (.value z) w := by
    intro ac w z hz
    unfold execOp
    simp only [ho]
    exact run_v hz
  split at h
  ·
    rename_i m
    split at h
    · rename_i hm hh0
      have empty : ∀ (e : TypeId) (a : Ty), sameSl i.ty (.sl e a) = true → (∀ (ac : Act) (w : World) (g : G), Inv P I φ β st g w → EnvR P I φ st g w st.env ac.tmps → GnvR P I φ st g w st.gnv ac.tmps → Hold ac.tmps (keysOf gd) → ∃ b n c, ac.eval x = .slice b n c) →
          (match o.dst with | some d => k (putE st gd d (.zs e a)) | none => k st) = some r → ∃ st', k st' = some r ∧ Does P I φ β nt o st gd st' := by
        intro e a hs hv h
        obtain ⟨e', A, B, hje, hve⟩ := sameSl_some hs
        simp only [Ty.sl.injEq] at hve
        obtain ⟨rfl, rfl⟩ := hve
        obtain ⟨hp, _, hel⟩ := form_sl hI.form hje
        have c0 : ∀ (y : Operand) (ac : Act), constInt y = some 0 → ∃ kk, ac.eval y = .int kk 0 := by
          intro y ac hy
          unfold constInt at hy
          split at hy
          · rename_i kk n
            simp only [Option.some.injEq] at hy
            subst hy
            exact ⟨kk, rfl⟩
          · cases hy
        obtain ⟨hb, rfl, hhb⟩ : ∃ hb, hi = some hb ∧ constInt hb = some 0 := by
          cases hi with
          | none => cases hh0
          | some hb => exact ⟨hb, rfl, hh0⟩
        refine ret_case h hd hself fun ac w g hiv he hn hh hon => ?_
        obtain ⟨b, n, c, hu⟩ := hv ac w g hiv he hn hh
        obtain ⟨k1, hm0⟩ := c0 m ac hm
        obtain ⟨k2, hh1⟩ := c0 hb ac hhb
        refine ⟨.slice b 0 0, exec ac w _ ?_, .zs _ _ _ ?_⟩
        · rw [hu]
          simp only [Option.map_some, Option.map_none, hm0, hh1]
          unfold Instr.sliceAt Instr.slice Instr.sliceBounds
          simp only [Sem.run_bind, run_underlying hp, Result.andThen_ok, Sem.run_pure, if_true, run_bound (Int.le_refl 0) (Int.natCast_nonneg _), Int.toNat_zero, Eng.run_size (el_facts hel).2.2.1, Nat.sub_self]
        · cases b with
          | none => exact .inl rfl
          | some b' =>
            exact .inr ⟨b', rfl⟩
      split at h
      · rename_i e a
        split at h
        · rename_i hs
          refine empty e a hs (fun ac w g hiv he hn hh => ?_) h
          have hax := evalO_ok (P := P) (I := I) (φ := φ) (g := g) (w := w) he hn hh hx
          generalize ac.eval x = u at hax
          cases hax with
          | zs _ _ _ hz =>
            rcases hz with rfl | ⟨b, rfl⟩
            · exact ⟨_, _, _, rfl⟩
            · exact ⟨_, _, _, rfl⟩
        · cases h
      · rename_i y hnz
        obtain ⟨v, h1, hv⟩ := peek_ok (P := P) (I := I) hf h
        clear h
        split at h1
        · rename_i e a hty
          split at h1
          · rename_i hs
            refine empty e a hs (fun ac w g hiv he hn hh => ?_) h1
            have hr := hv hiv _ (evalO_ok (P := P) (I := I) (φ := φ) (g := g) (w := w) he hn hh hx)
            obtain ⟨vty, vv⟩ := v
            have hty : vty = .sl e a := hty
            subst hty
            have hr : RepT P w _ (.sl e false ((vv : List a.den).map fun x => one a (trc I φ a x))) (ac.eval x) := hr
            generalize ((vv : List a.den).map fun x => one a (trc I φ a x)) = xs at hr
            generalize ac.eval x = u at hr
            cases hr with
            | nsl => exact ⟨_, _, _, rfl⟩
            | esl => exact ⟨_, _, _, rfl⟩
            | sl _ _ _ b off cap us => exact ⟨_, _, _, rfl⟩
          · cases h1
        · cases h1
    · cases h
  ·
    obtain ⟨v, h1, h⟩ := peek_pk h
    split at h
    · cases h
    · rename_i hrow
      obtain ⟨n, hn0, h2⟩ := oCase_some h
      clear h
      have fin : ∀ (lv hv : L), BdL cs tb st (keysOf gd) (mkI .i64 0) lo lv → BdL cs tb st (keysOf gd) n hi hv → @checkIdx L (Option ρ) (semL cs) (semF ρ) (semR ρ cs ls) (gd.map (·.c)) hv n (@checkIdx L (Option ρ) (semL cs) (semF ρ) (semR ρ cs ls) (gd.map (·.c)) lv hv (@oCase (Option ρ) (semF ρ) _ (subL v lv hv) "slice" fun w => match o.dst with
          | some d => k (putE (freezeA st xv) gd d (.lf w))
          | none => k st)) = some r → ∃ st', k st' = some r ∧ Does P I φ β nt o st gd st' := by
        intro lv hv hlo0 hhi0 h
        obtain ⟨h3, k2, b, k4, b4, rfl, e2, hc1⟩ := checkIdx_some h
        clear h
        obtain ⟨h, k1, a, k6, b6, rfl, e4, hc2⟩ := checkIdx_some h3
        clear h3
        simp only [L.mk.injEq, Ty.int.injEq] at e4
        obtain ⟨rfl, e4⟩ := e4
        simp only [heq_eq_eq] at e4
        subst e4; subst e2
        have hlo := bdL hlo0
        have hhi : ∀ L0 : Int, (⟨.int k4, b4⟩ : L) = mkI .i64 L0 → BdOf cs tb st (keysOf gd) L0 hi k2 b := fun L0 e => by rw [e] at hhi0; exact bdL hhi0
        obtain ⟨z, hz, h3⟩ := oCase_some h
        clear h
        obtain ⟨vty, vv⟩ := v
        have hrow : sameRow i.ty vty = true := hrow
        refine ret_turn h3 hd hself (freezeA_env xv).1 (freezeA_env xv).2 (fun ac w g hiv he hn hh hon => ?_) fun w g hiv => ?_
        · have hax := evalO_ok (P := P) (I := I) (φ := φ) (g := g) (w := w) he hn hh hx
          obtain ⟨g', hp1, hi1, hfr⟩ := freezeA_ok hf hiv xv
          have hr := hfr _ _ h1 hax
          obtain ⟨c1, c2⟩ := hc1 (onL_of hon)
          obtain ⟨c3, c4⟩ := hc2 (onL_of hon)
          rcases sameRow_some hrow with ⟨hit, rfl⟩ | ⟨e, A, B, hit, rfl⟩
          · have hn0 : some (mkI .i64 (len (vv : List UInt8))) = some (⟨.int k4, b4⟩ : L) := hn0
            simp only [Option.some.injEq] at hn0
            have hb4 : b4 = len (vv : List UInt8) := by
              simp only [mkI, L.mk.injEq, Ty.int.injEq] at hn0
              obtain ⟨rfl, hn0⟩ := hn0
              simp only [heq_eq_eq] at hn0
              exact hn0.symm
            have hu := repS hr
            have hz : some (⟨.str, sub (vv : List UInt8) a b⟩ : L) = some z := hz
            simp only [Option.some.injEq] at hz
            subst hz
            refine ⟨_, g', exec ac w _ ?_, hp1, hi1, .lf _ _ (repS' _)⟩
            rw [hu]
            exact run_slice_str (form_str hI.form hit) (bd_val he hn hh hlo) (bd_val he hn hh (hhi _ hn0.symm)) c3 c4 (by rw [hb4] at c2; exact c2)
          · have hn0 : some (mkI .i64 (len (vv : List B.den))) = some (⟨.int k4, b4⟩ : L) := hn0
            simp only [Option.some.injEq] at hn0
            have hb4 : b4 = len (vv : List B.den) := by
              simp only [mkI, L.mk.injEq, Ty.int.injEq] at hn0
              obtain ⟨rfl, hn0⟩ := hn0
              simp only [heq_eq_eq] at hn0
              exact hn0.symm
            obtain ⟨hp, _, hel⟩ := form_sl hI.form hit
            have hz : some (⟨.sl e B, sub (vv : List B.den) a b⟩ : L) = some z := hz
            simp only [Option.some.injEq] at hz
            subst hz
            obtain ⟨bb, cap, hu⟩ := sl_form hr
            rw [hu] at hr
            have c5 : b ≤ ((vv : List B.den).length : Int) := by rw [hb4] at c2; exact c2
            obtain ⟨hsub, _, hcap⟩ := sub_rep (lo := Int.toNat a) (hi := Int.toNat b) hr (Int.toNat_le_toNat c4) (Int.toNat_le.2 c5)
            refine ⟨_, g', exec ac w _ ?_, hp1, hi1, .lf _ _ hsub⟩
            rw [hu]
            exact run_slice_sl hp (el_facts hel).2.2.1 (bd_val he hn hh hlo) (bd_val he hn hh (hhi _ hn0.symm)) c3 c4 c5 hcap
        · obtain ⟨g', hp1, hi1, _⟩ := freezeA_ok hf hiv xv
          exact ⟨g', hp1, hi1⟩
      cases lo with
      | none =>
        simp only at h2
        cases hi with
        | none => exact fin _ n (.inl ⟨rfl, rfl⟩) (.inl ⟨rfl, rfl⟩) h2
        | some hb =>
          simp only at h2
          obtain ⟨hv, hhv, h3⟩ := oCase_some h2
          clear h2
          split at h3
          · exact fin _ _ (.inl ⟨rfl, rfl⟩) (.inr ⟨hb, rfl, hhv⟩) h3
          · cases h3
      | some lb =>
        simp only at h2
        obtain ⟨lv, hlv, h3⟩ := oCase_some h2
        clear h2
        split at h3
        · cases hi with
          | none => exact fin _ n (.inr ⟨lb, rfl, hlv⟩) (.inl ⟨rfl, rfl⟩) h3
          | some hb =>
            simp only at h3
            obtain ⟨hv, hhv, h4⟩ := oCase_some h3
            clear h3
            split at h4
            · exact fin _ _ (.inr ⟨lb, rfl, hlv⟩) (.inr ⟨hb, rfl, hhv⟩) h4
            · cases h4
        · cases h3
end Go.Y
namespace Go.Y
open Go.Eng (T RepT RepM SRep Kept Base G SameOn VRep Split Live Free kn)
variable {P : Program} {I : Ids} {φ : FnP} {β : Base} {nt : Nat} {cs : List (Nat × Con)}
variable {ρ : Type} {ls : List (Nat × LoopC ρ)} {r : ρ} {tb : Tabs} {st : St L} {gd : Option (Gd L)} {k : St L → Option ρ} {o : Oper}
theorem trc_dflt : ∀ A : Ty, trc I φ A A.dflt = A.flat.map fun t => tr I φ t t.dflt
  | .unit => rfl
  | .pair a b => by simp only [trc, Ty.dflt, Ty.flat, List.map_append, trc_dflt a, trc_dflt b]
  | .st f => trc_dflt f
  | .bool => rfl
  | .int _ => rfl
  | .str => rfl
  | .sl _ _ => rfl
  | .ptr _ _ => rfl
  | .err => rfl
  | .fn _ _ => rfl
theorem zero_nil : ∀ (ts : List Ty) (vs : List Value), zeroIs ts vs = true → ∀ (j : Nat) e a, ts[j]? = some (.sl e a) → vs[j]? = some (.slice none 0 0) := by
  intro ts
  induction ts with
  | nil => intro vs h j e a hj; simp at hj
  | cons t ts ih =>
    intro vs h j e a hj
    cases vs with
    | nil => cases t <;> simp [zeroIs] at h
    | cons v vs =>
      have hrest : zeroIs ts vs = true := by
        unfold zeroIs at h
        split at h <;> first
          | cases h; done
          | (rename_i e1 e2; simp only [List.cons.injEq] at e1 e2; obtain ⟨_, rfl⟩ := e1; obtain ⟨_, rfl⟩ := e2; first | exact h | (simp only [Bool.and_eq_true] at h; first | exact h.2.2 | exact h.2))
          | simp_all
      cases j with
      | succ j => exact ih vs hrest j e a (by simpa using hj)
      | zero =>
        simp only [List.getElem?_cons_zero, Option.some.injEq] at hj
        subst hj
        cases v with
        | slice b n c =>
          cases b with
          | none =>
            simp only [zeroIs, Bool.and_eq_true] at h
            rw [(beq_iff _ _).1 h.1, (beq_iff _ _).1 h.2.1]
            rfl
          | some b => simp [zeroIs] at h
        | _ => simp [zeroIs] at h
theorem cellsOf_tys : ∀ (A : Ty) (x : A.den) (vs : List L), @cellsOf L (semL cs) A ⟨A, x⟩ = some vs → vs.map (·.ty) = A.flat
  | .unit, x, vs, h => by simp only [cellsOf, Option.some.injEq] at h; subst h; rfl
  | .pair a b, x, vs, h => by
    simp only [cellsOf] at h
    split at h
    · rename_i p q hp hq
      split at h
      · rename_i xs ys hx hy
        simp only [Option.some.injEq] at h
        have hp : (some ⟨a, x.1⟩ : Option L) = some p := hp
        have hq : (some ⟨b, x.2⟩ : Option L) = some q := hq
        simp only [Option.some.injEq] at hp hq
        subst h; subst hp; subst hq
        simp [Ty.flat, cellsOf_tys a x.1 xs hx, cellsOf_tys b x.2 ys hy]
      · cases h
    · cases h
  | .st f, x, vs, h => by simp only [cellsOf] at h; exact cellsOf_tys f x vs h
  | .bool, x, vs, h => by simp only [cellsOf, Option.some.injEq] at h; subst h; rfl
  | .int k, x, vs, h => by simp only [cellsOf, Option.some.injEq] at h; subst h; rfl
  | .str, x, vs, h => by simp only [cellsOf, Option.some.injEq] at h; subst h; rfl
  | .sl e a, x, vs, h => by simp only [cellsOf, Option.some.injEq] at h; subst h; rfl
  | .ptr e a, x, vs, h => by simp only [cellsOf, Option.some.injEq] at h; subst h; rfl
  | .err, x, vs, h => by simp only [cellsOf, Option.some.injEq] at h; subst h; rfl
  | .fn a b, x, vs, h => by simp only [cellsOf, Option.some.injEq] at h; subst h; rfl
theorem zero_at : ∀ (ts : List Ty) (vs : List Value), zeroIs ts vs = true → vs.length = ts.length ∧ ∀ (j : Nat) t v, ts[j]? = some t → vs[j]? = some v → ∀ (w : World) (F : Nat → Prop), RepT P w F (tr I φ t t.dflt) v := by
  intro ts
  induction ts with
  | nil =>
    intro vs h
    cases vs with
    | nil => exact ⟨rfl, fun j t v hj => by simp at hj⟩
    | cons v vs => simp [zeroIs] at h
  | cons t ts ih =>
    intro vs h
    have step : ∀ v vs', vs = v :: vs' → zeroIs ts vs' = true → (∀ (w : World) (F : Nat → Prop), RepT P w F (tr I φ t t.dflt) v) →
        vs.length = (t :: ts).length ∧ ∀ (j : Nat) t' v, (t :: ts)[j]? = some t' → vs[j]? = some v → ∀ (w : World) (F : Nat → Prop), RepT P w F (tr I φ t' t'.dflt) v := by
      intro v vs' e h1 h2
      subst e
      obtain ⟨h3, h4⟩ := ih vs' h1
      refine ⟨by simp [h3], fun j t' v' hj hv => ?_⟩
      cases j with
      | zero =>
        simp only [List.getElem?_cons_zero, Option.some.injEq] at hj hv
        subst hj; subst hv
        exact h2
      | succ j => exact h4 j t' v' (by simpa using hj) (by simpa using hv)
    cases vs with
    | nil => cases t <;> simp [zeroIs] at h
    | cons v vs =>
      cases t with
      | bool =>
        cases v with
        | bool b =>
          simp only [zeroIs, Bool.and_eq_true, Bool.not_eq_true'] at h
          exact step _ vs rfl h.2 fun w F => by rw [h.1]; exact .b false
        | _ => simp [zeroIs] at h
      | int kk =>
        cases v with
        | int k' n =>
          simp only [zeroIs, Bool.and_eq_true, decide_eq_true_eq] at h
          exact step _ vs rfl h.2.2 fun w F => by rw [← h.1, h.2.1]; exact .i kk 0
        | _ => simp [zeroIs] at h
      | str =>
        cases v with
        | string b =>
          simp only [zeroIs, Bool.and_eq_true] at h
          refine step _ vs rfl h.2 fun w F => ?_
          have hb : b = ⟨([] : List UInt8).toArray⟩ := by
            have hb0 := (beq_iff _ _).1 h.1
            obtain ⟨d⟩ := b
            have hd : d.size = 0 := hb0
            have : d = #[] := Array.eq_empty_of_size_eq_zero hd
            subst this
            rfl
          rw [hb]
          exact repS' []
        | _ => simp [zeroIs] at h
      | sl e a =>
        cases v with
        | slice b n c =>
          cases b with
          | none =>
            simp only [zeroIs, Bool.and_eq_true] at h
            exact step _ vs rfl h.2.2 fun w F => by rw [(beq_iff _ _).1 h.1, (beq_iff _ _).1 h.2.1]; exact rep_zs (.inl rfl)
          | some b => simp [zeroIs] at h
        | _ => simp [zeroIs] at h
      | ptr e a =>
        cases v with
        | pointer b =>
          cases b with
          | none => simp only [zeroIs] at h; exact step _ vs rfl h fun w F => .np
          | some b => simp [zeroIs] at h
        | _ => simp [zeroIs] at h
      | err =>
        cases v with
        | nilIface => simp only [zeroIs] at h; exact step _ vs rfl h fun w F => .ni
        | _ => simp [zeroIs] at h
      | _ => cases v <;> simp [zeroIs] at h
theorem rep_cells {w : World} {F : Nat → Prop} {t : T} {u : Value} (h : RepT P w F t u) (ht : t.isAg = false) (hfl : ∀ q, t ≠ .fl q) : u.cells = #[u] := by
  cases h with
  | ag => cases ht
  | fl q v hp => exact absurd rfl (hfl q)
  | _ => rfl
theorem avCells_ok {g : G} {w : World} {x : AV L} {u : Value} (hi : Inv P I φ β st g w) (ha : ARep P I φ st g w x u) {ps : List (AV L)} (h : @avCells L (semL cs) st x = some ps) :
    u.cells.size = ps.length ∧ ∃ us : Nat → Value, ∀ (j : Nat) c, ps[j]? = some c → u.cells[j]? = some (us j) ∧ ARep P I φ st g w c (us j) := by
  have single : ∀ y : AV L, ARep P I φ st g w y u → u.cells = #[u] → ps = [y] → (u.cells.size = ps.length ∧ ∃ us : Nat → Value, ∀ (j : Nat) c, ps[j]? = some c → u.cells[j]? = some (us j) ∧ ARep P I φ st g w c (us j)) := by
    intro y hy hu hp
    subst hp
    rw [hu]
    refine ⟨rfl, fun _ => u, fun j c hj => ?_⟩
    cases j with
    | zero => simp only [List.getElem?_cons_zero, Option.some.injEq] at hj; subst hj; exact ⟨rfl, hy⟩
    | succ j => simp at hj
  cases x with
  | lf v =>
    obtain ⟨vty, vv⟩ := v
    have hr := arep_lf ha
    cases vty with
    | st f =>
      simp only [avCells] at h
      split at h
      · rename_i f1 heq
        have hf : Ty.st f = Ty.st f1 := heq
        simp only [Ty.st.injEq] at hf
        subst hf
        split at h
        · rename_i q hq
          simp only [Option.some.injEq] at h
          subst h
          obtain ⟨h1, h2⟩ := cellsOf_ok (I := I) (φ := φ) (.st f) vv q hq
          have hr : RepT P w g.F (.ag (trc I φ f vv)) u := hr
          obtain ⟨vals, us, rfl, hl, hv⟩ := ag_inv hr
          have h1 : q.map (trL I φ) = trc I φ f vv := h1
          refine ⟨by simp only [Value.cells, List.length_map, hl, ← h1], us, fun j c hj => ?_⟩
          rw [List.getElem?_map, Option.map_eq_some_iff] at hj
          obtain ⟨z, hz, rfl⟩ := hj
          have := hv j (trL I φ z) (by rw [← h1, List.getElem?_map, hz]; rfl)
          exact ⟨this.1, .lf _ _ this.2⟩
        · cases h
      · cases h
      · cases h
      · cases h
      · rename_i hne _ _ _
        exact absurd rfl (hne f)
    | unit => cases h
    | pair a b => cases h
    | fn a b => cases h
    | ptr e a =>
      have h : some [AV.lf ⟨.ptr e a, vv⟩] = some ps := h
      simp only [Option.some.injEq] at h
      refine single _ ha (rep_cells hr ?_ ?_) h.symm <;> cases vv <;> first | rfl | simp [trL, tr, trc, one]
    | err =>
      have h : some [AV.lf ⟨.err, vv⟩] = some ps := h
      simp only [Option.some.injEq] at h
      have hr : RepT P w g.F (trE I vv) u := hr
      refine single _ ha (rep_cells hr (trE_ag vv) ?_) h.symm
      cases vv <;> simp [trE]
    | sl e a =>
      have h : some [AV.lf ⟨.sl e a, vv⟩] = some ps := h
      simp only [Option.some.injEq] at h
      exact single _ ha (rep_cells hr rfl (by simp [trL, tr, trc, one])) h.symm
    | bool =>
      have h : some [AV.lf ⟨.bool, vv⟩] = some ps := h
      simp only [Option.some.injEq] at h
      exact single _ ha (rep_cells hr rfl (by simp [trL, tr, trc, one])) h.symm
    | int k1 =>
      have h : some [AV.lf ⟨.int k1, vv⟩] = some ps := h
      simp only [Option.some.injEq] at h
      exact single _ ha (rep_cells hr rfl (by simp [trL, tr, trc, one])) h.symm
    | str =>
      have h : some [AV.lf ⟨.str, vv⟩] = some ps := h
      simp only [Option.some.injEq] at h
      exact single _ ha (rep_cells hr rfl (by simp [trL, tr, trc, one])) h.symm
  | ag t qs =>
    simp only [avCells, Option.some.injEq] at h
    subst h
    cases ha with
    | ag _ _ vals us hl hv hr => exact ⟨hl, us, fun j c hj => ⟨hv j c hj, hr j c hj⟩⟩
  | tu ts => simp only [avCells] at h; cases h
  | u => simp only [avCells] at h; cases h
  | ar l =>
    simp only [avCells] at h
    split at h
    · rename_i v hv
      simp only [Option.some.injEq] at h
      obtain ⟨r1, s, d, _, _, _, _, hsl, _, _, B, hB, _⟩ := peekA_ok hi hv ha
      have hr := RepM.give d hB
      obtain ⟨vty, vv⟩ := v
      cases vty with
      | sl e a => exact single _ ha (rep_cells hr rfl (by simp [trL, tr, trc, one])) h.symm
      | _ => cases hsl
    · cases h
  | zs e a =>
    simp only [avCells, Option.some.injEq] at h
    refine single _ ha ?_ h.symm
    cases ha with
    | zs _ _ _ hz => rcases hz with rfl | ⟨b, o1, rfl⟩ <;> rfl
  | tl v =>
    simp only [avCells, Option.some.injEq] at h
    refine single _ ha ?_ h.symm
    cases ha; rfl
  | pt l =>
    simp only [avCells, Option.some.injEq] at h
    refine single _ ha ?_ h.symm
    cases ha; rfl
  | fp v =>
    simp only [avCells, Option.some.injEq] at h
    refine single _ ha ?_ h.symm
    cases ha; rfl
  | fn f qs =>
    simp only [avCells, Option.some.injEq] at h
    refine single _ ha ?_ h.symm
    cases ha; rfl
end Go.Y
namespace Go.Y
open Go.Eng (T RepT RepM SRep Kept Base G SameOn VRep Split Live Free kn)
variable {P : Program} {I : Ids} {φ : FnP} {β : Base} {nt : Nat} {cs : List (Nat × Con)}
variable {ρ : Type} {ls : List (Nat × LoopC ρ)} {r : ρ} {tb : Tabs} {st : St L} {gd : Option (Gd L)} {k : St L → Option ρ} {o : Oper}
def RowR (P : Program) (I : Ids) (φ : FnP) (st : St L) (g : G) (w : World) (ps : List (AV L)) (vals : Array Value) : Prop :=
  vals.size = ps.length ∧ ∀ (j : Nat) c, ps[j]? = some c → ∃ u, vals[j]? = some u ∧ ARep P I φ st g w c u
theorem RowR.fam {g : G} {w : World} {ps : List (AV L)} {vals : Array Value} (h : RowR P I φ st g w ps vals) : vals.size = ps.length ∧ ∀ (j : Nat) c, ps[j]? = some c → vals[j]? = some (vals.getD j undef) ∧ ARep P I φ st g w c (vals.getD j undef) := by
  refine ⟨h.1, fun j c hj => ?_⟩
  obtain ⟨u, h1, h2⟩ := h.2 j c hj
  have : vals.getD j undef = u := by rw [Array.getD_eq_getD_getElem?, h1]; rfl
  rw [this]
  exact ⟨h1, h2⟩
theorem lay_cells : ∀ (us : List Value) (off : Nat) (vals : Array Value) (j0 : Nat), (us.zipIdx j0).foldl (fun (cs : Array Value) (p : Value × Nat) => cs.setIfInBounds (off + p.2) p.1) vals = (us.zipIdx j0).foldl (fun (cs : Array Value) (p : Value × Nat) => cs.setIfInBounds (off + p.2) p.1) vals ∧
    ((us.zipIdx j0).foldl (fun (cs : Array Value) (p : Value × Nat) => cs.setIfInBounds (off + p.2) p.1) vals).size = vals.size ∧
    ∀ j, off + j0 + us.length ≤ vals.size → ((us.zipIdx j0).foldl (fun (cs : Array Value) (p : Value × Nat) => cs.setIfInBounds (off + p.2) p.1) vals)[j]? = if off + j0 ≤ j ∧ j < off + j0 + us.length then us[j - (off + j0)]? else vals[j]?
  | [], off, vals, j0 => ⟨rfl, rfl, fun j _ => by rw [if_neg (by simp only [List.length_nil]; omega)]; rfl⟩
  | u :: us, off, vals, j0 => by
    obtain ⟨_, h1, h2⟩ := lay_cells us off (vals.setIfInBounds (off + j0) u) (j0 + 1)
    refine ⟨rfl, ?_, fun j hj => ?_⟩
    · simp only [List.zipIdx_cons, List.foldl_cons]
      rw [h1]; simp
    · simp only [List.length_cons] at hj
      simp only [List.zipIdx_cons, List.foldl_cons]
      rw [h2 j (by simp only [Array.size_setIfInBounds]; omega)]
      by_cases hjj : j = off + j0
      · subst hjj
        rw [if_neg (by omega), if_pos (by simp only [List.length_cons]; omega)]
        simp [show off + j0 < vals.size by omega]
      · by_cases hin : off + (j0 + 1) ≤ j ∧ j < off + (j0 + 1) + us.length
        · rw [if_pos hin, if_pos (by simp only [List.length_cons]; omega)]
          have : j - (off + j0) = (j - (off + (j0 + 1))) + 1 := by omega
          rw [this, List.getElem?_cons_succ]
        · rw [if_neg hin, if_neg (by simp only [List.length_cons]; omega), Array.getElem?_setIfInBounds_ne (by omega)]
theorem row_lay {g : G} {w : World} {ps ws : List (AV L)} {vals us : Array Value} {off : Nat} (h : RowR P I φ st g w ps vals) (h2 : RowR P I φ st g w ws us) (hle : off + ws.length ≤ ps.length) :
    RowR P I φ st g w (takeL off ps ++ ws ++ dropL (off + ws.length) ps) (us.toList.zipIdx.foldl (fun (cs : Array Value) (p : Value × Nat) => cs.setIfInBounds (off + p.2) p.1) vals) := by
  obtain ⟨_, hs, hg⟩ := lay_cells us.toList off vals 0
  have hul : us.toList.length = ws.length := by rw [Array.length_toList, h2.1]
  rw [takeL_eq, dropL_eq]
  refine ⟨?_, fun j c hj => ?_⟩
  · rw [hs, h.1]
    simp only [List.length_append, List.length_take, List.length_drop]
    omega
  · rw [hg j (by rw [hul, h.1]; omega)]
    simp only [Nat.add_zero, hul]
    by_cases h3 : j < off
    · rw [if_neg (by omega)]
      rw [List.append_assoc, List.getElem?_append_left (by rw [List.length_take]; omega), List.getElem?_take_of_lt h3] at hj
      exact h.2 j c hj
    · by_cases h4 : j < off + ws.length
      · rw [if_pos ⟨by omega, h4⟩]
        rw [List.getElem?_append_left (by simp only [List.length_append, List.length_take]; omega), List.getElem?_append_right (by rw [List.length_take]; omega), List.length_take, show min off ps.length = off by omega] at hj
        obtain ⟨u, hu1, hu2⟩ := h2.2 _ c hj
        exact ⟨u, by simpa using hu1, hu2⟩
      · rw [if_neg (by omega)]
        rw [List.getElem?_append_right (by simp only [List.length_append, List.length_take]; omega), List.getElem?_drop] at hj
        simp only [List.length_append, List.length_take] at hj
        have : off + ws.length + (j - (min off ps.length + ws.length)) = j := by omega
        rw [this] at hj
        exact h.2 j c hj
end Go.Y
namespace Go.Y
open Go.Eng (T RepT RepM SRep Kept Base G SameOn VRep Split Live Free kn)
variable {P : Program} {I : Ids} {φ : FnP} {β : Base} {nt : Nat} {cs : List (Nat × Con)}
variable {ρ : Type} {ls : List (Nat × LoopC ρ)} {r : ρ} {tb : Tabs} {st : St L} {gd : Option (Gd L)} {k : St L → Option ρ} {o : Oper}
theorem buildG_ok (hT : TabOk P I tb) {fs : List (Nat × TypeId)} {place : Nat → Option (Nat × Nat)} (hpl : ∀ (i off : Nat) t, fs[i]? = some (off, t) → place i = some (off, P.cellsOf t)) :
    ∀ (parts : List (Nat × Operand)) (ps : List (AV L)) (f : List (AV L) → Option ρ), @opK.buildG L (Option ρ) (semL cs) (semF ρ) tb st gd fs parts ps f = some r →
    ∃ ps', f ps' = some r ∧ ∀ (ac : Act) (w : World) (g : G), Inv P I φ β st g w → EnvR P I φ st g w st.env ac.tmps → GnvR P I φ st g w st.gnv ac.tmps → Hold ac.tmps (keysOf gd) → ∀ vals, RowR P I φ st g w ps vals →
      ∃ vals', Instr.fill place vals (parts.map fun p => (p.1, ac.eval p.2)) = some vals' ∧ RowR P I φ st g w ps' vals' := by
  intro parts
  induction parts with
  | nil =>
    intro ps f h
    simp only [opK.buildG] at h
    exact ⟨ps, h, fun ac w g _ _ _ _ vals hv => ⟨vals, rfl, hv⟩⟩
  | cons p parts ih =>
    intro ps f h
    obtain ⟨i, x⟩ := p
    simp only [opK.buildG] at h
    split at h
    · rename_i off t hft
      obtain ⟨a, ha, h1⟩ := oCase_some h
      clear h
      obtain ⟨ws, hws, h⟩ := oCase_some h1
      clear h1
      obtain ⟨j, hj, h1⟩ := oCase_some h
      clear h
      have hti := ti_facts (hT t j hj)
      split at h1
      · rename_i hc
        simp only [Bool.and_eq_true] at hc
        have hc1 := (beq_iff _ _).1 hc.1
        have hc2 := Nat.le_of_ble_eq_true hc.2
        obtain ⟨ps', h2, h3⟩ := ih _ f h1
        refine ⟨ps', h2, fun ac w g hi he hn hh vals hv => ?_⟩
        have hau := evalO_ok (P := P) (I := I) (φ := φ) (g := g) (w := w) he hn hh ha
        obtain ⟨h4, us, h5⟩ := avCells_ok hi hau hws
        have hrow : RowR P I φ st g w ws (ac.eval x).cells := ⟨h4, fun j c hj => ⟨us j, (h5 j c hj).1, (h5 j c hj).2⟩⟩
        obtain ⟨vals', h6, h7⟩ := h3 ac w g hi he hn hh _ (row_lay hv hrow hc2)
        refine ⟨vals', ?_, h7⟩
        simp only [List.map_cons, Instr.fill]
        rw [getL_eq] at hft
        rw [hpl i off t hft]
        simp only
        rw [if_neg]
        · rw [← h6]
          congr 1
          rw [← Array.foldl_toList, Array.toList_zipIdx]
        · simp only [Bool.or_eq_true, decide_eq_true_eq, ne_eq, not_or, Decidable.not_not, Nat.not_lt]
          refine ⟨by rw [h4, hc1, hti.cells], by rw [h4, hv.1]; exact hc2⟩
      · cases h1
    · cases h
end Go.Y
namespace Go.Y
open Go.Eng (T RepT RepM SRep Kept Base G SameOn VRep Split Live Free kn)
variable {P : Program} {I : Ids} {φ : FnP} {β : Base} {nt : Nat} {cs : List (Nat × Con)}
variable {ρ : Type} {ls : List (Nat × LoopC ρ)} {r : ρ} {tb : Tabs} {st : St L} {gd : Option (Gd L)} {k : St L → Option ρ} {o : Oper}
theorem rowF_kn {g : TypeId → Ty → Bool} : ∀ (fs : List Field) (off : Nat) (F : Ty), rowF P g off fs F = true → ∀ f ∈ fs, kn P f.type = true
  | [], off, F, h => fun f hf => by simp at hf
  | [q], off, F, h => fun f hf => by
    simp only [List.mem_singleton] at hf
    subst hf
    cases F <;> simp only [rowF, Ty.fieldy, Bool.and_eq_true, Bool.false_and, Bool.true_and] at h <;> first | cases h; done | exact (hdF_facts h).2.2.2.2 | exact (hdF_facts h.2).2.2.2.2
  | q :: q2 :: r0, off, F, h => fun f hf => by
    cases F with
    | pair a b =>
      simp only [rowF, Bool.and_eq_true] at h
      rcases List.mem_cons.1 hf with rfl | hf
      · exact (hdF_facts h.1).2.2.2.2
      · exact rowF_kn (q2 :: r0) _ b h.2 f hf
    | _ => simp only [rowF] at h; cases h
theorem cellsOf_info {t : TypeId} {i : TypeInfo} (h : P.info? t = some i) : P.cellsOf t = i.size := by
  unfold Program.cellsOf; rw [h]; rfl
theorem zok_info {t : TypeId} {i : TI} (hi : TiFacts P I t i) (hz : i.zok = true) : ∃ q z, P.info? t = some q ∧ q.zero = some z ∧ z.cells.size = P.cellsOf t ∧ (∀ (j : Nat) e a, i.ty.flat[j]? = some (.sl e a) → z.cells[j]? = some (.slice none 0 0)) ∧
    ∀ (j : Nat) c, (trc I φ i.ty i.ty.dflt)[j]? = some c → ∃ u, z.cells[j]? = some u ∧ ∀ (w : World) (F : Nat → Prop), RepT P w F c u := by
  obtain ⟨q, hq, _, hz1⟩ := hi.bytes
  obtain ⟨z, hz2, hz3⟩ := hz1 hz
  obtain ⟨h1, h2⟩ := zero_at (P := P) (I := I) (φ := φ) _ _ hz3
  refine ⟨q, z, hq, hz2, by rw [← hi.flat, ← h1]; simp, fun j e a hj => by have := zero_nil _ _ hz3 j e a hj; simpa using this, fun j c hj => ?_⟩
  rw [trc_dflt, List.getElem?_map, Option.map_eq_some_iff] at hj
  obtain ⟨t', ht', rfl⟩ := hj
  have hlt : j < z.cells.size := by have := lt_of_get ht'; rw [← h1] at this; simpa using this
  exact ⟨z.cells[j], by simp [hlt], h2 j t' _ ht' (by simp [hlt])⟩
theorem op_build {t : TypeId} {parts : Array (Nat × Operand)} (hT : TabOk P I tb) (ho : o.op = .build t parts) (hd : ∀ d, o.dst = some d → d < nt) (hself : selfOk gd o.dst = true)
    (h : @opK L (Option ρ) (semL cs) (semF ρ) (semR ρ cs ls) tb st gd o.dst o.type o.op k = some r) : ∃ st', k st' = some r ∧ Does P I φ β nt o st gd st' := by
  rw [ho] at h
  simp only [opK] at h
  obtain ⟨i, hti, h1⟩ := oCase_some h
  clear h
  have hi := ti_facts (hT t i hti)
  split at h1
  · split at h1
    · cases h1
    rename_i hz0
    simp only [Bool.and_eq_true, List.isEmpty_iff] at hz0
    obtain ⟨hz, hfe, hst, hcells⟩ := hz0
    obtain ⟨j, htj, h⟩ := oCase_some h1
    clear h1
    have hj := ti_facts (hT i.elem j htj)
    split at h
    · cases h
    rename_i hc1
    have hc1 := (beq_iff _ _).1 hc1
    obtain ⟨zs, hzs, h1⟩ := oCase_some h
    clear h
    obtain ⟨q, z, hq, hqz, hsize, hznil, hzc⟩ := zok_info (I := I) (φ := φ) hi hz
    have hzs' := cellsOf_ok (I := I) (φ := φ) i.ty i.ty.dflt zs hzs
    have hform := hi.form
    obtain ⟨F, hF⟩ : ∃ F, i.ty = .st F := by
      unfold isSt at hst
      split at hst
      · rename_i F hF; exact ⟨F, hF⟩
      · cases hst
    have hce : P.cellsOf i.elem = 1 := by rw [← hj.cells, hc1]
    obtain ⟨ps', h1', h2⟩ := buildG_ok (P := P) (I := I) (φ := φ) (β := β) (cs := cs) (gd := gd) (st := st) hT (fs := (List.range i.cells).map fun q => (q, i.elem)) (place := fun j => some (j * 1, 1)) (fun j off ft hj => by
      rw [List.getElem?_map, Option.map_eq_some_iff] at hj
      obtain ⟨q, hq, he⟩ := hj
      simp only [Prod.mk.injEq] at he
      have hjl := lt_of_get hq
      rw [List.length_range] at hjl
      rw [List.getElem?_range hjl, Option.some.injEq] at hq
      rw [← he.1, ← he.2, hce, ← hq, Nat.mul_one]) _ _ _ h1
    refine ret_case h1' hd hself fun ac w g hiv he hn hh hon => ?_
    have h0 : RowR P I φ st g w (zs.map fun v => match v.ty with | .sl e a => AV.zs e a | _ => .lf v) z.cells := by
      refine ⟨by rw [hsize, List.length_map, ← hi.flat, ← trc_length (I := I) (φ := φ) i.ty i.ty.dflt, ← hzs'.1, List.length_map], fun j c hj => ?_⟩
      rw [List.getElem?_map, Option.map_eq_some_iff] at hj
      obtain ⟨v, hv, rfl⟩ := hj
      obtain ⟨u, hu1, hu2⟩ := hzc j (trL I φ v) (by rw [← hzs'.1, List.getElem?_map, hv]; rfl)
      refine ⟨u, hu1, ?_⟩
      have hty := cellsOf_tys (cs := cs) i.ty i.ty.dflt zs hzs
      obtain ⟨vty, vv⟩ := v
      cases vty with
      | sl e a =>
        refine .zs e a u (.inl ?_)
        have := hznil j e a (by rw [← hty, List.getElem?_map, hv]; rfl)
        rw [hu1, Option.some.injEq] at this
        exact this
      | _ => exact .lf _ _ (hu2 _ _)
    obtain ⟨vals, h3, h4⟩ := h2 ac w g hiv he hn hh _ h0
    obtain ⟨h5, h6⟩ := h4.fam
    unfold formOk at hform
    rw [hF] at hform
    simp only at hform
    split at hform
    · rename_i fs hp
      simp only [Bool.and_eq_true] at hform
      have h7 := of_decide_eq_true hform.1
      rw [hfe] at h7
      have h8 : fs.toList = [] := by simpa using h7
      have h9 := hform.2
      rw [h8] at h9
      have hF0 : F = .unit := by cases F <;> first | rfl | (simp [rowF] at h9; done)
      exfalso
      have h10 := hi.flat
      rw [hF, hF0] at h10
      have h11 := Nat.le_of_ble_eq_true hcells
      rw [hi.cells, ← h10] at h11
      simp [Ty.flat] at h11
    · rename_i nn ee hp
      simp only [Bool.and_eq_true, beq_iff] at hform
      obtain ⟨h7, _, h8⟩ := hform
      subst h8
      refine ⟨.agg vals, ?_, mkAg_ok (by rw [hF]; rfl) h5 h6⟩
      unfold execOp
      simp only [ho]
      refine run_v (run_build w t _ vals ?_)
      unfold Program.built
      obtain ⟨ie, hie⟩ := Eng.info_of_kn hj.kn
      have hsz : ie.size = 1 := by rw [← cellsOf_info hie, hce]
      simp only [hq, hp, hqz, hie, hsz]
      rw [← h3]
      simp
    · cases hform
  · rename_i hz0
    simp only [Bool.and_eq_true, Bool.not_eq_true'] at hz0
    have hz := hz0.1
    obtain ⟨zs, hzs, h⟩ := oCase_some h1
    clear h1
    obtain ⟨q, z, hq, hqz, hsize, hznil, hzc⟩ := zok_info (I := I) (φ := φ) hi hz
    have hzs' := cellsOf_ok (I := I) (φ := φ) i.ty i.ty.dflt zs hzs
    have hform := hi.form
    have hst : i.fields ≠ [] := fun e => by rw [e] at hz0; simp at hz0
    obtain ⟨F, hF⟩ := hi.flds hst
    obtain ⟨fs, hp, hrow, hfa⟩ : ∃ fs, P.underlying t = some (.struct fs) ∧ rowF P (fun _ _ => true) 0 fs.toList F = true ∧ fieldsAre fs i.fields = true := by
      unfold formOk at hform
      rw [hF] at hform
      simp only at hform
      split at hform
      · rename_i fs hp
        simp only [Bool.and_eq_true] at hform
        exact ⟨fs, hp, hform.2, hform.1⟩
      · simp only [Bool.and_eq_true, List.isEmpty_iff] at hform
        exact absurd hform.2.1 hst
      · cases hform
    have hfl : fs.toList.map (fun f => (f.offset, f.type)) = i.fields := of_decide_eq_true hfa
    obtain ⟨ps', h1, h2⟩ := buildG_ok (P := P) (I := I) (φ := φ) (β := β) (cs := cs) (gd := gd) (st := st) hT (fs := i.fields) (place := fun j => (fs.toList.map fun f => (f.offset, P.cellsOf f.type)).toArray[j]?) (fun j off ft hj => by
      rw [← hfl, List.getElem?_map, Option.map_eq_some_iff] at hj
      obtain ⟨f, hf, he⟩ := hj
      simp only [Prod.mk.injEq] at he
      simp [hf, he.1, he.2]) _ _ _ h
    refine ret_case h1 hd hself fun ac w g hiv he hn hh hon => ?_
    have h0 : RowR P I φ st g w (zs.map fun v => match v.ty with | .sl e a => AV.zs e a | _ => .lf v) z.cells := by
      refine ⟨by rw [hsize, List.length_map, ← hi.flat, ← trc_length (I := I) (φ := φ) i.ty i.ty.dflt, ← hzs'.1, List.length_map], fun j c hj => ?_⟩
      rw [List.getElem?_map, Option.map_eq_some_iff] at hj
      obtain ⟨v, hv, rfl⟩ := hj
      obtain ⟨u, hu1, hu2⟩ := hzc j (trL I φ v) (by rw [← hzs'.1, List.getElem?_map, hv]; rfl)
      refine ⟨u, hu1, ?_⟩
      have hty := cellsOf_tys (cs := cs) i.ty i.ty.dflt zs hzs
      obtain ⟨vty, vv⟩ := v
      cases vty with
      | sl e a =>
        refine .zs e a u (.inl ?_)
        have := hznil j e a (by rw [← hty, List.getElem?_map, hv]; rfl)
        rw [hu1, Option.some.injEq] at this
        exact this
      | _ => exact .lf _ _ (hu2 _ _)
    obtain ⟨vals, h3, h4⟩ := h2 ac w g hiv he hn hh _ h0
    obtain ⟨h5, h6⟩ := h4.fam
    refine ⟨.agg vals, ?_, mkAg_ok (by rw [hF]; rfl) h5 h6⟩
    unfold execOp
    simp only [ho]
    refine run_v (run_build w t _ vals ?_)
    unfold Program.built
    have hm : fs.toList.mapM (fun f => (P.info? f.type).map fun i => (f.offset, i.size)) = some (fs.toList.map fun f => (f.offset, P.cellsOf f.type)) :=
      mapM_some_of_forall _ fun f hf => by
        obtain ⟨i', hi'⟩ := Eng.info_of_kn (rowF_kn _ _ _ hrow f hf)
        rw [hi', cellsOf_info hi']; rfl
    simp only [hq, hp, hqz, hm]
    rw [← h3]
    simp
end Go.Y
namespace Go.Y
open Go.Eng (T RepT RepM SRep Kept Base G SameOn VRep Split Live Free kn)
variable {P : Program} {I : Ids} {φ : FnP} {β : Base} {nt : Nat} {cs : List (Nat × Con)}
def nextGen (st : St L) (d : Nat) : Nat := match get st.sto d with | some r => r.gen + 1 | none => 0
def newSt (st : St L) (d : Nat) (mem : Option TypeId) (cells : List (Cell L)) : St L := { st with sto := put st.sto d ⟨nextGen st d, mem, cells⟩ }
theorem get_newSt (st : St L) (d : Nat) (mem : Option TypeId) (cells : List (Cell L)) (k : Nat) : get (newSt st d mem cells).sto k = if k = d then some ⟨nextGen st d, mem, cells⟩ else get st.sto k := get_put _ _ _ _
theorem newRoot_eq (st : St L) (d : Nat) (mem : Option TypeId) (es : List (E L)) :
    newRoot st d mem es = (newSt st d mem (es.map fun e => ⟨0, e⟩), nextGen st d) := by
  unfold newRoot newSt nextGen
  cases get st.sto d <;> rfl
theorem bnd_lt {st : St L} {l : Loc L} (h : bnd st l) : l.gen < nextGen st l.root := by
  obtain ⟨r, h1, h2, _⟩ := h
  unfold nextGen; rw [h1]; simp only; omega
theorem bnd_new {st : St L} {l : Loc L} (d : Nat) (mem : Option TypeId) (cells : List (Cell L)) (h : bnd st l) : bnd (newSt st d mem cells) l := by
  have hlt := bnd_lt h
  obtain ⟨r, h1, h2, h3⟩ := h
  by_cases hd : l.root = d
  · refine ⟨⟨nextGen st d, mem, cells⟩, by simp [get_newSt, hd], ?_, fun e => ?_⟩
    · rw [hd] at hlt; exact Nat.le_of_lt hlt
    · rw [hd] at hlt; simp only at e; omega
  · exact ⟨r, by simp [get_newSt, hd, h1], h2, h3⟩
theorem inv_newE {st : St L} {g : G} {w : World} (h : Inv P I φ β st g w) (d : Nat) (mem : Option TypeId) (es : List (E L)) (ad : Nat) (vv : Nat → Value)
    (N : Nat → Prop) (Bs : Nat → Nat → Prop) (hN : Free β g (injS I φ st) w N) (hsp : Split N (mem.map fun _ => ad) Bs)
    (hmem : ∀ e, mem = some e → ∃ us, w.heap[ad]? = some (.cells us e (0, 0)) ∧ us.size = es.length)
    (hcell : ∀ (j : Nat) e, es[j]? = some e → ∃ u, (match mem with | some _ => w.cell? ⟨ad, j, none⟩ | none => some (vv j)) = some u ∧
      (match e with | .o dd v => RepM P w g.F dd (trL I φ v) u (Bs j) | .rf l => ARep P I φ st g w (.pt l) u ∧ l.root ≠ d ∧ l.steps = [] | .mv => True)) :
    Pass P I φ st g w (newRoot st d mem es).1 (g.set g.F d N ad vv) w ∧ Inv P I φ β (newRoot st d mem es).1 (g.set g.F d N ad vv) w := by
  have hM := (Eng.move_newE h.s h.k d mem (es.map (injE I φ st)) ad vv N Bs hN hsp (fun e he => by obtain ⟨us, h1, h2⟩ := hmem e he; exact ⟨us, h1, by simpa using h2⟩)
    (fun j e hj => by
      rw [List.getElem?_map, Option.map_eq_some_iff] at hj
      obtain ⟨c, h1, h2⟩ := hj
      obtain ⟨u, h3, h4⟩ := hcell j c h1
      refine ⟨u, h3, ?_⟩
      subst h2
      cases c with
      | o dd v => exact h4
      | mv => trivial
      | rf l =>
        simp only [injE]
        obtain ⟨h5, h6, h7⟩ := h4
        cases hr : rootAt st l with
        | none => trivial
        | some r' =>
          simp only
          refine ⟨?_, by simpa [injLoc] using h6⟩
          cases h5 with
          | pt _ b o hb h8 => exact .pt _ _ fun ht => ⟨_, h8 ⟨⟨r', hr⟩, fun hs => absurd h7 hs⟩ ht, rfl⟩)).1
  rw [newRoot_eq]
  have hroot : ∀ l : Loc L, bnd st l → ∀ r', rootAt (newSt st d mem (es.map fun e => ⟨0, e⟩)) l = some r' → l.root ≠ d ∧ rootAt st l = some r' := by
    intro l hl r' hr
    rw [rootAt_iff] at hr
    simp only [get_newSt] at hr
    by_cases hd : l.root = d
    · have hlt := bnd_lt hl
      rw [if_pos hd] at hr
      obtain ⟨h1, h2⟩ := hr
      simp only [Option.some.injEq] at h1
      subst h1
      rw [hd] at hlt
      simp only at h2
      omega
    · rw [if_neg hd] at hr
      exact ⟨hd, rootAt_iff.2 hr⟩
  have hvA : ∀ l : Loc L, bnd st l → validA (newSt st d mem (es.map fun e => ⟨0, e⟩)) l → l.root ≠ d ∧ validA st l := by
    intro l hl ⟨c, h1, h2⟩
    obtain ⟨r, h3, h4, h5⟩ := cellAt_iff.1 h1
    obtain ⟨h6, h7⟩ := hroot l hl r (rootAt_iff.2 ⟨h3, h4⟩)
    have := rootAt_iff.1 h7
    exact ⟨h6, c, cellAt_iff.2 ⟨r, this.1, this.2, h5⟩, h2⟩
  refine pass_of_move hM ?_ (Nat.le_refl _) (fun l hl => bnd_new d mem _ hl) ?_ ?_ ?_ h.f
  · intro k
    rw [get_injS, Eng.get_put, Eng.get_invS, get_injS]
    simp only [get_newSt]
    by_cases hk : k = d
    · subst hk
      simp only [if_true, Option.map_some, Option.some.injEq, injR, List.map_map, Eng.Root.mk.injEq, true_and]
      refine List.map_congr_left fun c hc => ?_
      simp only [Function.comp]
      cases c with
      | o dd v => rfl
      | mv => rfl
      | rf l =>
        obtain ⟨n, hn⟩ := List.mem_iff_getElem?.1 hc
        obtain ⟨u, _, _, h6, _⟩ := hcell n _ hn
        simp only [injE]
        have h2 : rootAt (newSt st k mem (es.map fun e => ⟨0, e⟩)) l = rootAt st l := by
          unfold rootAt
          simp only [get_newSt, if_neg h6]
        rw [h2]
    · simp only [if_neg hk]
      cases hg : get st.sto k with
      | none => rfl
      | some r =>
        simp only [Option.map_some, Option.some.injEq]
        unfold injR Eng.Root.inv
        simp only [List.map_map, Eng.Root.mk.injEq, true_and]
        refine List.map_congr_left fun c hc => ?_
        simp only [Function.comp]
        cases he : c.e with
        | o d2 v => rfl
        | mv => rfl
        | rf l =>
          obtain ⟨hb, _⟩ := h.c k r c l hg hc he
          simp only [injE]
          by_cases hl : l.root = d
          · have h2 : rootAt (newSt st d mem (es.map fun e => ⟨0, e⟩)) l = none := by
              cases hr : rootAt (newSt st d mem (es.map fun e => ⟨0, e⟩)) l with
              | none => rfl
              | some r' => exact absurd hl (hroot l hb r' hr).1
            rw [h2]
            cases rootAt st l with
            | none => rfl
            | some r' => simp [Eng.E.inv, injLoc, hl]
          · have h2 : rootAt (newSt st d mem (es.map fun e => ⟨0, e⟩)) l = rootAt st l := by
              unfold rootAt
              simp only [get_newSt, if_neg hl]
            rw [h2]
            cases rootAt st l with
            | none => rfl
            | some r' => simp [Eng.E.inv, injLoc, hl]
  · intro l hl hv
    obtain ⟨h1, h2⟩ := hvA l hl hv
    exact ⟨h2, by simp [injLoc, h1]⟩
  · intro l hl hv
    obtain ⟨⟨r', hr'⟩, h2⟩ := hv
    obtain ⟨h3, h4⟩ := hroot l hl r' hr'
    exact ⟨⟨⟨r', h4⟩, fun hs => (hvA l hl (h2 hs)).2⟩, by simp [injLoc, h3]⟩
  · intro k r c l hr hc he
    simp only [get_newSt] at hr
    split at hr
    · simp only [Option.some.injEq] at hr
      subst hr
      simp only [List.mem_map] at hc
      obtain ⟨c0, hc0, rfl⟩ := hc
      simp only at he
      subst he
      obtain ⟨n, hn⟩ := List.mem_iff_getElem?.1 hc0
      obtain ⟨u, _, h5, _, h7⟩ := hcell n _ hn
      cases h5 with
      | pt _ b o hb h8 => exact ⟨bnd_new d mem _ hb, h7⟩
    · obtain ⟨h1, h2⟩ := h.c k r c l hr hc he
      exact ⟨bnd_new d mem _ h1, h2⟩
theorem inv_new {st : St L} {g : G} {w : World} (h : Inv P I φ β st g w) (d : Nat) (mem : Option TypeId) (es : List (Nat × L)) (ad : Nat) (vv : Nat → Value)
    (N : Nat → Prop) (Bs : Nat → Nat → Prop) (hN : Free β g (injS I φ st) w N) (hsp : Split N (mem.map fun _ => ad) Bs)
    (hmem : ∀ e, mem = some e → ∃ us, w.heap[ad]? = some (.cells us e (0, 0)) ∧ us.size = es.length)
    (hcell : ∀ j dd v, es[j]? = some (dd, v) → ∃ u, (match mem with | some _ => w.cell? ⟨ad, j, none⟩ | none => some (vv j)) = some u ∧ RepM P w g.F dd (trL I φ v) u (Bs j)) :
    Pass P I φ st g w (newRoot st d mem (es.map fun c => .o c.1 c.2)).1 (g.set g.F d N ad vv) w ∧ Inv P I φ β (newRoot st d mem (es.map fun c => .o c.1 c.2)).1 (g.set g.F d N ad vv) w :=
  inv_newE h d mem _ ad vv N Bs hN hsp (fun e he => by obtain ⟨us, h1, h2⟩ := hmem e he; exact ⟨us, h1, by simpa using h2⟩) (fun j e hj => by
    rw [List.getElem?_map, Option.map_eq_some_iff] at hj
    obtain ⟨c, h1, rfl⟩ := hj
    obtain ⟨u, h2, h3⟩ := hcell j c.1 c.2 h1
    exact ⟨u, h2, h3⟩)
theorem arep_newpt {st : St L} {g : G} {w : World} {d : Nat} {e : TypeId} {es : List (E L)} :
    ARep P I φ (newRoot st d (some e) es).1 g w (.pt ⟨d, (newRoot st d (some e) es).2, 0, 0, []⟩) (.pointer (some ⟨g.ad d, 0, none⟩)) := by
  rw [newRoot_eq]
  refine .pt _ _ _ ⟨⟨nextGen st d, some e, es.map fun e => ⟨0, e⟩⟩, by simp [get_newSt], Nat.le_refl _, fun _ c _ => Nat.zero_le _⟩ fun hv ht => ?_
  unfold Eng.locA
  rw [get_injS]
  simp [injLoc, get_newSt, injR]
theorem arep_newar {st : St L} {g : G} {w : World} {d : Nat} {es : List (E L)} :
    ARep P I φ (newRoot st d none es).1 g w (.ar ⟨d, (newRoot st d none es).2, 0, 0, []⟩) (g.vv d 0) := by
  rw [newRoot_eq]
  refine .ar _ _ ⟨⟨nextGen st d, none, es.map fun e => ⟨0, e⟩⟩, by simp [get_newSt], Nat.le_refl _, fun _ c _ => Nat.zero_le _⟩ fun hv _ dd e nl xs ht => ?_
  unfold Eng.locV
  rw [get_injS]
  simp [injLoc, get_newSt, injR, Eng.rootV]
end Go.Y
namespace Go.Y
open Go.Eng (T RepT RepM SRep Kept Base G SameOn VRep Split Live Free kn Owns)
variable {P : Program} {I : Ids} {φ : FnP} {β : Base} {nt : Nat} {cs : List (Nat × Con)}
variable {ρ : Type} {ls : List (Nat × LoopC ρ)} {r : ρ} {tb : Tabs} {st : St L} {gd : Option (Gd L)} {k : St L → Option ρ} {o : Oper}
theorem inv_alloc {st : St L} {g : G} {w : World} (h : Inv P I φ β st g w) (ob : Obj) :
    Pass P I φ st g w st g (w.alloc ob) ∧ Inv P I φ β st g (w.alloc ob) ∧ Free β g (injS I φ st) (w.alloc ob) (fun b => b = w.heap.size) := by
  obtain ⟨h1, h2, h3⟩ := inv_grow h (w' := w.alloc ob) (fun b hb => heap_alloc_old w ob b hb) (by simp) rfl rfl rfl
  refine ⟨h1, h2, fun b hb => h3 b ?_⟩
  simp at hb; subst hb; simp
theorem does_new {o : Oper} {st st1 : St L} {d : Nat} {x : AV L} (hdst : o.dst = some d) (hd : d < nt) (henv : st1.env = st.env) (hgnv : st1.gnv = st.gnv)
    (hrun : ∀ (a : Act) (w : World) (g : G), Inv P I φ β st g w → EnvR P I φ st g w st.env a.tmps → GnvR P I φ st g w st.gnv a.tmps → ∃ u w' g', (execOp a.eval o).run P w = .ok (.value u) w' ∧
      Pass P I φ st g w st1 g' w' ∧ Inv P I φ β st1 g' w' ∧ ARep P I φ st1 g' w' x u) : Does P I φ β nt o st none (putE st1 none d x) := by
  refine ⟨fun a w g hR hG hon K Q hK => ?_, fun a w g gd' hgd => by cases hgd⟩
  obtain ⟨u, w', g', h1, h2, h3, h4⟩ := hrun a w g hR.i hR.e hR.n
  unfold Oper.wp
  rw [h1, Oper.upon_value, hdst]
  exact hK _ _ g' (h2.putE _ _ _) (rel_put hd hR.defers hR.size hG hon (by simp [gdKeys]) henv hgnv hR.e hR.n h2 h3 h4) fun s hs => put_ne a u (by rw [← hdst]; exact hs)
theorem does_newG {o : Oper} {st st1 : St L} {gd : Option (Gd L)} {d : Nat} {x : AV L} (hdst : o.dst = some d) (hd : d < nt) (henv : st1.env = st.env) (hgnv : st1.gnv = st.gnv) (hon : On gd)
    (hrun : ∀ (a : Act) (w : World) (g : G), Inv P I φ β st g w → EnvR P I φ st g w st.env a.tmps → GnvR P I φ st g w st.gnv a.tmps → Hold a.tmps (keysOf gd) → ∃ u w' g', (execOp a.eval o).run P w = .ok (.value u) w' ∧
      Pass P I φ st g w st1 g' w' ∧ Inv P I φ β st1 g' w' ∧ ARep P I φ st1 g' w' x u) : Does P I φ β nt o st gd (putE st1 none d x) := by
  refine ⟨fun a w g hR hG hon' K Q hK => ?_, fun a w g gd' hgd hR hG hoff => ?_⟩
  · obtain ⟨u, w', g', h1, h2, h3, h4⟩ := hrun a w g hR.i hR.e hR.n (hold_of hG hon')
    unfold Oper.wp
    rw [h1, Oper.upon_value, hdst]
    exact hK _ _ g' (h2.putE _ _ _) (rel_put (gd := none) hd hR.defers hR.size trivial (fun _ h => by cases h) (by simp [gdKeys]) henv hgnv hR.e hR.n h2 h3 h4) fun s hs => put_ne a u (by rw [← hdst]; exact hs)
  · subst hgd
    have := hon _ rfl
    rw [hoff] at this
    cases this
theorem does_off {o : Oper} {st : St L} {g1 : Gd L} {d : Nat} {x : AV L} (hdst : o.dst = some d) (hd : d < nt) (hself : selfOk (some g1) o.dst = true) (hoff : g1.c.bool = some false) : Does P I φ β nt o st (some g1) (putE st (some g1) d x) := by
  refine ⟨fun a w g hR hG hon K Q hK => ?_, fun a w g gd' hgd hR hG hoff' => ?_⟩
  · have := hon _ rfl
    rw [hoff] at this
    cases this
  · cases hgd
    rw [hdst] at hself ⊢
    exact ⟨g, (Pass.refl _ _ _).putE _ _ _, rel_skip hd hR.defers hR.size hG hoff (selfOk_iff hself) rfl rfl hR.e hR.n (Pass.refl _ _ _) hR.i⟩
theorem rootG_some {ρ : Type} {cs : List (Nat × Con)} {ls : List (Nat × LoopC ρ)} {r : ρ} {gd : Option (Gd L)} {body other : Option ρ} (h : @rootG L (Option ρ) (semR ρ cs ls) gd body other = some r) :
    (On gd ∧ body = some r) ∨ ∃ g1, gd = some g1 ∧ g1.c.bool = some false ∧ other = some r := by
  cases gd with
  | none => exact .inl ⟨fun c hc => (by cases hc), h⟩
  | some g1 =>
    have h : (match g1.c.bool with | some c => pIf c body other | none => none) = some r := h
    cases hb : g1.c.bool with
    | none => rw [hb] at h; cases h
    | some b =>
      rw [hb] at h
      cases b with
      | true => exact .inl ⟨fun c hc => (by cases hc; exact hb), h⟩
      | false => exact .inr ⟨g1, rfl, hb, h⟩
theorem repM_ag {w : World} {F : Nat → Prop} {cs : List T} {u : Value} (d : Nat) {B : Nat → Prop} (h : RepT P w F (.ag cs) u) : RepM P w F d (.ag cs) u B := by
  cases d with
  | zero => exact h
  | succ d => exact h
theorem zero_owned {w : World} {F : Nat → Prop} (A : Ty) {u : Value} (hu : ∀ e a, A = .sl e a → u = .slice none 0 0) (hr : RepT P w F (tr I φ A A.dflt) u) : RepM P w F A.dep (tr I φ A A.dflt) u (fun _ => False) := by
  cases A with
  | sl e a =>
    have := hu e a rfl
    subst this
    show RepM P w F (a.dep + 1) (.sl e false []) (.slice none 0 0) (fun _ => False)
    refine ⟨[], .inl (World.ownsRow_nil w 0 e _), fun x hx => by simp at hx, fun _ _ => False, ⟨fun b hb => by simp [Eng.ownB] at hb, fun j b hb => hb.elim, fun j k b hb => hb.elim⟩, fun j t u hj => by simp [Eng.flat] at hj⟩
  | st f => exact repM_ag _ hr
  | pair a b => exact repM_ag _ hr
  | unit => exact hr
  | _ => exact hr
theorem zero_cell {cs : List (Nat × Con)} : ∀ (A : Ty) {vs : List L}, @cellsOf L (semL cs) A ⟨A, A.dflt⟩ = some vs → ∀ v ∈ vs, v = ⟨v.ty, v.ty.dflt⟩
  | .unit, vs, h => by simp only [cellsOf, Option.some.injEq] at h; subst h; simp
  | .pair a b, vs, h => by
    simp only [cellsOf] at h
    split at h
    · rename_i p q hp hq
      split at h
      · rename_i xs ys hx hy
        simp only [Option.some.injEq] at h
        have hp : (some ⟨a, a.dflt⟩ : Option L) = some p := hp
        have hq : (some ⟨b, b.dflt⟩ : Option L) = some q := hq
        simp only [Option.some.injEq] at hp hq
        subst h; subst hp; subst hq
        intro v hv
        rcases List.mem_append.1 hv with hv | hv
        · exact zero_cell a hx v hv
        · exact zero_cell b hy v hv
      · cases h
    · cases h
  | .st f, vs, h => by simp only [cellsOf] at h; exact zero_cell f h
  | .bool, vs, h => by simp only [cellsOf, Option.some.injEq] at h; subst h; simp
  | .int k, vs, h => by simp only [cellsOf, Option.some.injEq] at h; subst h; simp
  | .str, vs, h => by simp only [cellsOf, Option.some.injEq] at h; subst h; simp
  | .sl e a, vs, h => by simp only [cellsOf, Option.some.injEq] at h; subst h; simp
  | .ptr e a, vs, h => by simp only [cellsOf, Option.some.injEq] at h; subst h; simp
  | .err, vs, h => by simp only [cellsOf, Option.some.injEq] at h; subst h; simp
  | .fn a b, vs, h => by simp only [cellsOf, Option.some.injEq] at h; subst h; simp
theorem op_alloc {e : TypeId} (hT : TabOk P I tb) (ho : o.op = .alloc e) (hd : ∀ d, o.dst = some d → d < nt)
    (h : @opK L (Option ρ) (semL cs) (semF ρ) (semR ρ cs ls) tb st gd o.dst o.type o.op k = some r) : ∃ st', k st' = some r ∧ Does P I φ β nt o st gd st' := by
  rw [ho] at h
  cases gd with
  | some _ => simp only [opK] at h; cases h
  | none =>
  simp only [opK] at h
  obtain ⟨i, hti, h⟩ := oCase_some h
  have hi := ti_facts (hT e i hti)
  split at h
  · cases h
  rename_i hz
  obtain ⟨vs, hvs, h⟩ := oCase_some h
  cases hdst : o.dst with
  | none => rw [hdst] at h; cases h
  | some d =>
    rw [hdst] at h
    simp only at h
    refine ⟨_, h, ?_⟩
    have hex : (vs.map fun v => (E.o (Ty.dep v.ty) v : E L)) = (vs.map fun v => (Ty.dep v.ty, v)).map fun c => E.o c.1 c.2 := by simp
    have hty : ∀ v : L, @LAlg.ty L (semL cs) v = v.ty := fun _ => rfl
    simp only [hty]
    rw [hex]
    refine does_new hdst (hd d hdst) ?_ ?_ fun a w g hi' he hn => ?_
    · rw [newRoot_eq]; rfl
    · rw [newRoot_eq]; rfl
    · obtain ⟨q, z, hq, hqz, hsize, hznil, hzc⟩ := zok_info (I := I) (φ := φ) hi hz
      obtain ⟨h1, h2, h3⟩ := inv_alloc hi' (.cells z.cells e)
      have hcs := cellsOf_ok (I := I) (φ := φ) i.ty i.ty.dflt vs hvs
      have hlen : z.cells.size = vs.length := by
        rw [hsize, ← hi.flat, ← trc_length (I := I) (φ := φ) i.ty i.ty.dflt, ← hcs.1, List.length_map]
      have hnb := heap_alloc_new w (.cells z.cells e)
      obtain ⟨h4, h5⟩ := inv_new h2 d (some e) (vs.map fun v => (Ty.dep v.ty, v)) w.heap.size (fun _ => undef) (fun b => b = w.heap.size) (fun _ _ => False) h3
        ⟨fun b hb => by simpa [eq_comm] using hb, fun j b hb => hb.elim, fun j k b hb => hb.elim⟩
        (fun e' he' => by
          simp only [Option.some.injEq] at he'
          subst he'
          exact ⟨z.cells, hnb, by simpa using hlen⟩)
        (fun j dd v hj => by
          rw [List.getElem?_map, Option.map_eq_some_iff] at hj
          obtain ⟨v', hv, hj⟩ := hj
          simp only [Prod.mk.injEq] at hj
          obtain ⟨rfl, rfl⟩ := hj
          obtain ⟨u, hu1, hu2⟩ := hzc j (trL I φ v') (by rw [← hcs.1, List.getElem?_map, hv]; rfl)
          have hv0 := zero_cell _ hvs v' (List.mem_of_getElem? hv)
          refine ⟨u, ?_, ?_⟩
          · rw [cell_of_row _ _ j _ e (0, 0) hnb]; exact hu1
          · rw [hv0]
            refine zero_owned v'.ty (fun e1 a1 h6 => ?_) ?_
            · have hty := cellsOf_tys (cs := cs) i.ty i.ty.dflt vs hvs
              have := hznil j e1 a1 (by rw [← hty, List.getElem?_map, hv]; simp [h6])
              rw [hu1, Option.some.injEq] at this
              exact this
            · have := hu2 (w.alloc (.cells z.cells e)) g.F
              rw [hv0] at this
              exact this)
      have hnm := arep_newpt (P := P) (I := I) (φ := φ) (st := st) (g := g.set g.F d (fun b => b = w.heap.size) w.heap.size (fun _ => undef)) (w := w.alloc (.cells z.cells e)) (d := d) (e := e) (es := (vs.map fun v => (Ty.dep v.ty, v)).map fun c => E.o c.1 c.2)
      simp only [Eng.G.set, if_true] at hnm
      refine ⟨.pointer (some ⟨w.heap.size, 0, none⟩), w.alloc (.cells z.cells e), _, ?_, h1.trans h4, h5, hnm⟩
      · unfold execOp
        simp only [ho]
        refine run_v ?_
        unfold Instr.alloc
        have hz0 : (zeroValue e).run P w = .ok z w := by
          unfold zeroValue typeInfo
          simp [hq, hqz]
        simp [hz0, newVar, newRow]
end Go.Y
namespace Go.Y
open Go.Eng (T RepT RepM SRep Kept Base G SameOn VRep Split Live Free kn Owns)
variable {P : Program} {I : Ids} {φ : FnP} {β : Base} {nt : Nat} {cs : List (Nat × Con)}
variable {ρ : Type} {ls : List (Nat × LoopC ρ)} {r : ρ} {tb : Tabs} {st : St L} {gd : Option (Gd L)} {k : St L → Option ρ} {o : Oper}
theorem zero_any {w : World} {F : Nat → Prop} (A : Ty) (hA : A.isAgg = false) {u : Value} (hu : ∀ e a, A = .sl e a → u = .slice none 0 0) (hr : RepT P w F (tr I φ A A.dflt) u) (d : Nat) (B : Nat → Prop) : RepM P w F d (tr I φ A A.dflt) u B := by
  cases d with
  | zero => exact hr
  | succ d =>
    cases A with
    | sl e a =>
      have := hu e a rfl
      subst this
      show RepM P w F (d + 1) (.sl e false []) (.slice none 0 0) B
      refine ⟨[], .inl (World.ownsRow_nil w 0 e _), fun x hx => by simp at hx, fun _ _ => False, ⟨fun b hb => by simp [Eng.ownB] at hb, fun j b hb => hb.elim, fun j k b hb => hb.elim⟩, fun j t u hj => by simp [Eng.flat] at hj⟩
    | st f => cases hA
    | pair a b => cases hA
    | unit => cases hA
    | err => exact hr
    | ptr e a => exact hr
    | _ => exact hr
theorem arep_newar' {st : St L} {g : G} {w : World} {d : Nat} {es : List (E L)} {u : Value} {N : Nat → Prop} {ad : Nat} :
    ARep P I φ (newRoot st d none es).1 (g.set g.F d N ad (fun _ => u)) w (.ar ⟨d, (newRoot st d none es).2, 0, 0, []⟩) u := by
  have := arep_newar (P := P) (I := I) (φ := φ) (st := st) (g := g.set g.F d N ad (fun _ => u)) (w := w) (d := d) (es := es)
  simpa [Eng.G.set] using this
theorem inv_newrow {st : St L} {g : G} {w : World} (h : Inv P I φ β st g w) (d dd n : Nat) (e : TypeId) (a : Ty) (xs : List a.den) (cur : Array Value) (us : List Value)
    (ho : (w.alloc (.cells cur e)).ownsRow 0 e (P.cellsOf e) (.slice (some ⟨w.heap.size, 0, none⟩) xs.length n) xs.length us)
    (hfit : ∀ x ∈ (xs.map fun y => one a (trc I φ a y)), Eng.Fits P e x)
    (hc : ∀ (j : Nat) (t : T) (u : Value), (Eng.flat (xs.map fun y => one a (trc I φ a y)))[j]? = some t → us[j]? = some u → RepM P (w.alloc (.cells cur e)) g.F dd t u (fun _ => False)) :
    ∃ g', Pass P I φ st g w (newRoot st d none [.o (dd + 1) ⟨.sl e a, xs⟩]).1 g' (w.alloc (.cells cur e)) ∧ Inv P I φ β (newRoot st d none [.o (dd + 1) ⟨.sl e a, xs⟩]).1 g' (w.alloc (.cells cur e)) ∧
      ARep P I φ (newRoot st d none [.o (dd + 1) ⟨.sl e a, xs⟩]).1 g' (w.alloc (.cells cur e)) (.ar ⟨d, (newRoot st d none [.o (dd + 1) ⟨.sl e a, xs⟩]).2, 0, 0, []⟩) (.slice (some ⟨w.heap.size, 0, none⟩) xs.length n) := by
  obtain ⟨h1, h2, h3⟩ := inv_alloc h (.cells cur e)
  obtain ⟨h4, h5⟩ := inv_new h2 d none [(dd + 1, (⟨.sl e a, xs⟩ : L))] 0 (fun _ => .slice (some ⟨w.heap.size, 0, none⟩) xs.length n) (fun b => b = w.heap.size) (fun j b => j = 0 ∧ b = w.heap.size) h3
    ⟨fun b hb => by simp at hb, fun j b hb => ⟨hb.2, by simp⟩, fun j k b hb hk => by rw [hb.1, hk.1]⟩ (fun e' he' => by cases he')
    (fun j d0 v hj => by
      cases j with
      | succ j => simp at hj
      | zero =>
        simp only [List.getElem?_cons_zero, Option.some.injEq, Prod.mk.injEq] at hj
        obtain ⟨rfl, rfl⟩ := hj
        refine ⟨_, rfl, ?_⟩
        show RepM P _ g.F (dd + 1) (.sl e false (xs.map fun y => one a (trc I φ a y))) _ _
        refine ⟨us, .inl (by simpa using ho), hfit, fun _ _ => False, ⟨fun b hb => ⟨rfl, ?_⟩, fun j b hb => hb.elim, fun j k b hb => hb.elim⟩, hc⟩
        cases n with
        | zero => simp [Eng.ownB] at hb
        | succ n => simpa [Eng.ownB, eq_comm] using hb)
  refine ⟨_, h1.trans h4, h5, ?_⟩
  exact arep_newar'
theorem flat_notAgg : ∀ (A : Ty), ∀ t ∈ A.flat, t.isAgg = false
  | .st f, t, h => flat_notAgg f t h
  | .pair a b, t, h => by
    simp only [Ty.flat, List.mem_append] at h
    exact h.elim (flat_notAgg a t) (flat_notAgg b t)
  | .unit, t, h => by simp [Ty.flat] at h
  | .bool, t, h => by simp only [Ty.flat, List.mem_singleton] at h; subst h; rfl
  | .int k, t, h => by simp only [Ty.flat, List.mem_singleton] at h; subst h; rfl
  | .str, t, h => by simp only [Ty.flat, List.mem_singleton] at h; subst h; rfl
  | .sl e a, t, h => by simp only [Ty.flat, List.mem_singleton] at h; subst h; rfl
  | .ptr e a, t, h => by simp only [Ty.flat, List.mem_singleton] at h; subst h; rfl
  | .err, t, h => by simp only [Ty.flat, List.mem_singleton] at h; subst h; rfl
  | .fn a b, t, h => by simp only [Ty.flat, List.mem_singleton] at h; subst h; rfl
theorem sl_facts {t : TypeId} {i : TI} (hi : TiFacts P I t i) {e : TypeId} {a : Ty} (h : i.ty = .sl e a) : P.underlying t = some (.slice e) ∧ i.elem = e ∧ elOk P e a = true := by
  have hf := hi.form
  unfold formOk at hf
  rw [h] at hf
  simp only at hf
  split at hf
  · rename_i e' hp
    simp only [Bool.and_eq_true] at hf
    have h1 := (beq_iff _ _).1 hf.1
    have h2 := (beq_iff _ _).1 hf.2.1
    subst h1
    exact ⟨hp, h2, hf.2.2⟩
  · cases hf
theorem elOk_fits {e : TypeId} {a : Ty} (h : elOk P e a = true) (x : a.den) : Eng.Fits P e (one a (trc I φ a x)) := by
  unfold elOk at h
  simp only [Bool.and_eq_true, beq_iff_eq] at h
  have h1 := (beq_iff _ _).1 h.1
  exact ⟨by rw [show one a (trc I φ a x) = tr I φ a x from rfl, tr_cells, trc_length]; exact h1.symm, by rw [show one a (trc I φ a x) = tr I φ a x from rfl, tr_isAg]; exact h.2.1.symm⟩
theorem flat_at {e : TypeId} {xs : List T} (hs : ∀ x ∈ xs, Eng.Fits P e x) {j : Nat} {t : T} (h : (Eng.flat xs)[j]? = some t) :
    0 < P.cellsOf e ∧ j < xs.length * P.cellsOf e ∧ ∃ x, xs[j / P.cellsOf e]? = some x ∧ x.cells[j % P.cellsOf e]? = some t := by
  have hlt := lt_of_get h
  rw [Eng.flat_length hs] at hlt
  have hpos : 0 < P.cellsOf e := by
    rcases Nat.eq_zero_or_pos (P.cellsOf e) with h0 | h0
    · rw [h0] at hlt; omega
    · exact h0
  have hi : j / P.cellsOf e < xs.length := Nat.div_lt_of_lt_mul (by rw [Nat.mul_comm]; exact hlt)
  have ho := Nat.mod_lt j hpos
  obtain ⟨x, hx⟩ : ∃ x, xs[j / P.cellsOf e]? = some x := ⟨xs[j / P.cellsOf e], by simp [hi]⟩
  have hfx := hs x (List.mem_of_getElem? hx)
  have hc : x.cells[j % P.cellsOf e]? = some (x.cells[j % P.cellsOf e]'(by rw [hfx.1]; exact ho)) := List.getElem?_eq_getElem _
  have := Eng.flat_get hs hx hc
  rw [show j / P.cellsOf e * P.cellsOf e + j % P.cellsOf e = j by rw [Nat.mul_comm]; exact Nat.div_add_mod j _] at this
  rw [h, Option.some.injEq] at this
  exact ⟨hpos, hlt, x, hx, by rw [hc, this]⟩
theorem op_makeSlice {t : TypeId} {xn xc : Operand} (hT : TabOk P I tb) (ho : o.op = .makeSlice t xn xc) (hd : ∀ d, o.dst = some d → d < nt)
    (h : @opK L (Option ρ) (semL cs) (semF ρ) (semR ρ cs ls) tb st gd o.dst o.type o.op k = some r) : ∃ st', k st' = some r ∧ Does P I φ β nt o st gd st' := by
  rw [ho] at h
  cases gd with
  | some _ => simp only [opK] at h; cases h
  | none =>
  simp only [opK] at h
  obtain ⟨i, hti, h⟩ := oCase_some h
  have hi := ti_facts (hT t i hti)
  obtain ⟨yn, hyn, h1⟩ := oCase_some h
  clear h
  obtain ⟨yc, hyc, h⟩ := oCase_some h1
  clear h1
  split at h
  · rename_i e a n c hity
    obtain ⟨j, htj, h⟩ := oCase_some h
    have hj := ti_facts (hT e j htj)
    split at h
    · cases h
    rename_i hz
    simp only [Bool.and_eq_true, decide_eq_true_eq] at hz
    obtain ⟨hz, rfl⟩ := hz
    obtain ⟨h, kn1, nn, kc1, cc, rfl, rfl, hin⟩ := checkIdx_some h
    obtain ⟨h0, h1⟩ := hin (fun c hc => by cases hc)
    obtain ⟨rm, hrm, h⟩ := oCase_some h
    obtain ⟨h, rb, hrb, hroom⟩ := check_some h
    obtain ⟨v, hv, h⟩ := oCase_some h
    have hroom := hroom (fun c hc => by cases hc)
    subst hroom
    have hrm : roomL j.bytes ⟨.int kc1, cc⟩ = some rm := hrm
    simp only [roomL, L.int, Option.some.injEq] at hrm
    subst hrm
    simp only [mkB, L.bool, Option.some.injEq, room_iff] at hrb
    have hv : repL e ⟨.int kn1, nn⟩ ⟨j.ty, j.ty.dflt⟩ = some v := hv
    simp only [repL, L.int, Option.some.injEq] at hv
    subst hv
    obtain ⟨hp, hel, hok⟩ := sl_facts hi hity
    cases hdst : o.dst with
    | none => rw [hdst] at h; cases h
    | some d =>
      rw [hdst] at h
      refine ⟨_, h, ?_⟩
      refine does_new hdst (hd d hdst) (by rw [newRoot_eq]; rfl) (by rw [newRoot_eq]; rfl) fun ac w g hi' he hn => ?_
      obtain ⟨q, z, hq, hqz, hsize, hznil, hzc⟩ := zok_info (I := I) (φ := φ) hj hz
      obtain ⟨q', hq', hqb, _⟩ := hj.bytes
      rw [hq, Option.some.injEq] at hq'
      subst hq'
      have hun : ac.eval xn = .int kn1 nn := by
        have := arep_lf (evalO_ok (P := P) (I := I) (φ := φ) (g := g) (w := w) he hn (by intro kk hk; simp [gdKeys] at hk) hyn)
        generalize ac.eval xn = uu at this
        cases this; rfl
      have huc : ac.eval xc = .int kc1 cc := by
        have := arep_lf (evalO_ok (P := P) (I := I) (φ := φ) (g := g) (w := w) he hn (by intro kk hk; simp [gdKeys] at hk) hyc)
        generalize ac.eval xc = uu at this
        cases this; rfl
      have h0 : @LE.le Int _ 0 nn := h0
      have h1 : @LE.le Int _ nn cc := h1
      have hrb1 : @LE.le Int _ (@HMul.hMul Int Int Int _ cc (j.bytes : Int)) 140737488355328 := hrb.1
      have hrb2 : @LE.le Int _ cc 140737488355328 := hrb.2
      have hb1 : (q.bytes : Int) * cc ≤ 281474976710656 := by
        rw [hqb, Int.mul_comm]; omega
      have hrun := run_make (P := P) w t e q z hp hq hqz kn1 kc1 nn cc h0 h1 hb1 (by omega)
      have hsz : q.size = P.cellsOf e := (cellsOf_info hq).symm
      rw [hsz] at hrun
      have hlenx : (rep nn j.ty.dflt).length = nn.toNat := by simp [rep]
      have hfits : ∀ x ∈ ((rep nn j.ty.dflt).map fun y => one j.ty (trc I φ j.ty y)), Eng.Fits P e x := by
        intro x hx
        obtain ⟨y, _, rfl⟩ := List.mem_map.1 hx
        exact elOk_fits hok y
      have hzs : z.cells.size = P.cellsOf e := hsize
      have hmul : nn.toNat * P.cellsOf e ≤ cc.toNat * P.cellsOf e := Nat.mul_le_mul_right _ (by omega)
      obtain ⟨g', h5, h6, h7⟩ := inv_newrow hi' d j.ty.dep cc.toNat e j.ty (rep nn j.ty.dflt) (madeCells z.cells (cc.toNat * P.cellsOf e)) ((madeCells z.cells (cc.toNat * P.cellsOf e)).toList.take (nn.toNat * P.cellsOf e))
        (by
          rw [hlenx]
          refine ⟨?_, .inr ⟨_, _, _, rfl, Nat.zero_le _, heap_alloc_new w _, by omega, by simp only [maxLen]; omega, size_madeCells _ _, rfl⟩⟩
          rw [List.length_take, Array.length_toList, size_madeCells]; omega) hfits
        (fun jj t u hjt hju => by
          obtain ⟨hpos, hlt, x, hx, hxc⟩ := flat_at hfits hjt
          rw [List.length_map, hlenx] at hlt
          rw [List.getElem?_map, Option.map_eq_some_iff] at hx
          obtain ⟨y, hy, rfl⟩ := hx
          have hy : y = j.ty.dflt := by
            unfold rep at hy
            rw [List.getElem?_replicate] at hy
            split at hy
            · exact (Option.some.inj hy).symm
            · cases hy
          subst hy
          rw [show one j.ty (trc I φ j.ty j.ty.dflt) = tr I φ j.ty j.ty.dflt from rfl, tr_cells] at hxc
          obtain ⟨u', hu1, hu2⟩ := hzc _ _ hxc
          have hu : u = u' := by
            rw [List.getElem?_take_of_lt (by omega)] at hju
            have hmod := Nat.mod_lt jj hpos
            simp only [madeCells, Array.getElem?_toList, Array.getElem?_map, Array.getElem?_range] at hju
            rw [if_pos (by omega)] at hju
            simp only [Option.map_some, Option.some.injEq] at hju
            rw [← hju, hzs]
            rw [getElem!_def, hu1]
          subst hu
          rw [trc_dflt, List.getElem?_map, Option.map_eq_some_iff] at hxc
          obtain ⟨ft, hft, rfl⟩ := hxc
          refine zero_any ft ?_ (fun e1 a1 h6 => ?_) (hu2 _ _) _ _
          · exact flat_notAgg _ ft (List.mem_of_getElem? hft)
          · have := hznil _ e1 a1 (by rw [hft, h6])
            rw [hu1, Option.some.injEq] at this
            exact this)
      rw [hlenx] at h7
      refine ⟨_, _, g', ?_, h5, h6, h7⟩
      unfold execOp
      simp only [ho, hun, huc]
      exact run_v hrun
  · cases h
end Go.Y
namespace Go.Y
open Go.Eng (T RepT RepM SRep Kept Base G SameOn VRep Split Live Free kn Owns)
variable {P : Program} {I : Ids} {φ : FnP} {β : Base} {nt : Nat} {cs : List (Nat × Con)}
variable {ρ : Type} {ls : List (Nat × LoopC ρ)} {r : ρ} {tb : Tabs} {st : St L} {gd : Option (Gd L)} {k : St L → Option ρ} {o : Oper}
theorem fill_slice (size : Nat) : ∀ (us : List Value) (j0 : Nat) (vals : Array Value), (∀ u ∈ us, u.cells.size = size) → (j0 + us.length) * size ≤ vals.size →
    ∃ vals', Instr.fill (fun i => some (i * size, size)) vals ((us.zipIdx j0).map fun p => (p.2, p.1)) = some vals' ∧ vals'.size = vals.size ∧ (∀ j, j < j0 * size → vals'[j]? = vals[j]?) ∧
      ∀ (i : Nat) u, us[i]? = some u → ∀ o, o < size → vals'[(j0 + i) * size + o]? = u.cells[o]?
  | [], j0, vals, _, _ => ⟨vals, rfl, rfl, fun _ _ => rfl, fun i u h => by simp at h⟩
  | u :: us, j0, vals, hs, hle => by
    have hu := hs u (by simp)
    simp only [List.length_cons] at hle
    have hle1 : j0 * size + size ≤ vals.size := by
      have : (j0 + 1) * size ≤ (j0 + (us.length + 1)) * size := Nat.mul_le_mul_right _ (by omega)
      rw [Nat.add_mul, Nat.one_mul] at this; omega
    obtain ⟨_, h1, h2⟩ := lay_cells u.cells.toList (j0 * size) vals 0
    obtain ⟨vals', h3, h4, h5, h6⟩ := fill_slice size us (j0 + 1) (u.cells.toList.zipIdx.foldl (fun (cs : Array Value) (p : Value × Nat) => cs.setIfInBounds (j0 * size + p.2) p.1) vals) (fun v hv => hs v (by simp [hv]))
      (by rw [h1]; rw [show j0 + 1 + us.length = j0 + (us.length + 1) by omega]; exact hle)
    refine ⟨vals', ?_, by rw [h4, h1], fun j hj => ?_, fun i v hi o ho => ?_⟩
    · simp only [List.zipIdx_cons, List.map_cons, Instr.fill]
      rw [if_neg]
      · rw [← h3]
        congr 1
        rw [← Array.foldl_toList, Array.toList_zipIdx]
      · simp only [Bool.or_eq_true, decide_eq_true_eq, ne_eq, not_or, Decidable.not_not, Nat.not_lt]
        exact ⟨hu, by rw [hu]; exact hle1⟩
    · rw [h5 j (by rw [Nat.add_mul, Nat.one_mul]; omega), h2 j (by simp only [Array.length_toList, hu]; omega)]
      rw [if_neg (by omega)]
    · cases i with
      | zero =>
        simp only [List.getElem?_cons_zero, Option.some.injEq] at hi
        subst hi
        rw [Nat.add_zero, h5 _ (by rw [Nat.add_mul, Nat.one_mul]; omega), h2 _ (by simp only [Array.length_toList, hu]; omega)]
        simp only [Nat.add_zero, Array.length_toList, hu]
        rw [if_pos ⟨by omega, by omega⟩, show j0 * size + o - j0 * size = o by omega]
        simp
      | succ i =>
        have := h6 i v (by simpa using hi) o ho
        rw [show j0 + 1 + i = j0 + (i + 1) by omega] at this
        exact this
theorem seqN_parts {ρ' : Operand → Value} : ∀ (ps : List (Nat × Operand)) (j n : Nat), seqN j ps n = true → n = j + ps.length ∧ (ps.map fun p => (p.1, ρ' p.2)) = ((ps.map fun p => ρ' p.2).zipIdx j).map fun p => (p.2, p.1)
  | [], j, n, h => by
    simp only [seqN] at h
    exact ⟨by rw [← (beq_iff _ _).1 h]; rfl, rfl⟩
  | (i, x) :: ps, j, n, h => by
    simp only [seqN, Bool.and_eq_true] at h
    have h1 := (beq_iff _ _).1 h.1
    obtain ⟨h2, h3⟩ := seqN_parts (ρ' := ρ') ps (j + 1) n h.2
    refine ⟨by simp only [List.length_cons]; omega, ?_⟩
    simp only [List.map_cons, List.zipIdx_cons, h3, h1]
theorem rep_elem {w : World} {F : Nat → Prop} {a : Ty} (ha : ∀ A B, a ≠ .fn A B) {x : a.den} {u : Value} (h : RepT P w F (tr I φ a x) u) :
    u.cells.size = (trc I φ a x).length ∧ ∀ (o : Nat) t, (trc I φ a x)[o]? = some t → ∃ c, u.cells[o]? = some c ∧ RepT P w F t c := by
  cases hA : a.isAgg with
  | true =>
    have : tr I φ a x = .ag (trc I φ a x) := by cases a <;> first | rfl | cases hA
    rw [this] at h
    obtain ⟨vals, us, rfl, hl, hv⟩ := ag_inv h
    exact ⟨by simpa [Value.cells] using hl, fun o t ho => ⟨us o, (hv o t ho).1, (hv o t ho).2⟩⟩
  | false =>
    obtain ⟨c, h1, h2⟩ := trc_one (I := I) (φ := φ) a hA x
    have h3 : tr I φ a x = c := by
      unfold tr; rw [h1]
      cases a <;> first | rfl | cases hA
    rw [h3] at h
    have h4 : u.cells = #[u] := rep_cells h h2 (fun q hq => by
      subst hq
      cases a with
      | fn A B => exact ha A B rfl
      | ptr e a => cases x <;> simp [trc] at h1
      | err => cases x <;> simp [trc, trE] at h1
      | st f => cases hA
      | pair a b => cases hA
      | unit => cases hA
      | _ => simp [trc] at h1)
    rw [h1, h4]
    refine ⟨rfl, fun o t ho => ?_⟩
    cases o with
    | zero => simp only [List.getElem?_cons_zero, Option.some.injEq] at ho; subst ho; exact ⟨u, rfl, h⟩
    | succ o => simp at ho
theorem zok_notFn {t : TypeId} {i : TI} (hi : TiFacts P I t i) (hz : i.zok = true) : ∀ A B, i.ty ≠ .fn A B := by
  intro A B h
  obtain ⟨q, hq, _, hz1⟩ := hi.bytes
  obtain ⟨z, hz2, hz3⟩ := hz1 hz
  rw [h] at hz3
  cases hzz : z.cells.toList with
  | nil => rw [hzz] at hz3; simp [Ty.flat, zeroIs] at hz3
  | cons v vs => rw [hzz] at hz3; simp [Ty.flat, zeroIs] at hz3
theorem run_buildSlice {t e : TypeId} {n : Nat} {parts : Array (Nat × Value)} {q : TypeInfo} {z : Value} {vals : Array Value} {w : World} (hp : P.underlying t = some (.slice e)) (hq : P.info? e = some q) (hz : q.zero = some z)
    (hle : n * P.cellsOf e ≤ 16777216) (hf : Instr.fill (fun i => some (i * P.cellsOf e, P.cellsOf e)) ((Array.range (n * P.cellsOf e)).map (z.cells[· % z.cells.size]!)) parts.toList = some vals) :
    (Instr.buildSlice t n parts).run P w = .ok (.slice (some ⟨w.heap.size, 0, none⟩) n n) (w.alloc (.cells vals e)) := by
  have hsz : q.size = P.cellsOf e := (cellsOf_info hq).symm
  unfold Instr.buildSlice
  by_cases h0 : n * P.cellsOf e = 0
  · have hf0 : Instr.fill (fun i => some (i * P.cellsOf e, P.cellsOf e)) ((Array.range (n * P.cellsOf e)).map ((#[] : Array Value)[· % (#[] : Array Value).size]!)) parts.toList = some vals := by
      rw [← hf, h0, Array.range_zero', Array.map_empty, Array.map_empty]
    rw [h0] at hf0
    simp only [Sem.run_bind, run_underlying hp, Result.andThen_ok, sizeOf, typeInfo, hq, hsz, Sem.run_pure]
    simp [h0, newRow, typeInfo, hq, hsz] at hf0 ⊢
    rw [hf0]
    simp [newRow]
  · simp [run_underlying hp, sizeOf, typeInfo, hq, hsz, h0, zeroValue, hz, hf, newRow, show ¬ (16777216 < n * P.cellsOf e) by omega]
theorem op_buildSlice {t : TypeId} {n : Nat} {parts : Array (Nat × Operand)} (hT : TabOk P I tb) (hf : FnsOk φ cs) (ho : o.op = .buildSlice t n parts) (hd : ∀ d, o.dst = some d → d < nt) (hself : selfOk gd o.dst = true)
    (h : @opK L (Option ρ) (semL cs) (semF ρ) (semR ρ cs ls) tb st gd o.dst o.type o.op k = some r) : ∃ st', k st' = some r ∧ Does P I φ β nt o st gd st' := by
  rw [ho] at h
  simp only [opK] at h
  obtain ⟨i, hti, h1⟩ := oCase_some h
  clear h
  have hi := ti_facts (hT t i hti)
  split at h1
  · rename_i e a hity
    obtain ⟨hp, hel, hok⟩ := sl_facts hi hity
    split at h1
    · cases h1
    · rename_i hseq
      split at h1
      ·
        split at h1
        · rename_i d hdst
          refine ⟨_, h1, does_val hdst (hd d hdst) hself rfl rfl (fun ac w g hi' he hn hh hon => ?_) fun w g hi' => ⟨g, Pass.refl _ _ _, hi'⟩⟩
          obtain ⟨hn0, _⟩ := seqN_parts (ρ' := ac.eval) parts.toList 0 0 hseq
          have hpar : parts.toList = [] := List.eq_nil_of_length_eq_zero (by omega)
          obtain ⟨h2, h3, _⟩ := inv_alloc hi' (.cells #[] e)
          refine ⟨.slice (some ⟨w.heap.size, 0, none⟩) 0 0, w.alloc (.cells #[] e), g, ?_, h2, h3, .zs _ _ _ (.inr ⟨_, rfl⟩)⟩
          unfold execOp
          simp only [ho]
          refine run_v ?_
          have hpa : parts = #[] := by rw [← Array.toArray_toList (xs := parts), hpar]
          subst hpa
          obtain ⟨q, hq, _⟩ := hi.bytes
          unfold Instr.buildSlice
          have hke : kn P e = true := by
            unfold elOk at hok
            simp only [Bool.and_eq_true] at hok
            exact hok.2.2.1
          obtain ⟨qe, hqe⟩ := Eng.info_of_kn hke
          simp [run_underlying hp, sizeOf, typeInfo, hqe, Instr.fill, newRow, Array.range_zero']
        · cases h1
      · rename_i hne
        obtain ⟨j, htj, h⟩ := oCase_some h1
        clear h1
        have hj := ti_facts (hT e j htj)
        split at h
        · cases h
        · rename_i hz
          simp only [Bool.and_eq_true, decide_eq_true_eq] at hz
          obtain ⟨hz, rfl, hsmall⟩ := hz
          have hsmall := Nat.le_of_ble_eq_true hsmall
          rw [Nat.mul_add, Nat.mul_one] at hsmall
          obtain ⟨xs, h1, hlen, hxs⟩ := evs_some h
          clear h
          simp only [List.reverse_nil, List.nil_append] at h1
          obtain ⟨vs, hlv, hvs, h⟩ := peekAll_pk xs [] _ h1
          clear h1
          obtain ⟨v, hv, h1⟩ := oCase_some h
          clear h
          simp only [List.reverse_nil, List.nil_append] at hv
          have hv : mkLL e j.ty vs = some v := hv
          unfold mkLL at hv
          split at hv
          · rename_i ys hys
            simp only [Option.some.injEq] at hv
            subst hv
            have hvl := litLL_get hys
            subst hvl
            simp only [List.length_map, Array.length_toList] at hlen hlv
            have hnf := zok_notFn hj hz
            have hrun : ∀ (ac : Act) (w : World) (g : G), Inv P I φ β st g w → EnvR P I φ st g w st.env ac.tmps → GnvR P I φ st g w st.gnv ac.tmps → Hold ac.tmps (keysOf gd) → ∃ g1 vals, Pass P I φ st g w (freezeAll st xs) g1 w ∧ Inv P I φ β (freezeAll st xs) g1 w ∧
                (execOp ac.eval o).run P w = .ok (.value (.slice (some ⟨w.heap.size, 0, none⟩) n n)) (w.alloc (.cells vals e)) ∧ n = ys.length ∧ vals.size = n * P.cellsOf e ∧
                ∀ (jj : Nat) t, (Eng.flat (ys.map fun y => one j.ty (trc I φ j.ty y)))[jj]? = some t → ∃ c, vals[jj]? = some c ∧ RepT P w g1.F t c := by
              intro ac w g hi' he hn hh
              obtain ⟨g1, hp1, hi1, hrep⟩ := freezeAll_ok hf xs st g hi'
              obtain ⟨hn0, hpar⟩ := seqN_parts (ρ' := ac.eval) parts.toList 0 n hseq
              have hn1 : n = ys.length := by simp only [Array.length_toList] at hn0; omega
              obtain ⟨q, z, hq, hqz, hsize, _, _⟩ := zok_info (I := I) (φ := φ) hj hz
              have hu : ∀ (jj : Nat) y, ys[jj]? = some y → ∃ u, (parts.toList.map fun p => ac.eval p.2)[jj]? = some u ∧ RepT P w g1.F (tr I φ j.ty y) u := by
                intro jj y hy
                have hlt := lt_of_get hy
                have hjp : jj < parts.toList.length := by simp only [Array.length_toList]; omega
                obtain ⟨x, hx1, hx2⟩ := hxs jj (i.elem, (parts.toList[jj]).2) (by rw [List.getElem?_map, List.getElem?_eq_getElem hjp]; rfl)
                have hau := evalO_ok (P := P) (I := I) (φ := φ) (g := g) (w := w) he hn hh hx2
                obtain ⟨v, hv1, hv2⟩ := hvs jj x hx1
                rw [List.getElem?_map, hy, Option.map_some, Option.some.injEq] at hv1
                subst hv1
                exact ⟨ac.eval (parts.toList[jj]).2, by rw [List.getElem?_map, List.getElem?_eq_getElem hjp]; rfl, hrep jj x _ _ hx1 hv2 hau⟩
              have hfits : ∀ x ∈ (ys.map fun y => one j.ty (trc I φ j.ty y)), Eng.Fits P e x := by
                intro x hx
                obtain ⟨y, _, rfl⟩ := List.mem_map.1 hx
                exact elOk_fits hok y
              have hcell : P.cellsOf e = j.ty.flat.length := hj.flat.symm
              obtain ⟨vals, h3, h4, _, h6⟩ := fill_slice (P.cellsOf e) (parts.toList.map fun p => ac.eval p.2) 0 ((Array.range (n * P.cellsOf e)).map (z.cells[· % z.cells.size]!))
                (fun u hu' => by
                  obtain ⟨jj, hjj⟩ := List.getElem?_of_mem hu'
                  have hlt := lt_of_get hjj
                  simp only [List.length_map, Array.length_toList] at hlt
                  obtain ⟨u', hu1, hu2⟩ := hu jj ys[jj] (List.getElem?_eq_getElem (by omega))
                  rw [hjj, Option.some.injEq] at hu1
                  subst hu1
                  rw [(rep_elem hnf hu2).1, trc_length, hcell])
                (by simp only [List.length_map, Array.length_toList, Array.size_map, Array.size_range, Nat.zero_add]; rw [show parts.size = n by omega]; exact Nat.le_refl _)
              refine ⟨g1, vals, hp1, hi1, ?_, hn1, by rw [h4]; simp, fun jj t hjt => ?_⟩
              · unfold execOp
                simp only [ho]
                refine run_v (run_buildSlice hp hq hqz (by rw [hcell]; omega) ?_)
                rw [← h3, ← hpar, Array.toList_map]
              · obtain ⟨hpos, hlt, x, hx, hxc⟩ := flat_at hfits hjt
                rw [List.getElem?_map, Option.map_eq_some_iff] at hx
                obtain ⟨y, hy, rfl⟩ := hx
                rw [show one j.ty (trc I φ j.ty y) = tr I φ j.ty y from rfl, tr_cells] at hxc
                obtain ⟨u, hu1, hu2⟩ := hu _ y hy
                obtain ⟨c, hc1, hc2⟩ := (rep_elem hnf hu2).2 _ t hxc
                refine ⟨c, ?_, hc2⟩
                have := h6 _ u hu1 (jj % P.cellsOf e) (Nat.mod_lt _ hpos)
                rw [Nat.zero_add, show jj / P.cellsOf e * P.cellsOf e + jj % P.cellsOf e = jj by rw [Nat.mul_comm]; exact Nat.div_add_mod jj _, hc1] at this
                exact this
            split at h1
            · cases h1
            · rename_i d hdst
              split at h1
              ·
                refine ⟨_, h1, does_val hdst (hd d hdst) hself (freezeAll_env xs st).1 (freezeAll_env xs st).2 (fun ac w g hi' he hn hh hon => ?_) fun w g hi' => ?_⟩
                · obtain ⟨g1, vals, hp1, hi1, hrun1, hn1, hvsz, hcell⟩ := hrun ac w g hi' he hn hh
                  obtain ⟨g2, h3, h4, h5⟩ := inv_fresh hi1 (w' := w.alloc (.cells vals e)) (fun b hb => heap_alloc_old w _ b hb) (by simp) rfl rfl rfl
                  refine ⟨_, _, g2, hrun1, hp1.trans h3, h4, ?_⟩
                  have hnb := heap_alloc_new w (.cells vals e)
                  have hF : g2.F w.heap.size := by rw [h5]; exact .inr ⟨Nat.le_refl _, by simp⟩
                  refine .tl _ _ _ ?_
                  show RepT P _ _ (.sl e false (ys.map fun y => one j.ty (trc I φ j.ty y))) _
                  have := RepT.sl (P := P) (w := w.alloc (.cells vals e)) (F := g2.F) e false (ys.map fun y => one j.ty (trc I φ j.ty y)) w.heap.size 0 n (fun jj => vals.getD jj undef) (fun _ => hF) (fun x hx => by
                    obtain ⟨y, _, rfl⟩ := List.mem_map.1 hx
                    exact elOk_fits hok y) (by simp [hn1])
                    (fun jj t hjt => by
                      obtain ⟨c, hc1, _⟩ := hcell jj t hjt
                      rw [cell_of_row _ _ _ _ e (0, 0) hnb, Nat.zero_add]
                      simp [hc1])
                    (fun jj t hjt => by
                      obtain ⟨c, hc1, hc2⟩ := hcell jj t hjt
                      simp only [Array.getD_eq_getD_getElem?, hc1, Option.getD_some]
                      exact h3.rep hc2)
                  simpa [← hn1] using this
                · obtain ⟨g1, hp1, hi1, _⟩ := freezeAll_ok hf xs st g hi'
                  exact ⟨g1, hp1, hi1⟩
              · rcases rootG_some h1 with ⟨hong, h1⟩ | ⟨g1, rfl, hoff, h1⟩
                · refine ⟨_, h1, does_newG hdst (hd d hdst) ?_ ?_ hong fun ac w g hi' he hn hh => ?_⟩
                  · rw [newRoot_eq]; exact (freezeAll_env xs st).1
                  · rw [newRoot_eq]; exact (freezeAll_env xs st).2
                  · obtain ⟨g1, vals, hp1, hi1, hrun1, hn1, hvsz, hcell⟩ := hrun ac w g hi' he hn hh
                    have hmul : ys.length * P.cellsOf e = vals.size := by rw [hvsz, hn1]
                    obtain ⟨g2, h3, h4, h5⟩ := inv_newrow hi1 d 0 n e j.ty ys vals vals.toList
                      (by
                        have := World.ownsRow_lit (base := 0) (e := e) (size := P.cellsOf e) w vals n (Nat.zero_le _) (by
                          simp only [maxLen]
                          omega) hvsz
                        rw [hn1] at this ⊢
                        exact this)
                      (fun x hx => by
                        obtain ⟨y, _, rfl⟩ := List.mem_map.1 hx
                        exact elOk_fits hok y)
                      (fun jj t u hjt hju => by
                        obtain ⟨c, hc1, hc2⟩ := hcell jj t hjt
                        rw [Array.getElem?_toList, hc1, Option.some.injEq] at hju
                        subst hju
                        exact hc2.mono (fun b _ hb => heap_alloc_old w _ b hb) fun _ hb => hb)
                    rw [← hn1] at h5
                    exact ⟨_, _, g2, hrun1, hp1.trans h3, h4, h5⟩
                · exact ⟨_, h1, does_off hdst (hd d hdst) hself hoff⟩
          · cases hv
  · cases h1
end Go.Y
namespace Go.Y
open Go.Eng (T RepT RepM SRep Kept Base G SameOn VRep Split Live Free kn Owns)
variable {P : Program} {I : Ids} {φ : FnP} {β : Base} {nt : Nat} {cs : List (Nat × Con)}
variable {st : St L}
theorem live_congr {g : G} {sto sto' : List (Nat × Eng.Root)} (h : ∀ k, Eng.get sto' k = Eng.get sto k) (b : Nat) : Live g sto' b ↔ Live g sto b := by
  unfold Live; simp only [h]
theorem free_congr {g : G} {w : World} {sto sto' : List (Nat × Eng.Root)} (h : ∀ k, Eng.get sto' k = Eng.get sto k) {N : Nat → Prop} (hN : Free β g sto w N) : Free β g sto' w N :=
  fun b hb => ⟨fun hl => (hN b hb).1 ((live_congr h b).1 hl), (hN b hb).2⟩
theorem inv_take {g : G} {w : World} (h : Inv P I φ β st g w) {k j s d : Nat} {r : Root L} {v : L} (hr : get st.sto k = some r) (hc : r.cells[j]? = some ⟨s, .o d v⟩) :
    ∃ g' u N, Pass P I φ st g w (setCell st k j ⟨s + 1, .mv⟩) g' w ∧ Inv P I φ β (setCell st k j ⟨s + 1, .mv⟩) g' w ∧ g'.F = g.F ∧ Eng.rootV g w k (injR I φ st r) j = some u ∧ RepM P w g.F d (trL I φ v) u N ∧
      Free β g' (injS I φ (setCell st k j ⟨s + 1, .mv⟩)) w N ∧ (∀ b, Live g' (injS I φ (setCell st k j ⟨s + 1, .mv⟩)) b → Live g (injS I φ st) b) ∧ (∀ b, N b → Live g (injS I φ st) b) := by
  have hr' : Eng.get (injS I φ st) k = some (injR I φ st r) := by rw [get_injS, hr]; rfl
  have hc' := injR_cell (I := I) (φ := φ) (st := st) hc
  simp only [injE] at hc'
  obtain ⟨g', u, N, hM, hF, hu, hrep, hfree, had, hlive, hN⟩ := Eng.move_take h.s h.k hr' hc'
  have hT : Turn st k j ⟨s, .o d v⟩ ⟨s + 1, .mv⟩ r := ⟨hr, hc, Nat.le_succ _, fun l hl => by cases hl⟩
  have hget := fun i => hT.get (I := I) (φ := φ) (Eng.fpC k j) (fun l hl => by simp [Eng.fpC, hl]) h.c i
  simp only [injE] at hget
  have hst : ∀ l : Loc L, bnd st l → l.root = k → l.off = j → l.gen = r.gen → l.stamp = s + 1 → False := by
    intro l ⟨r1, h1, h2, h3⟩ e1 e2 e3 e4
    rw [e1, hr, Option.some.injEq] at h1
    subst h1
    have := h3 e3 ⟨s, .o d v⟩ (by rw [e2]; exact hc)
    simp only at this
    omega
  have hvA : ∀ l, bnd st l → validA (setCell st k j ⟨s + 1, .mv⟩) l → validA st l ∧ ¬ (l.root = k ∧ l.off = j) := by
    intro l hb hv
    rcases hT.validA l hv with hv | ⟨e1, e2, e3, e4⟩
    · exact ⟨hv.2, hv.1⟩
    · exact (hst l hb e1 e2 e3 e4).elim
  obtain ⟨h2, h3⟩ := pass_of_move (st' := setCell st k j ⟨s + 1, .mv⟩) hM hget (Nat.le_refl _) hT.bnd
    (fun l hb hv => ⟨(hvA l hb hv).1, by
      have := (hvA l hb hv).2
      simp only [Eng.faC, injLoc, Bool.and_eq_false_iff, beq_eq_false_iff_ne]
      rcases Decidable.em (l.root = k) with e | e
      · exact .inr fun e2 => this ⟨e, e2⟩
      · exact .inl e⟩)
    (fun l hb hv => by
      refine ⟨⟨hT.rootAt l hv.1, fun hs => (hvA l hb (hv.2 hs)).1⟩, ?_⟩
      by_cases hs : l.steps = []
      · simp [Eng.fpC, injLoc, hs]
      · have := (hvA l hb (hv.2 hs)).2
        simp only [Eng.fpC, injLoc, Bool.and_eq_false_iff, beq_eq_false_iff_ne]
        refine .inl ?_
        rcases Decidable.em (l.root = k) with e | e
        · exact .inr fun e2 => this ⟨e, e2⟩
        · exact .inl e) (hT.cbnd h.c) (fun b hb => h.f b (by rw [← hF]; exact hb))
  exact ⟨g', u, N, h2, h3, hF, hu, hrep, free_congr hget hfree, fun b hb => hlive b ((live_congr hget b).1 hb), hN⟩
def Held (P : Program) (I : Ids) (φ : FnP) (st : St L) (g : G) (w : World) : E L → Value → (Nat → Prop) → Prop
  | .o d v, u, N => RepM P w g.F d (trL I φ v) u N
  | .rf l, u, _ => ARep P I φ st g w (.pt l) u ∧ l.steps = []
  | .mv, _, _ => True
theorem Held.pass {st st' : St L} {g g' : G} {w : World} (hp : Pass P I φ st g w st' g' w) {e : E L} {u : Value} {N : Nat → Prop} (h : Held P I φ st g w e u N) : Held P I φ st' g' w e u N := by
  cases e with
  | o d v => exact RepM.mono d (SameOn.refl _ w) hp.F (fun _ hb => hb) h
  | rf l => exact ⟨hp.a _ _ h.1, h.2⟩
  | mv => trivial
structure Took (P : Program) (I : Ids) (φ : FnP) (β : Base) (st : St L) (g : G) (w : World) (st' : St L) (g' : G) (N : Nat → Prop) : Prop where
  pass : Pass P I φ st g w st' g' w
  inv : Inv P I φ β st' g' w
  F : g'.F = g.F
  free : Free β g' (injS I φ st') w N
  live : ∀ b, Live g' (injS I φ st') b → Live g (injS I φ st) b
  N : ∀ b, N b → Live g (injS I φ st) b
  env : st'.env = st.env ∧ st'.gnv = st.gnv
theorem Took.refl {g : G} {w : World} (h : Inv P I φ β st g w) : Took P I φ β st g w st g (fun _ => False) :=
  ⟨Pass.refl _ _ _, h, rfl, fun b hb => hb.elim, fun _ h => h, fun b hb => hb.elim, rfl, rfl⟩
theorem rep_zs_any {w : World} {F : Nat → Prop} {e : TypeId} {a : Ty} {u : Value} (h : u = .slice none 0 0 ∨ ∃ b, u = .slice (some b) 0 0) (d : Nat) (B : Nat → Prop) : RepM P w F d (.sl e false []) u B := by
  have hfl : ∀ (j : Nat) (t : T), (Eng.flat [])[j]? = some t → False := by intro j t hj; simp [Eng.flat] at hj
  cases d with
  | zero =>
    rcases h with rfl | ⟨b, rfl⟩
    · exact .nsl e false
    · exact .esl e false b 0
  | succ d =>
    refine ⟨[], ?_, fun x hx => by simp at hx, fun _ _ => False, ⟨fun b hb => ?_, fun j b hb => hb.elim, fun j k b hb => hb.elim⟩, fun j t u hj => (hfl j t hj).elim⟩
    · rcases h with rfl | ⟨b, rfl⟩
      · exact .inl (World.ownsRow_nil w 0 e _)
      · exact .inr ⟨rfl, rfl, b, rfl⟩
    · rcases h with rfl | ⟨b, rfl⟩ <;> simp [Eng.ownB] at hb
theorem absorb_ok {g : G} {w : World} (hi : Inv P I φ β st g w) {c : AV L} {u : Value} (ha : ARep P I φ st g w c u) {e : E L} {st' : St L} (h : @absorb L (semL cs) st c = some (e, st')) :
    ∃ g' N, Took P I φ β st g w st' g' N ∧ Held P I φ st' g' w e u N := by
  cases c with
  | lf v =>
    simp only [absorb, Option.some.injEq, Prod.mk.injEq] at h
    obtain ⟨rfl, rfl⟩ := h
    exact ⟨g, _, Took.refl hi, arep_lf ha⟩
  | tl v =>
    simp only [absorb, Option.some.injEq, Prod.mk.injEq] at h
    obtain ⟨rfl, rfl⟩ := h
    refine ⟨g, _, Took.refl hi, ?_⟩
    cases ha with | tl _ _ _ h => exact h
  | zs e a =>
    simp only [absorb, Option.some.injEq, Prod.mk.injEq] at h
    obtain ⟨rfl, rfl⟩ := h
    refine ⟨g, _, Took.refl hi, ?_⟩
    cases ha with | zs _ _ _ h => exact rep_zs_any (a := a) h _ _
  | ar l =>
    simp only [absorb] at h
    split at h
    · rename_i hst
      split at h
      · rename_i s d v hc
        split at h
        · rename_i hs
          simp only [Option.some.injEq, Prod.mk.injEq] at h
          obtain ⟨rfl, rfl⟩ := h
          simp only [Bool.and_eq_true] at hs
          have hs1 := (beq_iff _ _).1 hs.1
          obtain ⟨r, hr, hg, hcell⟩ := cellAt_iff.1 hc
          have hu := ar_root ha hr hg hcell hs1 hs.2 hst
          obtain ⟨g', u', N, h1, h2, h3, h4, h5, h6, h7, h8⟩ := inv_take hi hr hcell
          rw [hu, Option.some.injEq] at h4
          subst h4
          refine ⟨g', N, ⟨h1, h2, h3, h6, h7, h8, ?_⟩, ?_⟩
          · unfold setCell; rw [hr]; exact ⟨rfl, rfl⟩
          · show RepM P w g'.F d _ u N
            rw [h3]; exact h5
        · cases h
      · cases h
    · cases h
  | pt l =>
    simp only [absorb] at h
    split at h
    · rename_i hst
      simp only [Option.some.injEq, Prod.mk.injEq] at h
      obtain ⟨rfl, rfl⟩ := h
      exact ⟨g, _, Took.refl hi, ha, hst⟩
    · cases h
  | u =>
    simp only [absorb, Option.some.injEq, Prod.mk.injEq] at h
    obtain ⟨rfl, rfl⟩ := h
    exact ⟨g, _, Took.refl hi, trivial⟩
  | fp v => simp only [absorb] at h; cases h
  | ag t cs => simp only [absorb] at h; cases h
  | tu cs => simp only [absorb] at h; cases h
  | fn f cs => simp only [absorb] at h; cases h
theorem setCell_env (st : St L) (k j : Nat) (c : Cell L) : (setCell st k j c).env = st.env ∧ (setCell st k j c).gnv = st.gnv := by
  unfold setCell
  split <;> exact ⟨rfl, rfl⟩
theorem absorb_env {c : AV L} {e : E L} {st' : St L} (h : @absorb L (semL cs) st c = some (e, st')) : st'.env = st.env ∧ st'.gnv = st.gnv := by
  unfold absorb at h
  split at h
  · simp only [Option.some.injEq, Prod.mk.injEq] at h; obtain ⟨_, rfl⟩ := h; exact ⟨rfl, rfl⟩
  · simp only [Option.some.injEq, Prod.mk.injEq] at h; obtain ⟨_, rfl⟩ := h; exact ⟨rfl, rfl⟩
  · simp only [Option.some.injEq, Prod.mk.injEq] at h; obtain ⟨_, rfl⟩ := h; exact ⟨rfl, rfl⟩
  · split at h
    · split at h
      · split at h
        · simp only [Option.some.injEq, Prod.mk.injEq] at h; obtain ⟨_, rfl⟩ := h; exact setCell_env _ _ _ _
        · cases h
      · cases h
    · cases h
  · split at h
    · simp only [Option.some.injEq, Prod.mk.injEq] at h; obtain ⟨_, rfl⟩ := h; exact ⟨rfl, rfl⟩
    · cases h
  · simp only [Option.some.injEq, Prod.mk.injEq] at h; obtain ⟨_, rfl⟩ := h; exact ⟨rfl, rfl⟩
  · cases h
theorem absorbL_env : ∀ {qs : List (AV L)} {st : St L} {es : List (E L)} {st' : St L}, @absorbL L (semL cs) st qs = some (es, st') → st'.env = st.env ∧ st'.gnv = st.gnv
  | [], st, es, st', h => by simp only [absorbL, Option.some.injEq, Prod.mk.injEq] at h; obtain ⟨_, rfl⟩ := h; exact ⟨rfl, rfl⟩
  | c :: qs, st, es, st', h => by
    simp only [absorbL] at h
    split at h
    · rename_i e st1 h1
      split at h
      · rename_i es2 st2 h2
        simp only [Option.some.injEq, Prod.mk.injEq] at h
        obtain ⟨_, rfl⟩ := h
        have a := absorb_env h1
        have b := absorbL_env h2
        exact ⟨b.1.trans a.1, b.2.trans a.2⟩
      · cases h
    · cases h
theorem absorbL_ok {w : World} : ∀ (qs : List (AV L)) {st : St L} {g : G} (_ : Inv P I φ β st g w) (us : Nat → Value) (_ : ∀ (j : Nat) c, qs[j]? = some c → ARep P I φ st g w c (us j)) {es : List (E L)} {st' : St L} (_ : @absorbL L (semL cs) st qs = some (es, st')),
    es.length = qs.length ∧ ∃ (g' : G) (Ns : Nat → Nat → Prop), Took P I φ β st g w st' g' (fun b => ∃ j, Ns j b) ∧ (∀ j k b, Ns j b → Ns k b → j = k) ∧ ∀ (j : Nat) e, es[j]? = some e → Held P I φ st' g' w e (us j) (Ns j)
  | [], st, g, hi, us, _, es, st', h => by
    simp only [absorbL, Option.some.injEq, Prod.mk.injEq] at h
    obtain ⟨rfl, rfl⟩ := h
    exact ⟨rfl, g, fun _ _ => False, ⟨Pass.refl _ _ _, hi, rfl, fun b hb => hb.elim fun _ h => h.elim, fun _ h => h, fun b hb => hb.elim fun _ h => h.elim, rfl, rfl⟩, fun j k b hb => hb.elim, fun j e hj => by simp at hj⟩
  | c :: qs, st, g, hi, us, ha, es, st', h => by
    simp only [absorbL] at h
    split at h
    · rename_i e st1 h1
      split at h
      · rename_i es2 st2 h2
        simp only [Option.some.injEq, Prod.mk.injEq] at h
        obtain ⟨rfl, rfl⟩ := h
        obtain ⟨g1, N, ht, hh⟩ := absorb_ok hi (ha 0 c rfl) h1
        obtain ⟨hlen, g2, Ns, ht2, hd, hh2⟩ := absorbL_ok qs ht.inv (fun j => us (j + 1)) (fun j c hj => ht.pass.a _ _ (ha (j + 1) c (by simpa using hj))) h2
        refine ⟨by simp [hlen], g2, fun j => match j with | 0 => N | j + 1 => Ns j, ⟨ht.pass.trans ht2.pass, ht2.inv, ht2.F.trans ht.F, ?_, fun b hb => ht.live b (ht2.live b hb), ?_, ht2.env.1.trans ht.env.1, ht2.env.2.trans ht.env.2⟩, ?_, ?_⟩
        · rintro b ⟨j, hb⟩
          cases j with
          | zero =>
            have := ht.free b hb
            exact ⟨fun hl => this.1 (ht2.live b hl), by rw [ht2.F]; exact this.2.1, this.2.2⟩
          | succ j => exact ht2.free b ⟨j, hb⟩
        · rintro b ⟨j, hb⟩
          cases j with
          | zero => exact ht.N b hb
          | succ j => exact ht.live b (ht2.N b ⟨j, hb⟩)
        · intro j k b hj hk
          cases j with
          | zero =>
            cases k with
            | zero => rfl
            | succ k => exact ((ht.free b hj).1 (ht2.N b ⟨k, hk⟩)).elim
          | succ j =>
            cases k with
            | zero => exact ((ht.free b hk).1 (ht2.N b ⟨j, hj⟩)).elim
            | succ k => rw [hd j k b hj hk]
        · intro j e0 hj
          cases j with
          | zero =>
            simp only [List.getElem?_cons_zero, Option.some.injEq] at hj
            subst hj
            exact hh.pass ht2.pass
          | succ j => exact hh2 j e0 (by simpa using hj)
      · cases h
    · cases h
end Go.Y
namespace Go.Y
open Go.Eng (T RepT RepM SRep Kept Base G SameOn VRep Split Live Free kn Owns)
variable {P : Program} {I : Ids} {φ : FnP} {β : Base} {nt : Nat} {cs : List (Nat × Con)}
variable {ρ : Type} {ls : List (Nat × LoopC ρ)} {r : ρ} {tb : Tabs} {st : St L} {gd : Option (Gd L)} {k : St L → Option ρ} {o : Oper}
theorem rfOk_mem {d : Nat} : ∀ {es : List (E L)}, rfOk d es = true → ∀ l, E.rf l ∈ es → l.root ≠ d
  | [], _, l, hl => by simp at hl
  | .rf l0 :: es, h, l, hl => by
    simp only [rfOk, Bool.and_eq_true, Bool.not_eq_true'] at h
    rcases List.mem_cons.1 hl with e | hl
    · simp only [E.rf.injEq] at e
      subst e
      intro e
      rw [e, Nat.beq_refl] at h
      cases h.1
    · exact rfOk_mem h.2 l hl
  | .o d0 v :: es, h, l, hl => by
    rcases List.mem_cons.1 hl with e | hl
    · cases e
    · exact rfOk_mem (es := es) h l hl
  | .mv :: es, h, l, hl => by
    rcases List.mem_cons.1 hl with e | hl
    · cases e
    · exact rfOk_mem (es := es) h l hl
theorem free_alloc {st : St L} {g : G} {w : World} {N : Nat → Prop} (h : Free β g (injS I φ st) w N) (ob : Obj) : Free β g (injS I φ st) (w.alloc ob) N :=
  fun b hb => ⟨(h b hb).1, (h b hb).2.1, by have := (h b hb).2.2.1; simp; omega, (h b hb).2.2.2⟩
theorem op_box {e : TypeId} {x : Operand} (hT : TabOk P I tb) (hf : FnsOk φ cs) (ho : o.op = .box e x) (hd : ∀ d, o.dst = some d → d < nt)
    (h : @opK L (Option ρ) (semL cs) (semF ρ) (semR ρ cs ls) tb st gd o.dst o.type o.op k = some r) : ∃ st', k st' = some r ∧ Does P I φ β nt o st gd st' := by
  rw [ho] at h
  cases gd with
  | some _ => simp only [opK] at h; cases h
  | none =>
  simp only [opK] at h
  obtain ⟨y, hy, h1⟩ := oCase_some h
  clear h
  obtain ⟨i, hti, h⟩ := oCase_some h1
  clear h1
  have hi := ti_facts (hT e i hti)
  split at h
  · rename_i d hbx
    have hdst : o.dst = some d := by
      unfold boxed at hbx
      split at hbx
      · rename_i d0 hd0
        split at hbx
        · rw [hd0]; exact hbx
        · cases hbx
      · cases hbx
    obtain ⟨v, hpk, h1⟩ := peek_pk h
    clear h
    split at h1
    · rename_i hc
      rw [Bool.and_eq_true, Bool.not_eq_true'] at hc
      have hit : i.ty = v.ty := of_decide_eq_true hc.1
      have hnf : ∀ A B, v.ty ≠ .fn A B := fun A B e => by rw [hit, e] at hc; cases hc.2
      refine ⟨_, h1, does_new hdst (hd d hdst) (freezeAll_env [y] st).1 (freezeAll_env [y] st).2 fun ac w g hi' he hn => ?_⟩
      have hau := evalO_ok (P := P) (I := I) (φ := φ) (g := g) (w := w) he hn (by intro kk hk; simp [gdKeys] at hk) hy
      obtain ⟨g1, hp1, hi1, hrep⟩ := freezeAll_ok hf [y] st g hi'
      have hr : RepT P w g1.F (tr I φ v.ty v.val) (ac.eval x) := hrep 0 y v _ rfl hpk hau
      obtain ⟨_, hcells⟩ := rep_elem hnf hr
      obtain ⟨g2, h3, h4, h5⟩ := inv_fresh hi1 (w' := w.alloc (.cells (ac.eval x).cells e)) (fun b hb => heap_alloc_old w _ b hb) (by simp) rfl rfl rfl
      refine ⟨.pointer (some ⟨w.heap.size, 0, none⟩), w.alloc (.cells (ac.eval x).cells e), g2, ?_, hp1.trans h3, h4, ?_⟩
      · unfold execOp
        simp only [ho]
        refine run_v ?_
        simp [Instr.box, newVar, newRow]
      · refine .fp v w.heap.size 0 (fun j => (ac.eval x).cells.getD j undef) (by rw [h5]; exact .inr ⟨Nat.le_refl _, by simp⟩) (fun j t hj => ?_) fun j t hj => ?_
        · obtain ⟨c, hc1, _⟩ := hcells j t hj
          rw [cell_of_row _ _ _ _ e (0, 0) (heap_alloc_new w _), Nat.zero_add]
          simp [hc1]
        · obtain ⟨c, hc1, hc2⟩ := hcells j t hj
          simp only [Array.getD_eq_getD_getElem?, hc1, Option.getD_some]
          exact h3.rep hc2
    · cases h1
  obtain ⟨ps, hps, h1⟩ := oCase_some h
  clear h
  obtain ⟨⟨es, st1⟩, hab, h⟩ := oCase_some h1
  clear h1
  simp only at h
  cases hdst : o.dst with
  | none => rw [hdst] at h; cases h
  | some d =>
    rw [hdst] at h
    simp only at h
    split at h
    · rename_i hrf
      refine ⟨_, h, ?_⟩
      have henv : st1.env = st.env ∧ st1.gnv = st.gnv := absorbL_env hab
      refine does_new hdst (hd d hdst) (by rw [newRoot_eq]; exact henv.1) (by rw [newRoot_eq]; exact henv.2) fun ac w g hi' he hn => ?_
      have hau := evalO_ok (P := P) (I := I) (φ := φ) (g := g) (w := w) he hn (by intro kk hk; simp [gdKeys] at hk) hy
      obtain ⟨hsz, us, hus⟩ := avCells_ok hi' hau hps
      obtain ⟨hlen, g1, Ns, ht, hdis, hheld⟩ := absorbL_ok ps hi' us (fun j c hj => (hus j c hj).2) hab
      have hnb := heap_alloc_new w (.cells (ac.eval x).cells e)
      obtain ⟨h2, h3, h4⟩ := inv_alloc ht.inv (.cells (ac.eval x).cells e)
      have hfr := free_alloc ht.free (.cells (ac.eval x).cells e)
      obtain ⟨h5, h6⟩ := inv_newE h3 d (some e) es w.heap.size (fun _ => undef) (fun b => b = w.heap.size ∨ ∃ j, Ns j b) Ns
        (fun b hb => hb.elim (fun hb => h4 b hb) fun hb => hfr b hb)
        ⟨fun b hb => .inl (by simpa [eq_comm] using hb), fun j b hb => ⟨.inr ⟨j, hb⟩, by
          have := (ht.free b ⟨j, hb⟩).2.2.1
          simp only [Option.map_some, ne_eq, Option.some.injEq]
          omega⟩, hdis⟩
        (fun e' he' => by
          simp only [Option.some.injEq] at he'
          subst he'
          exact ⟨_, hnb, by rw [hsz, hlen]⟩)
        (fun j e0 hj => by
          have hjl := lt_of_get hj
          obtain ⟨c, hc⟩ : ∃ c, ps[j]? = some c := ⟨ps[j]'(by omega), by simp [show j < ps.length by omega]⟩
          refine ⟨us j, ?_, ?_⟩
          · simp only
            rw [cell_of_row _ _ j _ e (0, 0) hnb]
            exact (hus j c hc).1
          · have := hheld j e0 hj
            cases e0 with
            | o dd v => exact RepM.mono dd (fun b _ hb => heap_alloc_old w _ b hb) (fun _ hb => hb) (fun _ hb => hb) this
            | rf l => exact ⟨h2.a _ _ this.1, rfOk_mem hrf l (List.mem_of_getElem? hj), this.2⟩
            | mv => trivial)
      have hnm := arep_newpt (P := P) (I := I) (φ := φ) (st := st1) (g := g1.set g1.F d (fun b => b = w.heap.size ∨ ∃ j, Ns j b) w.heap.size (fun _ => undef)) (w := w.alloc (.cells (ac.eval x).cells e)) (d := d) (e := e) (es := es)
      simp only [Eng.G.set, if_true] at hnm
      refine ⟨.pointer (some ⟨w.heap.size, 0, none⟩), w.alloc (.cells (ac.eval x).cells e), _, ?_, (ht.pass.trans h2).trans h5, h6, hnm⟩
      unfold execOp
      simp only [ho]
      refine run_v ?_
      simp [Instr.box, newVar, newRow]
    · cases h
end Go.Y
