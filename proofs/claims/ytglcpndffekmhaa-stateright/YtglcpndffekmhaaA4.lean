/- StateRight: for every input the law returns true, and each argument reads afterwards as it did before; no conditions. -/
import Derived.Test.YtglcpndffekmhaaA3
import Derived.Test.YtglcpndffekmhaaRows
namespace Go.Y
theorem band_le {x y : Int} (h0 : 0 ≤ y) (h1 : y ≤ 9223372036854775807) : 0 ≤ band .i64 x y ∧ band .i64 x y ≤ y := by
  have h2 : (BitVec.ofInt 64 x &&& BitVec.ofInt 64 y).toNat ≤ y.toNat := by
    rw [BitVec.toNat_and]
    refine Nat.le_trans Nat.and_le_right ?_
    rw [BitVec.toNat_ofInt]
    have : y % ((2 ^ 64 : Nat) : Int) = y := Int.emod_eq_of_lt h0 (by omega)
    rw [this]; exact Nat.le_refl _
  have h3 : band .i64 x y = ((BitVec.ofInt 64 x &&& BitVec.ofInt 64 y).toNat : Int) := by
    show wr .i64 ((BitVec.ofInt 64 x &&& BitVec.ofInt 64 y).toNat : Int) = _
    exact wr_i64 (by omega) (by omega)
  rw [h3]
  omega
theorem ref12_Fix_ok (N : Nat) (v : Val) : ∃ v', avermentref12_Fix N v = some v' ∧ valR v' = true := by
  obtain ⟨s, ⟨kb, kn⟩, ⟨lo, hi⟩, p⟩ := v
  have h7 := band_le (x := s) (y := 7) (by omega) (by omega)
  have h3 := band_le (x := p) (y := 3) (by omega) (by omega)
  unfold avermentref12_Fix avermentref09_Clean avermentref10_Fix
  simp only [pJoin_]
  generalize band .i64 s 7 = s' at h7
  generalize band .i64 p 3 = p' at h3
  unfold valR
  by_cases h1 : s' = 0 <;> by_cases h2 : p' = 0 <;> cases kb <;> by_cases h4 : hi < lo <;> simp [h1, h2, h4] <;> omega
theorem Fix_in {N : Nat} (k0 : Int × Int × Int × Bool × List Val × List (List Int) × Bool × List Val × List (List Int) × Bool × List Val × List (List Int) × List Int → Option Stt) (s t o : Stt) (regs : Int) (r : Nat) (l : List Int) (hr : s.2.2[r]? = some l) :
    ∀ (n i : Nat) (acc : List Int), i ≤ l.length → i ≤ 60 → 60 < n + i → acc.length = i → (∀ x ∈ acc, 0 ≤ x ∧ x < 70) →
      ∃ acc', acc'.length ≤ 60 ∧ (∀ x ∈ acc', 0 ≤ x ∧ x < 70) ∧
        avermentref13_Fix_l10 N k0 n regs 70 r i s.1 s.2.1 s.2.2 t.1 t.2.1 t.2.2 o.1 o.2.1 o.2.2 acc = k0 (regs, 70, r, s.1, s.2.1, s.2.2, t.1, t.2.1, t.2.2, o.1, o.2.1, o.2.2, acc') := by
  intro n
  induction n with
  | zero => intro i acc h1 h2 h3; omega
  | succ n ih =>
    intro i acc h1 h2 h3 h4 h5
    unfold avermentref13_Fix_l10
    rw [pIdx_nat hr]
    simp only [pLet_, pick_and]
    by_cases hi : i < l.length ∧ i < 60
    · have e1 : ((i : Nat) : Int) < l.length := by omega
      have e2 : ((i : Nat) : Int) < 60 := by omega
      simp only [len_, e1, e2, decide_true, Bool.and_self, pIf_t]
      rw [pIdx_nat hr, pIdx_lt hi.1]
      have e3 : (!decide (wr .u64 70 = 0)) = true := rfl
      have e4 : 0 ≤ remI (wr .u64 l[i]) (wr .u64 70) ∧ remI (wr .u64 l[i]) (wr .u64 70) < 70 := by
        show 0 ≤ Int.tmod (wr .u64 l[i]) 70 ∧ Int.tmod (wr .u64 l[i]) 70 < 70
        rw [wr_u64_mod, Int.tmod_eq_emod_of_nonneg (by omega)]
        omega
      rw [e3, pCk_t, wr_i64 (by omega) (by omega), room_of (by simp; omega) (by simp; omega), pCk_t, wr_succ hi.2 (by omega)]
      refine ih (i + 1) _ (by omega) (by omega) (by omega) (by simp; omega) fun x hx => ?_
      rcases List.mem_append.1 hx with hx | hx
      · exact h5 x hx
      · rw [List.mem_singleton] at hx; subst hx; exact e4
    · have : (decide (((i : Nat) : Int) < l.length) && decide (((i : Nat) : Int) < 60)) = false := by
        by_cases h6 : ((i : Nat) : Int) < l.length
        · simp [show ¬ ((i : Nat) : Int) < 60 by omega]
        · simp [h6]
      rw [len_, this, pIf_f]
      exact ⟨acc, by omega, h5, rfl⟩
theorem setR_of {n : Int} (hn : 0 ≤ n) (hn2 : n ≤ 4096) {l : List Int} (h : Inc l) (h2 : ∀ x ∈ l, 0 ≤ x ∧ x < n) : setR n l = true := by
  unfold setR
  simp only [hn, hn2, decide_true, Bool.true_and]
  have : ∀ (l : List Int) (last : Int), Inc l → (∀ x ∈ l, last < x ∧ x < n) → riseB n last l = true := by
    intro l
    induction l with
    | nil => intros; rfl
    | cons x r ih =>
      intro last h h2
      have h3 := h2 x (by simp)
      have h4 := List.pairwise_cons.1 h
      simp only [riseB, h3, decide_true, Bool.true_and]
      exact ih x h4.2 fun y hy => ⟨h4.1 y hy, (h2 y (by simp [hy])).2⟩
  exact this l (-1) h fun x hx => ⟨by have := h2 x hx; omega, (h2 x hx).2⟩
theorem Fix_out {N : Nat} (hN : 70 < N) (k0 : Bool × List Val × List (List Int) × Bool × List Val × List (List Int) → Option Stt) (s t : Stt) (o0 : Bool) :
    ∀ (n r : Nat) (vs : List Val) (ss : List (List Int)), r ≤ s.2.1.length → r ≤ s.2.2.length → r ≤ 6 → 6 < n + r → vs.length = r → ss.length = r → vs.all valR = true → ss.all (setR 70) = true → (∀ x ∈ ss, x.length ≤ 60) →
      ∃ vs' ss', vs'.length = ss'.length ∧ vs'.length ≤ 6 ∧ vs'.all valR = true ∧ ss'.all (setR 70) = true ∧ (∀ x ∈ ss', x.length ≤ 60) ∧
        avermentref13_Fix_l6 N k0 n 6 70 r s.1 s.2.1 s.2.2 t.1 t.2.1 t.2.2 o0 vs ss = k0 (t.1, t.2.1, t.2.2, o0, vs', ss') := by
  intro n
  induction n with
  | zero => intro r vs ss _ _ h1 h2; omega
  | succ n ih =>
    intro r vs ss h1 h2 h3 h4 h5 h6 h7 h8 h9
    unfold avermentref13_Fix_l6 avermentref13_Regs
    simp only [pCall_s, pLet_, pick_and, len_]
    have hm : mnI (s.2.1.length : Int) (s.2.2.length : Int) = ((min s.2.1.length s.2.2.length : Nat) : Int) := by
      unfold mnI
      by_cases h : (s.2.2.length : Int) < s.2.1.length
      · rw [decide_eq_true h]; show (s.2.2.length : Int) = _; omega
      · rw [decide_eq_false h]; show (s.2.1.length : Int) = _; omega
    rw [hm]
    by_cases hc : r < min s.2.1.length s.2.2.length ∧ r < 6
    · have e1 : ((r : Nat) : Int) < (min s.2.1.length s.2.2.length : Nat) := by omega
      have e2 : ((r : Nat) : Int) < 6 := by omega
      simp only [e1, e2, decide_true, Bool.and_self, pIf_t]
      have hr1 : r < s.2.1.length := by omega
      have hr2 : r < s.2.2.length := by omega
      obtain ⟨acc, ha1, ha2, he⟩ := Fix_in (N := N) (fun x2 => pIdx x2.2.2.2.2.1 x2.2.2.1 fun x3 =>
          pCall (avermentref12_Fix N x3) fun x4 =>
          pCk (room 48 (len (x2.2.2.2.2.2.2.2.2.2.2.1 ++ [x4]))) <|
          pCall (avermentref04_Rise N x2.2.2.2.2.2.2.2.2.2.2.2.2) fun x5 =>
          pCk (room 24 (len (x2.2.2.2.2.2.2.2.2.2.2.2.1 ++ [x5]))) <|
          avermentref13_Fix_l6 N k0 n x2.1 x2.2.1 (wr .i64 (x2.2.2.1 + 1)) x2.2.2.2.1 x2.2.2.2.2.1 x2.2.2.2.2.2.1 x2.2.2.2.2.2.2.1 x2.2.2.2.2.2.2.2.1 x2.2.2.2.2.2.2.2.2.1 x2.2.2.2.2.2.2.2.2.2.1 (x2.2.2.2.2.2.2.2.2.2.2.1 ++ [x4]) (x2.2.2.2.2.2.2.2.2.2.2.2.1 ++ [x5])) s t (o0, vs, ss) 6 r _ (List.getElem?_eq_getElem hr2) N 0 [] (by omega) (by omega) (by omega) rfl (by simp)
      refine Exists.imp (fun vs' => Exists.imp fun ss' => And.imp_right (And.imp_right (And.imp_right (And.imp_right (And.imp_right he.trans))))) ?_
      obtain ⟨v', hv1, hv2⟩ := ref12_Fix_ok N s.2.1[r]
      obtain ⟨out, ho1, ho2, ho3, ho4⟩ := Rise_ok (N := N) (l := acc) (by omega) (by omega)
      simp only []
      rw [pIdx_lt hr1, hv1, pCall_s, room_of (by simp; omega) (by simp; omega), pCk_t, ho4, pCall_s, room_of (by simp; omega) (by simp; omega), pCk_t, wr_succ hc.2 (by omega)]
      refine ih (r + 1) _ _ (by omega) (by omega) (by omega) (by omega) (by simp; omega) (by simp; omega) ?_ ?_ ?_
      · rw [List.all_append, h7]; simp only [List.all_cons, List.all_nil, hv2]; rfl
      · rw [List.all_append, h8]; simp only [List.all_cons, List.all_nil, setR_of (n := 70) (by omega) (by omega) ho2 fun x hx => ha2 x ((ho3 x).1 hx)]; rfl
      · intro x hx
        rcases List.mem_append.1 hx with hx | hx
        · exact h9 x hx
        · rw [List.mem_singleton] at hx; subst hx; omega
    · have : (decide (((r : Nat) : Int) < (min s.2.1.length s.2.2.length : Nat)) && decide (((r : Nat) : Int) < 6)) = false := by
        by_cases h : ((r : Nat) : Int) < (min s.2.1.length s.2.2.length : Nat)
        · simp [show ¬ ((r : Nat) : Int) < 6 by omega]
        · rw [decide_eq_false h]; rfl
      rw [this, pIf_f]
      exact ⟨vs, ss, by omega, by omega, h7, h8, h9, rfl⟩
theorem fix_ok {N : Nat} (hN : 70 < N) (s : Stt) : ∃ f : Stt, avermentlaw13_fix N s = some f ∧ f.2.1.length = f.2.2.length ∧ f.2.1.length ≤ 6 ∧ f.2.1.all valR = true ∧ f.2.2.all (setR 70) = true ∧ (∀ x ∈ f.2.2, x.length ≤ 60) ∧ (f.1 = false → f.2.1 = []) := by
  unfold avermentlaw13_fix avermentref13_Fix
  obtain ⟨re, vs, ss⟩ := s
  cases re with
  | false => exact ⟨(false, [], []), rfl, rfl, by simp, rfl, rfl, by simp, fun _ => rfl⟩
  | true =>
    obtain ⟨vs', ss', h1, h2, h3, h4, h5, h6⟩ := Fix_out hN (fun x0 => some (x0.2.2.2.1, x0.2.2.2.2.1, x0.2.2.2.2.2)) (true, vs, ss) (false, [], []) true N 0 [] [] (by simp) (by simp) (by omega) (by omega) rfl rfl rfl rfl (by simp)
    have h6' : avermentref13_Fix_l6 N (fun x0 => some (x0.2.2.2.1, x0.2.2.2.2.1, x0.2.2.2.2.2)) N 6 70 0 true vs ss false [] [] true [] [] = some (true, vs', ss') := h6
    refine ⟨(true, vs', ss'), ?_, h1, h2, h3, h4, h5, fun h => by cases h⟩
    simp only [Bool.not_true, pIf_f]
    rw [h6']; rfl
theorem StateRight_loop {N : Nat} (hN : 20 ≤ N) (k0 : Int × Int × Stt → Option Bool) (regs sites : Int) (s : Stt) (hs : s.2.2.length ≤ 40) (hk : (∀ x ∈ s.2.2, x.length ≤ 100) → k0 (regs, sites, s) = some true) :
    ∀ (n i : Nat), i ≤ s.2.2.length → s.2.2.length < n + i → (∀ j x, s.2.2[j]? = some x → j < i → x.length ≤ 100) → avermentlaw13_StateRight_l5 N k0 (fun x1 => some x1) n regs sites i s.1 s.2.1 s.2.2 = some true := by
  intro n
  induction n with
  | zero => intro i h1 h2; omega
  | succ n ih =>
    intro i h1 h2 h3
    unfold avermentlaw13_StateRight_l5
    by_cases hi : i < s.2.2.length
    · rw [len_, decide_eq_true (by omega), pIf_t, pIdx_lt hi]
      by_cases hx : (100 : Int) < s.2.2[i].length
      · rw [decide_eq_true hx, pIf_t]
        obtain ⟨M, rfl⟩ : ∃ M, N = M + 20 := ⟨N - 20, by omega⟩
        rw [told_ok]; rfl
      · rw [decide_eq_false hx, pIf_f, wr_succ hi (by omega)]
        refine ih (i + 1) (by omega) (by omega) fun j x hj hji => ?_
        by_cases hje : j = i
        · subst hje; rw [List.getElem?_eq_getElem hi, Option.some.injEq] at hj; subst hj; omega
        · exact h3 j x hj (by omega)
    · have : i = s.2.2.length := by omega
      subst this
      rw [len_, decide_eq_false (by omega), pIf_f]
      refine hk fun x hx => ?_
      obtain ⟨j, hj⟩ := List.getElem?_of_mem hx
      exact h3 j x hj (List.getElem?_eq_some_iff.1 hj).1
theorem StateRight_plain (s : Stt) (regs sites : Int) : ∃ N, avermentlaw13_StateRight N s regs sites = some true := by
  refine ⟨1000, ?_⟩
  unfold avermentlaw13_StateRight
  simp only [pLet_, pick_or, len_]
  by_cases h1 : (40 : Int) < s.2.1.length
  · rw [decide_eq_true h1]; rfl
  · by_cases h2 : (40 : Int) < s.2.2.length
    · rw [decide_eq_true h2, Bool.or_true]; rfl
    · simp only [h1, h2, decide_false, Bool.or_self, pIf_f]
      refine StateRight_loop (by omega) _ regs sites s (by omega) (fun hx => ?_) 1000 0 (by omega) (by omega) (fun j x hj hji => by omega)
      obtain ⟨f, hf1, hf2, hf3, hf4, hf5, hf6, hf7⟩ := fix_ok (N := 1000) (by omega) s
      have hl : SttLen s 1000 := ⟨by omega, by omega, fun x h => by have := hx x h; omega⟩
      have hb : SttLen s 4611686018427387904 := ⟨by omega, by omega, fun x h => by have := hx x h; omega⟩
      have hr : SttRoom s := ⟨by omega, by omega, fun x h => by have := hx x h; omega⟩
      have hlf : SttLen f 1000 := ⟨by omega, by omega, fun x h => by have := hf6 x h; omega⟩
      have hbf : SttLen f 4611686018427387904 := ⟨by omega, by omega, fun x h => by have := hf6 x h; omega⟩
      have hrf : SttRoom f := ⟨by omega, by omega, fun x h => by have := hf6 x h; omega⟩
      have hst : stR f (f.2.1.length : Int) 70 = true := by
        unfold stR
        rw [hf4, hf5]
        cases hre : f.1 with
        | true => simp [hf2]
        | false =>
          have := hf7 hre
          rw [this] at hf2 ⊢
          have : f.2.2 = [] := List.eq_nil_of_length_eq_zero hf2.symm
          rw [this]; rfl
      simp only [hf1, pCall_s, told_ok 980, pCallG_t, To_ok hl hr, state_Right_ok hl hb, ref13_Right_ok hl hb, To_ok hlf hrf, state_Right_ok hlf hbf, hst, pick_t, pLet_, beq_self_eq_true]
end Go.Y
set_option maxRecDepth 100000
namespace Go.Proofs.Ytglcpndffekmhaa
open Go.ChangeShapes Go.WideShapes Go.ChangeAt Go.RowKit Go.Y
theorem StateRight_own : ownKnob Try.prog.godebug = none := by kernel_rfl
theorem StateRight_laid : laidOutB Try.prog = true := by kernel_rfl
theorem StateRight_pure (x : (tupTy (avermentlaw13_StateRight_fun 0).ts).den) (h : Wf Try.prog.bytesOf (tupTy (avermentlaw13_StateRight_fun 0).ts) x) : ∃ N, (avermentlaw13_StateRight_con N).F x = some true := StateRight_plain x.1 x.2.1 x.2.2
theorem StateRight_lifted (os : Os) (started : os.Started) (H : Type) (enc : TypeId × Value → H) :
    ReturnsInHanded {} Try.checked os 3 .any (Rows.stateRightSpec.pre6 enc Try.prog Try.f3 Rows.stateRightRow.domain false) (Rows.stateRightSpec.post enc Try.prog Try.f3 false true false false) := by
  refine returnsInHanded_of_change_sized (C := Try.checked) StateRight_own started (by kernel_rfl) Try.func3
    (ChangeSpec.witness6 (enc := enc) (C := Try.checked) false ⟨#[], #[.agg #[.bool false, .slice none 0 0, .slice none 0 0], .int .i64 0, .int .i64 0], []⟩ 8 (by kernel_rfl) (by kernel_rfl) (by kernel_rfl) (by kernel_rfl)) ?_
  intro W base args ds gs before hval0 hW hcnd hsz0 _
  exact law_calls (P := Try.prog) (I := ids) (φ := phi Try.prog ids) (As := (avermentlaw13_StateRight_fun 0).ts) (F := fun N => (avermentlaw13_StateRight_con N).F) (ins := avermentlaw13_StateRight_sig.ins) StateRight_laid (by kernel_rfl) rfl (fun ds h => match ds, h with | [_, _, _], _ => rfl) ⟨4, by kernel_rfl, by kernel_rfl⟩ (by kernel_rfl) (fun N => avermentlaw13_StateRight_ok N) StateRight_pure hval0 hW hsz0
theorem StateRight_holds : Rows.StateRightSaid :=
  OpenClaim.holds_of_wide 3 Try.f3 rfl rfl rfl rfl rfl rfl rfl ⟨rfl, rfl, rfl, rfl, rfl⟩ rfl rfl rfl rfl rfl (by kernel_rfl) Try.func3 (by kernel_rfl)
    (of_decide_eq_true (by kernel_rfl)) (by unfold Func.isWrapper; first | (rw [if_pos (by decide +kernel)]; kernel_rfl) | (rw [if_neg (by decide +kernel)]; exact ⟨rfl, rfl⟩))
    (fun os started H enc _ => StateRight_lifted os started H enc)
#print axioms StateRight_holds
end Go.Proofs.Ytglcpndffekmhaa
