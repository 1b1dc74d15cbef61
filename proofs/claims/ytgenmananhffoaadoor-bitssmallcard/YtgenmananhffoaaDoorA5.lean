/- Of all three ways the count of bytes is told; none has fewer than the one that is laid. -/
import Derived.Test.YtgenmananhffoaaDoorA4
import Derived.Test.YtgenmananhffoaaDoorRows
import Derived.Test.YtgenmananhffoaaDoorCards
import Derived.Test.YtgenmananhffoaaDoorTie
import Derived.SevenTiedAt
import Derived.ChangeSame
import Derived.ChangeVars
import Derived.JoinedOf
import Derived.RowKit
import Derived.RowKitTokens
import Derived.LaidLaws
import Derived.LaidHandle
import Derived.Stop.Joined
set_option linter.unusedVariables false
set_option linter.unusedSimpArgs false
namespace Go.Y
open Go
theorem RunsOf.last : ∀ {q : List (Nat × Nat)} {s : List Nat} {f l : Nat}, RunsOf (q ++ [(f, l)]) s → 1 ≤ l ∧ s.getLast? = some (f + l - 1)
  | [], s, f, l, h => by
    obtain ⟨h1, rfl⟩ := h
    obtain ⟨m, rfl⟩ : ∃ m, l = m + 1 := ⟨l - 1, by omega⟩
    refine ⟨h1, ?_⟩
    rw [List.range'_concat, List.getLast?_append]
    simp
  | [(f0, l0)], s, f, l, h => by
    obtain ⟨h1, h2, r, rfl, h3⟩ := h
    obtain ⟨i1, i2⟩ := RunsOf.last (q := []) h3
    exact ⟨i1, by rw [List.getLast?_append, i2]; rfl⟩
  | (f0, l0) :: (f1, l1) :: q, s, f, l, h => by
    obtain ⟨h1, h2, r, rfl, h3⟩ := h
    obtain ⟨i1, i2⟩ := RunsOf.last (q := (f1, l1) :: q) h3
    exact ⟨i1, by rw [List.getLast?_append, i2]; rfl⟩
theorem Rise.next {n : Nat} : ∀ {s : List Nat} {lo i x y : Nat}, Rise n lo s → s[i]? = some x → s[i + 1]? = some y → x < y
  | [], lo, i, x, y, _, h, _ => by simp at h
  | a :: r, lo, 0, x, y, h, hx, hy => by
    simp only [List.getElem?_cons_zero, Option.some.injEq] at hx
    subst hx
    cases r with
    | nil => simp at hy
    | cons b r =>
      simp only [List.getElem?_cons_succ, List.getElem?_cons_zero, Option.some.injEq] at hy
      subst hy
      have := h.2.2.1
      omega
  | a :: r, lo, i + 1, x, y, h, hx, hy => Rise.next h.2.2 (by simpa using hx) (by simpa using hy)
theorem Rise.lt {n : Nat} : ∀ {s : List Nat} {lo i x : Nat}, Rise n lo s → s[i]? = some x → lo ≤ x ∧ x < n
  | [], lo, i, x, _, h => by simp at h
  | a :: r, lo, 0, x, h, hx => by
    simp only [List.getElem?_cons_zero, Option.some.injEq] at hx
    subst hx
    exact ⟨h.1, h.2.1⟩
  | a :: r, lo, i + 1, x, h, hx => by
    have := Rise.lt h.2.2 (by simpa using hx)
    have := h.1
    omega
theorem take_last {s : List Nat} {i x : Nat} (hi : s[i]? = some x) : (s.take (i + 1)).getLast? = some x := by
  have := getLt' hi
  rw [List.take_add_one, hi, List.getLast?_append]
  rfl
where getLt' {s : List Nat} {i x : Nat} (h : s[i]? = some x) : i < s.length := (List.getElem?_eq_some_iff.1 h).1
theorem pints_len (rs : List (Nat × Nat)) : (pints rs).length = rs.length := by simp [pints]
theorem pints_app (a b : List (Nat × Nat)) : pints (a ++ b) = pints a ++ pints b := by simp [pints]
theorem pints_get {rs : List (Nat × Nat)} {i : Nat} {p : Nat × Nat} (h : rs[i]? = some p) : (pints rs)[i]? = some ((p.1 : Int), (p.2 : Int)) := by simp [pints, h]
theorem snoc_cases {α : Type} (l : List α) : l = [] ∨ ∃ q x, l = q ++ [x] := by
  rcases List.eq_nil_or_concat l with h | ⟨q, x, h⟩
  · exact .inl h
  · exact .inr ⟨q, x, by simpa using h⟩
theorem split_loop (N : Nat) (n : Nat) (hn : n ≤ 4096) (s : List Nat) (hs : Rise n 0 s) : ∀ (m i fuel : Nat) (rs : List (Nat × Nat)), i + m = s.length → m < fuel → RunsOf rs (s.take i) → rs.length ≤ i →
    bits_split_l4 N (fun x0 => some x0) fuel (ints s) (len (ints s)) (i : Int) (pints rs) = some (pints (runsF s)) := by
  have hl := Rise.len hs (by omega)
  intro m
  induction m with
  | zero =>
    intro i fuel rs h hf hr hrl
    obtain ⟨fuel, rfl⟩ : ∃ f, fuel = f + 1 := ⟨fuel - 1, by omega⟩
    rw [List.take_of_length_le (by omega)] at hr
    rw [bits_split_l4, decide_eq_false (by rw [len_, ints_len]; omega), pIf_f, hr.eq]
  | succ m ih =>
    intro i fuel rs h hf hr hrl
    obtain ⟨fuel, rfl⟩ : ∃ f, fuel = f + 1 := ⟨fuel - 1, by omega⟩
    have hi : i < s.length := by omega
    have hx : s[i]? = some s[i] := List.getElem?_eq_getElem hi
    generalize s[i] = x at hx
    have hxn := hs.lt hx
    have htk : s.take (i + 1) = s.take i ++ [x] := by rw [List.take_add_one, hx]; rfl
    rw [bits_split_l4, decide_eq_true (by rw [len_, ints_len]; omega), pIf_t, pJoin_, pIdx_nat (ints_get hx)]
    simp only [len_, pints_len]
    rcases snoc_cases rs with rfl | ⟨q, ⟨f, l⟩, rfl⟩
    · have hi0 : i = 0 := by
        have h0 : s.take i = [] := hr
        have := congrArg List.length h0
        rw [List.length_take, List.length_nil] at this
        omega
      subst hi0
      rw [show wr .i64 (((([] : List (Nat × Nat)).length : Nat) : Int) - 1) = -1 from rfl, show decide ((0 : Int) ≤ -1) = false from rfl]
      simp only [Bool.not_false, Bool.true_or, pCk_t, pIdxG_f, pLet_, pick_f, pIf_f]
      rw [room_of (by simp [pints]) (by simp [pints]), pCk_t, wr_succ (m := 5000) (by omega) (by omega)]
      refine ih 1 fuel [(x, 1)] (by omega) (by omega) ?_ (by simp)
      rw [htk]
      exact ⟨by omega, by simp [List.range']⟩
    · have hql : (q ++ [(f, l)]).length = q.length + 1 := by simp
      rw [hql] at hrl
      obtain ⟨l1, hlast⟩ := hr.last
      obtain ⟨j, rfl⟩ : ∃ j, i = j + 1 := ⟨i - 1, by omega⟩
      have hy : s[j]? = some s[j] := List.getElem?_eq_getElem (by omega)
      have hyx := hs.next hy hx
      rw [take_last hy, Option.some.injEq] at hlast
      rw [hlast] at hyx
      have hg : (q ++ [(f, l)])[q.length]? = some (f, l) := by simp
      have hk : wr .i64 ((((q ++ [(f, l)]).length : Nat) : Int) - 1) = (q.length : Int) := by rw [hql, wr_i64 (by omega) (by omega)]; omega
      rw [hk, show decide ((0 : Int) ≤ (q.length : Int)) = true by exact decide_eq_true (by omega), hql, show decide ((q.length : Int) < ((q.length + 1 : Nat) : Int)) = true by exact decide_eq_true (by omega)]
      simp only [Bool.and_true, Bool.or_true, pCk_t, pIdxG_t, pLet_, pick_t]
      rw [pIdx_nat (pints_get hg), pIdx_nat (pints_get hg), wr_i64 (n := (f : Int) + (l : Int)) (by omega) (by omega)]
      by_cases he : x = f + l
      · rw [show decide ((f : Int) + (l : Int) = (x : Int)) = true by exact decide_eq_true (by omega), pIf_t, pIdx_nat (pints_get hg), pIdx_nat (pints_get hg), wr_i64 (n := (l : Int) + 1) (by omega) (by omega), wr_succ (m := 5000) (by omega) (by omega)]
        have hset : setI (pints (q ++ [(f, l)])) (q.length : Int) ((f : Int), (l : Int) + 1) = pints (q ++ [(f, l + 1)]) := by
          unfold setI
          rw [Int.toNat_natCast, pints_app, pints_app, List.set_append_right _ _ (by rw [pints_len]; exact Nat.le_refl _), pints_len, Nat.sub_self]
          simp [pints]
        rw [hset]
        exact ih (j + 1 + 1) fuel _ (by omega) (by omega) (by rw [htk]; exact (hr.snoc x).1 he) (by simp; omega)
      · rw [show decide ((f : Int) + (l : Int) = (x : Int)) = false by exact decide_eq_false (by omega), pIf_f, room_of (by simp [pints]; omega) (by simp [pints]; omega), pCk_t, wr_succ (m := 5000) (by omega) (by omega)]
        have hap : pints (q ++ [(f, l)]) ++ [((x : Int), 1)] = pints (q ++ [(f, l), (x, 1)]) := by simp [pints]
        rw [hap]
        exact ih (j + 1 + 1) fuel _ (by omega) (by omega) (by rw [htk]; exact (hr.snoc x).2 (by omega)) (by simp; omega)
theorem split_eq (N : Nat) (hN : 5000 < N) (n : Nat) (hn : n ≤ 4096) (s : List Nat) (hs : Rise n 0 s) : bits_split N (ints s) = some (pints (runsF s)) := by
  have hl := Rise.len hs (by omega)
  unfold bits_split
  exact split_loop N n hn s hs s.length 0 N [] (by omega) (by omega) rfl (by simp)
def RR (n : Nat) : Nat → List (Nat × Nat) → Prop
  | _, [] => True
  | next, (f, l) :: q => next ≤ f ∧ 1 ≤ l ∧ f + l ≤ n ∧ RR n (f + l + 1) q
theorem runsF_rr : ∀ {n lo : Nat} {s : List Nat}, Rise n lo s → RR n lo (runsF s) ∧ (runsF s).length ≤ s.length
  | n, lo, [], _ => ⟨trivial, Nat.le_refl _⟩
  | n, lo, x :: r, h => by
    obtain ⟨ih, ihl⟩ := runsF_rr h.2.2
    show RR n lo (match runsF r with | [] => [(x, 1)] | (f, l) :: q => if f = x + 1 then (x, l + 1) :: q else (x, 1) :: (f, l) :: q) ∧ (match runsF r with | [] => [(x, 1)] | (f, l) :: q => if f = x + 1 then (x, l + 1) :: q else (x, 1) :: (f, l) :: q).length ≤ _
    cases hq : runsF r with
    | nil => exact ⟨⟨h.1, by omega, by have := h.2.1; omega, trivial⟩, by simp⟩
    | cons p q =>
      obtain ⟨f, l⟩ := p
      rw [hq] at ih ihl
      obtain ⟨i1, i2, i3, i4⟩ := ih
      simp only [List.length_cons] at ihl
      by_cases he : f = x + 1
      · simp only [if_pos he]
        refine ⟨⟨h.1, by omega, by omega, ?_⟩, by simp only [List.length_cons]; omega⟩
        rw [show x + (l + 1) + 1 = f + l + 1 by omega]; exact i4
      · simp only [if_neg he]
        exact ⟨⟨h.1, by omega, by have := h.2.1; omega, by omega, i2, i3, i4⟩, by simp only [List.length_cons]; omega⟩
theorem runsB_len : ∀ {n next : Nat} {q : List (Nat × Nat)}, n ≤ 4096 → RR n next q → (runsB next q).length ≤ 4 * q.length
  | n, next, [], _, _ => by simp [runsB]
  | n, next, (f, l) :: q, hn, h => by
    have h1 := runsB_len hn h.2.2.2
    have h2 := venc_len2 (n := f - next) (by have := h.2.2.1; omega)
    have h3 := venc_len2 (n := l - 1) (by have := h.2.2.1; omega)
    simp only [runsB, List.length_append, List.length_cons]; omega
theorem runs_loop (N : Nat) (hN : 100 < N) (n : Nat) (hn : n ≤ 4096) (rs : List (Nat × Nat)) (hrs : rs.length ≤ 4096) (k0 : List Int → Option (List Int)) : ∀ (q : List (Nat × Nat)) (i next fuel : Nat) (w : List Nat), rs.drop i = q → RR n next q → i + q.length = rs.length → q.length < fuel → w.length ≤ 20 + 4 * i →
    bits_runs_l8 N k0 fuel (next : Int) (pints rs) (len (pints rs)) (i : Int) (ints w) = k0 (ints (w ++ runsB next q)) := by
  intro q
  induction q with
  | nil =>
    intro i next fuel w hd hr hi hf hw
    obtain ⟨fuel, rfl⟩ : ∃ f, fuel = f + 1 := ⟨fuel - 1, by omega⟩
    simp only [List.length_nil] at hi
    rw [bits_runs_l8, decide_eq_false (by rw [len_, pints_len]; omega), pIf_f]
    simp [runsB]
  | cons p q ih =>
    obtain ⟨f, l⟩ := p
    intro i next fuel w hd hr hi hf hw
    obtain ⟨fuel, rfl⟩ : ∃ f, fuel = f + 1 := ⟨fuel - 1, by omega⟩
    simp only [List.length_cons] at hi hf
    have hil : i < rs.length := by omega
    have hp : rs[i]? = some (f, l) := by
      have := congrArg List.head? hd
      rw [List.head?_drop] at this
      exact this
    have hd2 : rs.drop (i + 1) = q := by rw [← List.tail_drop, hd]; rfl
    obtain ⟨h1, h2, h3, h4⟩ := hr
    have v1 := venc_len2 (n := f - next) (by omega)
    have v2 := venc_len2 (n := l - 1) (by omega)
    rw [bits_runs_l8, decide_eq_true (by rw [len_, pints_len]; omega), pIf_t, pIdx_nat (pints_get hp)]
    simp only
    rw [wr_i64 (n := (f : Int) - (next : Int)) (by omega) (by omega), wr_u64 (n := (f : Int) - (next : Int)) (by omega) (by omega), show (f : Int) - (next : Int) = ((f - next : Nat) : Int) by omega, wUint N hN _ (by omega) w (by omega), pCall_s,
      wr_i64 (n := (l : Int) - 1) (by omega) (by omega), wr_u64 (n := (l : Int) - 1) (by omega) (by omega), show (l : Int) - 1 = ((l - 1 : Nat) : Int) by omega, wUint N hN _ (by omega) _ (by simp only [List.length_append]; omega), pCall_s,
      wr_i64 (n := (f : Int) + (l : Int)) (by omega) (by omega), wr_i64 (n := (f : Int) + (l : Int) + 1) (by omega) (by omega), show (f : Int) + (l : Int) + 1 = ((f + l + 1 : Nat) : Int) by omega, wr_succ (m := 5000) (by omega) (by omega),
      ih (i + 1) (f + l + 1) fuel _ hd2 h4 (by omega) (by omega) (by simp only [List.length_append]; omega), List.append_assoc, List.append_assoc]
    rfl
theorem runs_eq (N : Nat) (hN : 5000 < N) (n : Nat) (hn : n ≤ 4096) (s : List Nat) (hs : Rise n 0 s) : bits_runs N (ints s) = some (ints (runsW s)) := by
  have hl := Rise.len hs (by omega)
  obtain ⟨hrr, hrl⟩ := runsF_rr hs
  have hb := runsB_len hn hrr
  have hv := venc_len2 (n := (runsF s).length) (by omega)
  unfold bits_runs
  rw [split_eq N hN n hn s hs, pCall_s, show wire_New N = some (ints []) from rfl, pCall_s, show (2 : Int) = ((2 : Nat) : Int) from rfl, byte_eq N 2 [] (by simp), pCall_s, len_, pints_len, wr_u64 (by omega) (by omega), wUint N (by omega) _ (by omega) _ (by simp), pCall_s]
  have := runs_loop N (by omega) n hn (runsF s) (by omega) (fun x4 => pCall (p_wire_Writer_Bytes N x4) fun x5 => some x5.1) (runsF s) 0 0 N ([] ++ [2] ++ venc (runsF s).length) rfl hrr (by simp) (by omega) (by simp; omega)
  rw [len_, pints_len] at this
  have h0 : bits_runs_l8 N (fun x4 => pCall (p_wire_Writer_Bytes N x4) fun x5 => some x5.1) N 0 (pints (runsF s)) ((runsF s).length : Int) 0 (ints ([] ++ [2] ++ venc (runsF s).length)) = _ := this
  rw [h0, bytesB N _ (by simp; omega), pCall_s]
  simp [runsW]
end Go.Y
namespace Go.Y
open Go
def nxt : Nat → List (Nat × Nat) → Nat
  | next, [] => next
  | _, (f, l) :: q => nxt (f + l + 1) q
theorem nxt_snoc : ∀ (next : Nat) (q : List (Nat × Nat)) (f l : Nat), nxt next (q ++ [(f, l)]) = f + l + 1
  | next, [], f, l => rfl
  | next, (f0, l0) :: q, f, l => nxt_snoc (f0 + l0 + 1) q f l
theorem runsB_snoc : ∀ (next : Nat) (q : List (Nat × Nat)) (f l : Nat), runsB next (q ++ [(f, l)]) = runsB next q ++ (venc (f - nxt next q) ++ venc (l - 1))
  | next, [], f, l => by simp [runsB, nxt]
  | next, (f0, l0) :: q, f, l => by
    simp only [List.cons_append, runsB, nxt, runsB_snoc (f0 + l0 + 1) q f l, List.append_assoc]
theorem rruns_in (N : Nat) (s : List Nat) (hl : s.length ≤ 4096) (hv : ∀ (j x : Nat), s[j]? = some x → x < 4096) (k0 : (List Int) × Int × Int × Int × Int × List Int → Option (List Int)) (runs end_ : Int) (l3 : List Int) (i f : Nat) : ∀ (m k fuel : Nat), k + m = s.length → m < fuel → i < k →
    (∀ j, i ≤ j → j < k → s[j]? = some (f + (j - i))) →
    ∃ k', k ≤ k' ∧ k' ≤ s.length ∧ (∀ j, i ≤ j → j < k' → s[j]? = some (f + (j - i))) ∧ s[k']? ≠ some (f + (k' - i)) ∧ avermentref03_Runs_l7 N k0 fuel (ints s) runs end_ (i : Int) (k : Int) l3 = k0 (ints s, runs, end_, (i : Int), (k' : Int), l3) := by
  intro m
  induction m with
  | zero =>
    intro k fuel h hf hik hall
    obtain ⟨fuel, rfl⟩ : ∃ f, fuel = f + 1 := ⟨fuel - 1, by omega⟩
    refine ⟨k, Nat.le_refl _, by omega, hall, by rw [List.getElem?_eq_none (by omega)]; simp, ?_⟩
    rw [avermentref03_Runs_l7, show decide ((k : Int) < len (ints s)) = false by rw [len_, ints_len]; exact decide_eq_false (by omega), pIdxG_f, pIdxG_f, pLet_, pick_f, pIf_f]
  | succ m ih =>
    intro k fuel h hf hik hall
    obtain ⟨fuel, rfl⟩ : ∃ f, fuel = f + 1 := ⟨fuel - 1, by omega⟩
    have hk : k < s.length := by omega
    obtain ⟨x, hx⟩ : ∃ x, s[k]? = some x := ⟨s[k], List.getElem?_eq_getElem hk⟩
    have hp := hall (k - 1) (by omega) (by omega)
    have hxv := hv _ _ hx
    have hpv := hv _ _ hp
    rw [avermentref03_Runs_l7, show decide ((k : Int) < len (ints s)) = true by rw [len_, ints_len]; exact decide_eq_true (by omega), pIdxG_t, pIdx_nat (ints_get hx), pIdxG_t, wr_i64 (n := (k : Int) - 1) (by omega) (by omega), show (k : Int) - 1 = ((k - 1 : Nat) : Int) by omega, pIdx_nat (ints_get hp), pLet_, pick_t,
      wr_i64 (n := ((f + (k - 1 - i) : Nat) : Int) + 1) (by omega) (by omega)]
    by_cases he : x = f + (k - i)
    · rw [decide_eq_true (show (x : Int) = ((f + (k - 1 - i) : Nat) : Int) + 1 by omega), pIf_t, wr_succ (m := 5000) (by omega) (by omega)]
      obtain ⟨k', h1, h2, h3, h4, h5⟩ := ih (k + 1) fuel (by omega) (by omega) (by omega) fun j h1 h2 => by
        by_cases hj : j < k
        · exact hall j h1 hj
        · obtain rfl : j = k := by omega
          rw [hx, he]
      exact ⟨k', by omega, h2, h3, h4, h5⟩
    · rw [decide_eq_false (show ¬ (x : Int) = ((f + (k - 1 - i) : Nat) : Int) + 1 by omega), pIf_f]
      exact ⟨k, Nat.le_refl _, by omega, hall, by rw [hx]; simp; omega, rfl⟩
theorem take_run_eq {s : List Nat} {i k f : Nat} (hik : i ≤ k) (hk : k ≤ s.length) (h : ∀ j, i ≤ j → j < k → s[j]? = some (f + (j - i))) : s.take k = s.take i ++ List.range' f (k - i) := by
  refine List.ext_getElem? fun j => ?_
  rw [List.getElem?_append, List.length_take, show min i s.length = i by omega]
  by_cases hj : j < k
  · rw [List.getElem?_take, if_pos hj]
    by_cases hji : j < i
    · rw [if_pos hji, List.getElem?_take, if_pos hji]
    · rw [if_neg hji, h j (by omega) hj, List.getElem?_range' (by omega)]
      simp
  · rw [List.getElem?_take, if_neg hj, if_neg (by omega), List.getElem?_eq_none (by simp; omega)]
theorem rruns_loop (N : Nat) (hN : 5000 < N) (n : Nat) (hn : n ≤ 4096) (s : List Nat) (hs : Rise n 0 s) (kk : Int × List Int → Option (List Int)) : ∀ (m i fuel : Nat) (rs : List (Nat × Nat)) (e : Int), s.length - i ≤ m → i ≤ s.length → m < fuel → RunsOf rs (s.take i) → rs.length ≤ i → (rs ≠ [] → e + 2 = (nxt 0 rs : Int)) →
    (∀ x, s[i]? = some x → nxt 0 rs ≤ x) → (runsB 0 rs).length ≤ 4 * rs.length →
    avermentref03_Runs_l5 N kk fuel (ints s) (rs.length : Int) e (i : Int) (ints (runsB 0 rs)) = kk (((runsF s).length : Int), ints (runsB 0 (runsF s))) := by
  have hl := Rise.len hs (by omega)
  intro m
  induction m with
  | zero =>
    intro i fuel rs e h hi hf hr hrl he hx hb
    obtain ⟨fuel, rfl⟩ : ∃ f, fuel = f + 1 := ⟨fuel - 1, by omega⟩
    rw [List.take_of_length_le (by omega)] at hr
    rw [avermentref03_Runs_l5, decide_eq_false (by rw [len_, ints_len]; omega), pIf_f, ← hr.eq]
  | succ m ih =>
    intro i fuel rs e h hi hf hr hrl he hx hb
    obtain ⟨fuel, rfl⟩ : ∃ f, fuel = f + 1 := ⟨fuel - 1, by omega⟩
    by_cases hil : i < s.length
    case neg =>
      rw [List.take_of_length_le (by omega)] at hr
      rw [avermentref03_Runs_l5, decide_eq_false (by rw [len_, ints_len]; omega), pIf_f, ← hr.eq]
    obtain ⟨x, hsx⟩ : ∃ x, s[i]? = some x := ⟨s[i], List.getElem?_eq_getElem hil⟩
    have hxn := hs.lt hsx
    have hxx := hx x hsx
    rw [avermentref03_Runs_l5, decide_eq_true (by rw [len_, ints_len]; omega), pIf_t, wr_succ (m := 5000) (by omega) (by omega)]
    obtain ⟨k, g1, g2, g3, g4, g5⟩ := rruns_in N s (by omega) (fun j x h => by have := hs.lt h; omega) (fun x0 => pIdx x0.1 x0.2.2.2.1 fun x1 =>
          pJoin (fun (x2 : (List Int) × Int × Int × Int × Int × List Int) =>
            pCall (avermentref02_Uint N (wr .u64 x2.2.2.2.2.1)) fun x3 =>
            pCk (room 1 (len (x2.2.2.2.2.2 ++ x3))) <|
            pCall (avermentref02_Uint N (wr .u64 (wr .i64 ((wr .i64 (x2.2.2.2.1 - x2.2.2.1)) - 1)))) fun x4 =>
            pCk (room 1 (len ((x2.2.2.2.2.2 ++ x3) ++ x4))) <|
            pIdx x2.1 (wr .i64 (x2.2.2.2.1 - 1)) fun x5 =>
            avermentref03_Runs_l5 N kk fuel x2.1 (wr .i64 (x2.2.1 + 1)) x5 x2.2.2.2.1 ((x2.2.2.2.2.2 ++ x3) ++ x4)) fun J2 =>
          pIf (decide (0 < x0.2.1))
            (pIdx x0.1 x0.2.2.2.1 fun x3 =>
            J2 (x0.1, x0.2.1, x0.2.2.2.1, x0.2.2.2.2.1, (wr .i64 ((wr .i64 (x3 - x0.2.2.1)) - 2)), x0.2.2.2.2.2))
            (J2 (x0.1, x0.2.1, x0.2.2.2.1, x0.2.2.2.2.1, x1, x0.2.2.2.2.2))) (rs.length : Int) e (ints (runsB 0 rs)) i x (s.length - (i + 1)) (i + 1) N (by omega) (by omega) (by omega) (fun j h1 h2 => by
        obtain rfl : j = i := by omega
        rw [hsx]; simp)
    rw [g5, pIdx_nat (ints_get hsx), pJoin_]
    clear g5
    have v1 := venc_len2 (n := x - nxt 0 rs) (by omega)
    have v2 := venc_len2 (n := k - i - 1) (by omega)
    have hlast := g3 (k - 1) (by omega) (by omega)
    have hln := hs.lt hlast
    have htk := take_run_eq (by omega) g2 g3
    have hgo : ∀ y : Int, y = ((x - nxt 0 rs : Nat) : Int) → (pCall (avermentref02_Uint N (wr .u64 y)) fun x3 =>
            pCk (room 1 (len (ints (runsB 0 rs) ++ x3))) <|
            pCall (avermentref02_Uint N (wr .u64 (wr .i64 ((wr .i64 ((k : Int) - (i : Int))) - 1)))) fun x4 =>
            pCk (room 1 (len ((ints (runsB 0 rs) ++ x3) ++ x4))) <|
            pIdx (ints s) (wr .i64 ((k : Int) - 1)) fun x5 =>
            avermentref03_Runs_l5 N kk fuel (ints s) (wr .i64 ((rs.length : Int) + 1)) x5 (k : Int) ((ints (runsB 0 rs) ++ x3) ++ x4)) = kk (((runsF s).length : Int), ints (runsB 0 (runsF s))) := by
      intro y hy
      subst hy
      rw [wr_u64 (by omega) (by omega), rUint N (by omega) _ (by omega), pCall_s, room_of (by simp [ints_len]; omega) (by simp [ints_len]; omega), pCk_t, wr_i64 (n := (k : Int) - (i : Int)) (by omega) (by omega), wr_i64 (n := (k : Int) - (i : Int) - 1) (by omega) (by omega), wr_u64 (n := (k : Int) - (i : Int) - 1) (by omega) (by omega),
        show (k : Int) - (i : Int) - 1 = ((k - i - 1 : Nat) : Int) by omega, rUint N (by omega) _ (by omega), pCall_s, room_of (by simp [ints_len]; omega) (by simp [ints_len]; omega), pCk_t, wr_i64 (n := (k : Int) - 1) (by omega) (by omega), show (k : Int) - 1 = ((k - 1 : Nat) : Int) by omega, pIdx_nat (ints_get hlast),
        wr_i64 (n := (rs.length : Int) + 1) (by omega) (by omega), ← ints_app, ← ints_app]
      have hbn : runsB 0 rs ++ venc (x - nxt 0 rs) ++ venc (k - i - 1) = runsB 0 (rs ++ [(x, k - i)]) := by rw [runsB_snoc, List.append_assoc]
      rw [hbn, show (rs.length : Int) + 1 = ((rs ++ [(x, k - i)]).length : Int) by simp]
      refine ih k fuel (rs ++ [(x, k - i)]) _ (by omega) g2 (by omega) ?_ (by simp; omega) (fun _ => by rw [nxt_snoc]; omega) (fun z hz => ?_) (by rw [← hbn]; simp only [List.length_append, List.length_cons, List.length_nil]; omega)
      · rw [htk]
        rcases snoc_cases rs with rfl | ⟨q, ⟨f, l⟩, rfl⟩
        · have h0 : s.take i = [] := hr
          rw [h0]
          exact ⟨by omega, rfl⟩
        · rw [nxt_snoc] at hxx
          rw [List.append_assoc]
          exact hr.snocRun x (k - i) (by omega) (by omega)
      · rw [nxt_snoc]
        have h1 := hs.next hlast (by rw [show k - 1 + 1 = k by omega]; exact hz)
        have : z ≠ x + (k - i) := fun h => g4 (by rw [hz, h])
        omega
    rcases snoc_cases rs with rfl | ⟨q, ⟨f, l⟩, rfl⟩
    · simp only
      rw [show decide ((0 : Int) < ((([] : List (Nat × Nat)).length : Nat) : Int)) = false from rfl, pIf_f]
      exact hgo _ (by simp [nxt])
    · simp only
      rw [show decide ((0 : Int) < (((q ++ [(f, l)]).length : Nat) : Int)) = true by exact decide_eq_true (by simp), pIf_t, pIdx_nat (ints_get hsx)]
      have he2 := he (by simp)
      rw [wr_i64 (n := (x : Int) - e) (by omega) (by omega), wr_i64 (by omega) (by omega)]
      have hz : (x : Int) - e - 2 = ((x - nxt 0 (q ++ [(f, l)]) : Nat) : Int) := by omega
      exact hgo _ hz
theorem rruns_eq (N : Nat) (hN : 5000 < N) (n : Nat) (hn : n ≤ 4096) (s : List Nat) (hs : Rise n 0 s) : avermentref03_Runs N (ints s) = some (ints (runsW s)) := by
  have hl := Rise.len hs (by omega)
  obtain ⟨hrr, hrl⟩ := runsF_rr hs
  have hb := runsB_len hn hrr
  have hv := venc_len2 (n := (runsF s).length) (by omega)
  unfold avermentref03_Runs
  have := rruns_loop N hN n hn s hs (fun x0 => pCall (avermentref02_Uint N (wr .u64 x0.1)) fun x1 =>
      pCk (room 1 (len ([2] ++ x1))) <|
      pCk (room 1 (len (([2] ++ x1) ++ x0.2))) <|
      some (([2] ++ x1) ++ x0.2)) s.length 0 N [] 0 (by omega) (by omega) (by omega) rfl (by simp) (fun h => absurd rfl h) (fun x _ => by simp [nxt]) (by simp [runsB])
  have h0 : avermentref03_Runs_l5 N (fun x0 => pCall (avermentref02_Uint N (wr .u64 x0.1)) fun x1 =>
      pCk (room 1 (len ([2] ++ x1))) <|
      pCk (room 1 (len (([2] ++ x1) ++ x0.2))) <|
      some (([2] ++ x1) ++ x0.2)) N (ints s) 0 0 0 [] = _ := this
  rw [h0]
  simp only
  rw [wr_u64 (by omega) (by omega), rUint N (by omega) _ (by omega), pCall_s, show [(2 : Int)] = ints [2] from rfl, ← ints_app, ← ints_app, room_of (by simp [ints_len]; omega) (by simp [ints_len]; omega), pCk_t, room_of (by simp [ints_len]; omega) (by simp [ints_len]; omega), pCk_t]
  simp [runsW]
end Go.Y
namespace Go.Y
open Go
def plS (b : List Nat) (x : Nat) : List Nat := b.set (1 + x / 8) (b.getD (1 + x / 8) 0 ||| 2 ^ (x % 8))
def plF (b : List Nat) (s : List Nat) : List Nat := s.foldl plS b
def plainW (n : Nat) (s : List Nat) : List Nat := plF (List.replicate (1 + (n + 7) / 8) 0) s
theorem plS_len (b : List Nat) (x : Nat) : (plS b x).length = b.length := by simp [plS]
theorem plF_len (s : List Nat) : ∀ b : List Nat, (plF b s).length = b.length := by
  induction s with
  | nil => intro b; rfl
  | cons x r ih => intro b; exact (ih (plS b x)).trans (plS_len b x)
theorem pow8 {k : Nat} (h : k < 8) : 2 ^ k < 256 := Nat.pow_lt_pow_right (m := k) (n := 8) (by omega) h
theorem plS_byte {b : List Nat} (h : ∀ c ∈ b, c < 256) (x : Nat) : ∀ c ∈ plS b x, c < 256 := by
  intro c hc
  unfold plS at hc
  rcases List.mem_or_eq_of_mem_set hc with h1 | h1
  · exact h c h1
  · subst h1
    refine Nat.or_lt_two_pow (n := 8) ?_ (pow8 (Nat.mod_lt _ (by omega)))
    rw [List.getD_eq_getElem?_getD]
    cases hg : b[1 + x / 8]? with
    | none => simp
    | some c => simp only [Option.getD_some]; exact h c (List.mem_of_getElem? hg)
theorem plF_byte (s : List Nat) : ∀ b : List Nat, (∀ c ∈ b, c < 256) → ∀ c ∈ plF b s, c < 256 := by
  induction s with
  | nil => intro b h; exact h
  | cons x r ih => intro b h; exact ih (plS b x) (plS_byte h x)
theorem shl_u8 {k : Nat} (h : k < 8) : shlI .u8 1 (k : Int) = ((2 ^ k : Nat) : Int) := by
  have : ∀ k : Fin 8, shlI .u8 1 (k.val : Int) = ((2 ^ k.val : Nat) : Int) := by decide +kernel
  exact this ⟨k, h⟩
theorem quo8 {x : Nat} (h : x ≤ 100000) : quoI .i64 (x : Int) 8 = ((x / 8 : Nat) : Int) := by
  show wr .i64 (Int.tdiv (x : Int) 8) = _
  rw [Int.tdiv_eq_ediv_of_nonneg (by omega), wr_i64 (by omega) (by omega)]
  omega
theorem rem8 (x : Nat) : remI (x : Int) 8 = ((x % 8 : Nat) : Int) := by
  unfold remI
  rw [Int.tmod_eq_emod_of_nonneg (by omega)]
  omega
theorem pl_set {b : List Nat} {x c : Nat} (hb : ∀ c ∈ b, c < 256) (hc : b[1 + x / 8]? = some c) : setI (ints b) ((1 + x / 8 : Nat) : Int) (bor .u8 (c : Int) (shlI .u8 1 ((x % 8 : Nat) : Int))) = ints (plS b x) := by
  have hm : x % 8 < 8 := Nat.mod_lt _ (by omega)
  rw [shl_u8 hm, bor_u8 (hb c (List.mem_of_getElem? hc)) (pow8 hm)]
  unfold setI plS ints
  rw [Int.toNat_natCast, List.getD_eq_getElem?_getD, hc, Option.getD_some, List.map_set]
theorem plain_loop (N : Nat) (n : Nat) (hn : n ≤ 4096) (s : List Nat) (hs : s.length ≤ 4096) : ∀ (r : List Nat) (i fuel : Nat) (b : List Nat), s.drop i = r → (∀ x ∈ r, x < n) → i + r.length = s.length → r.length < fuel → b.length = 1 + (n + 7) / 8 → (∀ c ∈ b, c < 256) →
    bits_plain_l4 N (fun x0 => some x0) fuel (ints s) (len (ints s)) (i : Int) (ints b) = some (ints (plF b r)) := by
  intro r
  induction r with
  | nil =>
    intro i fuel b hd hr hi hf hbl hb
    obtain ⟨fuel, rfl⟩ : ∃ f, fuel = f + 1 := ⟨fuel - 1, by omega⟩
    simp only [List.length_nil] at hi
    rw [bits_plain_l4, decide_eq_false (by rw [len_, ints_len]; omega), pIf_f]
    rfl
  | cons x r ih =>
    intro i fuel b hd hr hi hf hbl hb
    obtain ⟨fuel, rfl⟩ : ∃ f, fuel = f + 1 := ⟨fuel - 1, by omega⟩
    simp only [List.length_cons] at hi hf
    obtain ⟨hx, hd2, hil⟩ := hd_of hd
    have hxn := hr x (by simp)
    have hj : 1 + x / 8 < b.length := by omega
    obtain ⟨c, hc⟩ : ∃ c, b[1 + x / 8]? = some c := ⟨_, List.getElem?_eq_getElem hj⟩
    have e1 : wr .i64 (1 + quoI .i64 (x : Int) 8) = ((1 + x / 8 : Nat) : Int) := by rw [quo8 (by omega), wr_i64 (by omega) (by omega)]; omega
    rw [bits_plain_l4, decide_eq_true (by rw [len_, ints_len]; omega), pIf_t, pIdx_nat (ints_get hx)]
    simp only [e1, rem8, len_, ints_len]
    rw [show (decide (0 ≤ ((1 + x / 8 : Nat) : Int)) && decide (((1 + x / 8 : Nat) : Int) < (b.length : Int))) = true by simp only [Bool.and_eq_true, decide_eq_true_eq]; omega, pCk_t, pIdx_nat (ints_get hc), show decide (0 ≤ ((x % 8 : Nat) : Int)) = true by exact decide_eq_true (by omega), pCk_t, pCk_t, pIdx_nat (ints_get hc), pl_set hb hc, wr_succ (m := 5000) (by omega) (by omega)]
    have := ih (i + 1) fuel (plS b x) hd2 (fun y hy => hr y (List.mem_cons_of_mem _ hy)) (by omega) (by omega) (by rw [plS_len]; exact hbl) (plS_byte hb x)
    rw [len_, ints_len] at this
    exact this
theorem rplain_loop (N : Nat) (n : Nat) (hn : n ≤ 4096) (s : List Nat) (hs : s.length ≤ 4096) : ∀ (r : List Nat) (i fuel : Nat) (b : List Nat), s.drop i = r → (∀ x ∈ r, x < n) → i + r.length = s.length → r.length < fuel → b.length = 1 + (n + 7) / 8 → (∀ c ∈ b, c < 256) →
    avermentref03_Plain_l4 N (fun x0 => some x0) fuel (ints s) (i : Int) (ints b) = some (ints (plF b r)) := by
  intro r
  induction r with
  | nil =>
    intro i fuel b hd hr hi hf hbl hb
    obtain ⟨fuel, rfl⟩ : ∃ f, fuel = f + 1 := ⟨fuel - 1, by omega⟩
    simp only [List.length_nil] at hi
    rw [avermentref03_Plain_l4, decide_eq_false (by rw [len_, ints_len]; omega), pIf_f]
    rfl
  | cons x r ih =>
    intro i fuel b hd hr hi hf hbl hb
    obtain ⟨fuel, rfl⟩ : ∃ f, fuel = f + 1 := ⟨fuel - 1, by omega⟩
    simp only [List.length_cons] at hi hf
    obtain ⟨hx, hd2, hil⟩ := hd_of hd
    have hxn := hr x (by simp)
    have hj : 1 + x / 8 < b.length := by omega
    obtain ⟨c, hc⟩ : ∃ c, b[1 + x / 8]? = some c := ⟨_, List.getElem?_eq_getElem hj⟩
    have e1 : wr .i64 (1 + quoI .i64 (x : Int) 8) = ((1 + x / 8 : Nat) : Int) := by rw [quo8 (by omega), wr_i64 (by omega) (by omega)]; omega
    rw [avermentref03_Plain_l4, decide_eq_true (by rw [len_, ints_len]; omega), pIf_t, pIdx_nat (ints_get hx), pIdx_nat (ints_get hx)]
    simp only [e1, rem8, len_, ints_len]
    rw [show (decide (0 ≤ ((1 + x / 8 : Nat) : Int)) && decide (((1 + x / 8 : Nat) : Int) < (b.length : Int))) = true by simp only [Bool.and_eq_true, decide_eq_true_eq]; omega, pCk_t, pIdx_nat (ints_get hc), pIdx_nat (ints_get hx)]
    simp only [rem8]
    rw [show decide (0 ≤ ((x % 8 : Nat) : Int)) = true by exact decide_eq_true (by omega), pCk_t, pCk_t, pIdx_nat (ints_get hc), pl_set hb hc, wr_succ (m := 5000) (by omega) (by omega)]
    exact ih (i + 1) fuel (plS b x) hd2 (fun y hy => hr y (List.mem_cons_of_mem _ hy)) (by omega) (by omega) (by rw [plS_len]; exact hbl) (plS_byte hb x)
theorem Rise.mem {n : Nat} : ∀ {s : List Nat} {lo : Nat}, Rise n lo s → ∀ x ∈ s, lo ≤ x ∧ x < n
  | [], lo, _, x, h => by simp at h
  | a :: r, lo, h, x, hx => by
    rcases List.mem_cons.1 hx with rfl | hx
    · exact ⟨h.1, h.2.1⟩
    · have := Rise.mem h.2.2 x hx
      have := h.1
      omega
theorem rep0_ints (k : Nat) : rep (k : Int) (0 : Int) = ints (List.replicate k 0) := by simp [rep, ints]
theorem plain_eq (N : Nat) (hN : 5000 < N) (n : Nat) (hn : n ≤ 4096) (s : List Nat) (hs : Rise n 0 s) : bits_plain N (n : Int) (ints s) = some (ints (plainW n s)) ∧ avermentref03_Plain N (n : Int) (ints s) = some (ints (plainW n s)) := by
  have hl := Rise.len hs (by omega)
  have e1 : wr .i64 (wr .i64 ((n : Int) + 8) - 1) = ((n + 7 : Nat) : Int) := by rw [wr_i64 (n := (n : Int) + 8) (by omega) (by omega), wr_i64 (by omega) (by omega)]; omega
  have e1' : wr .i64 ((n : Int) + 7) = ((n + 7 : Nat) : Int) := by rw [wr_i64 (by omega) (by omega)]; omega
  have e2 : wr .i64 (1 + quoI .i64 ((n + 7 : Nat) : Int) 8) = ((1 + (n + 7) / 8 : Nat) : Int) := by rw [quo8 (by omega), wr_i64 (by omega) (by omega)]; omega
  have h0 : (List.replicate (1 + (n + 7) / 8) 0).length = 1 + (n + 7) / 8 := by simp
  have h1 : ∀ c ∈ List.replicate (1 + (n + 7) / 8) 0, c < 256 := fun c hc => by rw [(List.mem_replicate.1 hc).2]; omega
  have hck : (decide (0 ≤ ((1 + (n + 7) / 8 : Nat) : Int)) && decide (((1 + (n + 7) / 8 : Nat) : Int) ≤ ((1 + (n + 7) / 8 : Nat) : Int))) = true := by simp only [Bool.and_eq_true, decide_eq_true_eq]; omega
  have hr : room 1 ((1 + (n + 7) / 8 : Nat) : Int) = true := room_of (by omega) (by omega)
  constructor
  · unfold bits_plain
    rw [e1, e2, hck, pCk_t, hr, pCk_t, rep0_ints]
    exact plain_loop N n hn s (by omega) s 0 N _ rfl (fun x hx => (hs.mem x hx).2) (by simp) (by omega) h0 h1
  · unfold avermentref03_Plain
    rw [e1', e2, hck, pCk_t, hr, pCk_t, rep0_ints]
    exact rplain_loop N n hn s (by omega) s 0 N _ rfl (fun x hx => (hs.mem x hx).2) (by simp) (by omega) h0 h1
end Go.Y
namespace Go.Y
open Go
def okR (n : Int) : Int → List Int → Bool
  | _, [] => true
  | last, x :: r => decide (last < x) && (decide (x < n) && okR n x r)
def setOk (n : Int) (l : List Int) : Bool := decide (0 ≤ n) && (decide (n ≤ 4096) && okR n (-1) l)
theorem okR_inc : ∀ {n last : Int} {l : List Int}, okR n last l = true → Inc l ∧ ∀ x ∈ l, last < x ∧ x < n
  | n, last, [], _ => ⟨List.Pairwise.nil, fun x h => by simp at h⟩
  | n, last, x :: r, h => by
    simp only [okR, Bool.and_eq_true, decide_eq_true_eq] at h
    obtain ⟨h1, h2, h3⟩ := h
    obtain ⟨i1, i2⟩ := okR_inc h3
    refine ⟨List.pairwise_cons.2 ⟨fun y hy => (i2 y hy).1, i1⟩, fun y hy => ?_⟩
    rcases List.mem_cons.1 hy with rfl | hy
    · exact ⟨h1, h2⟩
    · have := i2 y hy; omega
theorem okR_of : ∀ {n last : Int} {l : List Int}, Inc l → (∀ x ∈ l, last < x ∧ x < n) → okR n last l = true
  | n, last, [], _, _ => rfl
  | n, last, x :: r, h, hb => by
    obtain ⟨h1, h2⟩ := List.pairwise_cons.1 h
    have hx := hb x (by simp)
    simp only [okR, Bool.and_eq_true, decide_eq_true_eq]
    exact ⟨hx.1, hx.2, okR_of h2 fun y hy => ⟨h1 y hy, (hb y (List.mem_cons_of_mem _ hy)).2⟩⟩
theorem drop_cons_int {s : List Int} {i : Nat} {x : Int} {r : List Int} (h : s.drop i = x :: r) : s[i]? = some x ∧ s.drop (i + 1) = r := by
  constructor
  · have := congrArg List.head? h
    rw [List.head?_drop] at this
    exact this
  · rw [← List.tail_drop, h]; rfl
theorem Right_loop (N : Nat) (n : Int) (s : List Int) (hs : s.length ≤ 100000) : ∀ (r : List Int) (i fuel : Nat) (last : Int), s.drop i = r → i + r.length = s.length → r.length < fuel →
    bits_Right_l6 N (fun _ => some true) (fun x1 => some x1) fuel n last s (len s) (i : Int) = some (okR n last r) := by
  intro r
  induction r with
  | nil =>
    intro i fuel last hd hi hf
    obtain ⟨fuel, rfl⟩ : ∃ f, fuel = f + 1 := ⟨fuel - 1, by omega⟩
    simp only [List.length_nil] at hi
    rw [bits_Right_l6, decide_eq_false (by rw [len_]; omega), pIf_f]
    rfl
  | cons x r ih =>
    intro i fuel last hd hi hf
    obtain ⟨fuel, rfl⟩ : ∃ f, fuel = f + 1 := ⟨fuel - 1, by omega⟩
    simp only [List.length_cons] at hi hf
    obtain ⟨hx, hd2⟩ := drop_cons_int hd
    rw [bits_Right_l6, decide_eq_true (by rw [len_]; omega), pIf_t, pIdx_nat hx, pLet_, pick_or]
    by_cases h1 : x ≤ last
    · rw [decide_eq_true h1, Bool.true_or, pIf_t]
      simp only [okR]
      rw [decide_eq_false (by omega)]; rfl
    · by_cases h2 : n ≤ x
      · rw [decide_eq_true h2, Bool.or_true, pIf_t]
        simp only [okR]
        rw [decide_eq_false (show ¬ x < n by omega), Bool.false_and, Bool.and_false]
      · rw [decide_eq_false h1, decide_eq_false h2, Bool.or_false, pIf_f, wr_succ (m := 100000) (by omega) (by omega), ih (i + 1) fuel x hd2 (by omega) (by omega)]
        simp only [okR]
        rw [decide_eq_true (show last < x by omega), decide_eq_true (show x < n by omega), Bool.true_and, Bool.true_and]
theorem Right_ok (N : Nat) (n : Int) (s : List Int) (hs : s.length ≤ 100000) (hN : s.length < N) : bits_Right N n s = some (setOk n s) := by
  unfold bits_Right setOk
  rw [pLet_, pick_or]
  by_cases h1 : n < 0
  · rw [decide_eq_true h1, Bool.true_or, pIf_t, decide_eq_false (by omega)]; rfl
  · by_cases h2 : 4096 < n
    · rw [decide_eq_true h2, Bool.or_true, pIf_t, decide_eq_false (show ¬ n ≤ 4096 by omega), Bool.false_and, Bool.and_false]
    · rw [decide_eq_false h1, decide_eq_false h2, Bool.or_false, pIf_f, decide_eq_true (by omega), decide_eq_true (by omega), Bool.true_and, Bool.true_and]
      exact Right_loop N n s hs s 0 N (-1) rfl (by simp) hN
theorem rRight_loop (N : Nat) (n : Int) (s : List Int) (hs : s.length ≤ 100000) : ∀ (r : List Int) (i fuel : Nat) (last : Int), s.drop i = r → i + r.length = s.length → r.length < fuel → (i = 0 → last = -1) → (0 < i → s[i - 1]? = some last ∧ 0 ≤ last) →
    avermentref03_Right_l5 N (fun _ => some true) (fun x1 => some x1) fuel n s (i : Int) = some (okR n last r) := by
  intro r
  induction r with
  | nil =>
    intro i fuel last hd hi hf h0 hp
    obtain ⟨fuel, rfl⟩ : ∃ f, fuel = f + 1 := ⟨fuel - 1, by omega⟩
    simp only [List.length_nil] at hi
    rw [avermentref03_Right_l5, decide_eq_false (by rw [len_]; omega), pIf_f]
    rfl
  | cons x r ih =>
    intro i fuel last hd hi hf h0 hp
    obtain ⟨fuel, rfl⟩ : ∃ f, fuel = f + 1 := ⟨fuel - 1, by omega⟩
    simp only [List.length_cons] at hi hf
    obtain ⟨hx, hd2⟩ := drop_cons_int hd
    have hl0 : -1 ≤ last := by
      by_cases hi0 : i = 0
      · have := h0 hi0; omega
      · have := (hp (by omega)).2; omega
    rw [avermentref03_Right_l5, decide_eq_true (by rw [len_]; omega), pIf_t, pIdx_nat hx]
    by_cases hx0 : x < 0
    · rw [decide_eq_true hx0]
      simp only [Bool.not_true, pIdxG_f, pLet_, pick_t, Bool.false_and, pIf_t]
      simp only [okR]
      rw [decide_eq_false (by omega)]; rfl
    · rw [decide_eq_false hx0, Bool.not_false, pIdxG_t, pIdx_nat hx, pLet_, pick_f]
      by_cases hxn : n ≤ x
      · rw [decide_eq_true hxn]
        simp only [Bool.not_true, Bool.false_and, pIdxG_f, pLet_, pick_t, pIf_t]
        simp only [okR]
        rw [decide_eq_false (show ¬ x < n by omega), Bool.false_and, Bool.and_false]
      · rw [decide_eq_false hxn]
        simp only [Bool.not_false, Bool.true_and, pick_f]
        have hnext : last < x → avermentref03_Right_l5 N (fun _ => some true) (fun x1 => some x1) fuel n s (wr .i64 ((i : Int) + 1)) = some (okR n last (x :: r)) := fun hlx => by
          rw [wr_succ (m := 100000) (by omega) (by omega), ih (i + 1) fuel x hd2 (by omega) (by omega) (fun h => by omega) (fun _ => ⟨by rw [Nat.add_sub_cancel]; exact hx, by omega⟩)]
          simp only [okR]
          rw [decide_eq_true hlx, decide_eq_true (show x < n by omega), Bool.true_and, Bool.true_and]
        by_cases hi0 : i = 0
        · subst hi0
          have := h0 rfl
          rw [show decide ((0 : Int) < ((0 : Nat) : Int)) = false from rfl]
          simp only [pIdxG_f, pick_f, pLet_, pIf_f]
          exact hnext (by omega)
        · obtain ⟨hpv, hp0⟩ := hp (by omega)
          rw [show decide ((0 : Int) < (i : Int)) = true by exact decide_eq_true (by omega)]
          simp only [pIdxG_t, pick_t, pLet_]
          rw [pIdx_nat hx, wr_i64 (n := (i : Int) - 1) (by omega) (by omega), show (i : Int) - 1 = ((i - 1 : Nat) : Int) by omega, pIdx_nat hpv]
          by_cases hlx : x ≤ last
          · rw [decide_eq_true hlx, pIf_t]
            simp only [okR]
            rw [decide_eq_false (by omega)]; rfl
          · rw [decide_eq_false hlx, pIf_f]
            exact hnext (by omega)
theorem rRight_ok (N : Nat) (n : Int) (s : List Int) (hs : s.length ≤ 100000) (hN : s.length < N) : avermentref03_Right N n s = some (setOk n s) := by
  unfold avermentref03_Right setOk
  rw [pLet_, pick_or]
  by_cases h1 : n < 0
  · rw [decide_eq_true h1, Bool.true_or, pIf_t, decide_eq_false (by omega)]; rfl
  · by_cases h2 : 4096 < n
    · rw [decide_eq_true h2, Bool.or_true, pIf_t, decide_eq_false (show ¬ n ≤ 4096 by omega), Bool.false_and, Bool.and_false]
    · rw [decide_eq_false h1, decide_eq_false h2, Bool.or_false, pIf_f, decide_eq_true (by omega), decide_eq_true (by omega), Bool.true_and, Bool.true_and]
      exact rRight_loop N n s hs s 0 N (-1) rfl (by simp) hN (fun _ => rfl) (fun h => by omega)
theorem ints_inc : ∀ {n lo : Nat} {s : List Nat}, Go.Y.Rise n lo s → Inc (ints s) ∧ ∀ y ∈ ints s, (lo : Int) ≤ y ∧ y < (n : Int)
  | n, lo, [], _ => ⟨List.Pairwise.nil, fun y h => by simp [ints] at h⟩
  | n, lo, x :: r, h => by
    obtain ⟨i1, i2⟩ := ints_inc h.2.2
    refine ⟨List.pairwise_cons.2 ⟨fun y hy => by have := (i2 y hy).1; show (x : Int) < y; omega, i1⟩, fun y hy => ?_⟩
    rcases List.mem_cons.1 hy with rfl | hy
    · have := h.1; have := h.2.1; show (lo : Int) ≤ (x : Int) ∧ (x : Int) < (n : Int); omega
    · have := i2 y hy; have := h.1; omega
theorem setOk_rise {n : Nat} (hn : n ≤ 4096) {s : List Nat} (hs : Go.Y.Rise n 0 s) : setOk (n : Int) (ints s) = true := by
  obtain ⟨h1, h2⟩ := ints_inc hs
  unfold setOk
  rw [decide_eq_true (by omega), decide_eq_true (by omega), okR_of h1 fun x hx => by have := h2 x hx; omega]
  rfl
def wayW (n : Nat) (s : List Nat) (w : Nat) : List Nat := match w with | 0 => plainW n s | 1 => gapsW s | _ => runsW s
def best (a b c : Nat) : Nat := if a ≤ b ∧ a ≤ c then 0 else if b ≤ c then 1 else 2
def bestW (n : Nat) (s : List Nat) : Nat := best (plainW n s).length (gapsW s).length (runsW s).length
section
variable (N : Nat) (hN : 5000 < N) (n : Nat) (hn : n ≤ 4096) (s : List Nat) (hs : Go.Y.Rise n 0 s)
set_option linter.unusedSectionVars false
include hN hn hs
theorem laid_eq (w : Nat) (hw : w ≤ 2) : bits_laid N (n : Int) (ints s) (w : Int) = some (ints (wayW n s w)) := by
  unfold bits_laid
  match w, hw with
  | 0, _ => rw [show decide (((0 : Nat) : Int) = 0) = true from rfl, pIf_t, (plain_eq N hN n hn s hs).1, pCall_s]; rfl
  | 1, _ => rw [show decide (((1 : Nat) : Int) = 0) = false from rfl, pIf_f, show decide (((1 : Nat) : Int) = 1) = true from rfl, pIf_t, gaps_eq N hN n hn s hs, pCall_s]; rfl
  | 2, _ => rw [show decide (((2 : Nat) : Int) = 0) = false from rfl, pIf_f, show decide (((2 : Nat) : Int) = 1) = false from rfl, pIf_f, show decide (((2 : Nat) : Int) = 2) = true from rfl, pIf_t, runs_eq N hN n hn s hs, pCall_s]; rfl
theorem right_eq : bits_Right N (n : Int) (ints s) = some true := by
  have hl := Rise.len hs (by omega)
  rw [Right_ok N _ _ (by rw [ints_len]; omega) (by rw [ints_len]; omega), setOk_rise hn hs]
theorem size_eq (w : Nat) (hw : w ≤ 2) : bits_Size N (n : Int) (ints s) (w : Int) = some ((wayW n s w).length : Int) := by
  unfold bits_Size
  rw [right_eq N hN n hn s hs, pCall_s, pLet_, Bool.not_true, pick_f, pLet_, decide_eq_false (by omega), pick_f, decide_eq_false (by omega), pIf_f, laid_eq N hN n hn s hs w hw, pCall_s, len_, ints_len]
theorem size_none (w : Int) (hw : w < 0 ∨ 2 < w) : bits_Size N (n : Int) (ints s) w = some (-1) := by
  unfold bits_Size
  rw [right_eq N hN n hn s hs, pCall_s, pLet_, Bool.not_true, pick_f, pLet_, pick_or]
  rcases hw with h | h
  · rw [decide_eq_true h, Bool.true_or, pIf_t]
  · rw [decide_eq_true h, Bool.or_true, pIf_t]
theorem way_eq : bits_Way N (n : Int) (ints s) = some (bestW n s : Int) := by
  unfold bits_Way
  obtain ⟨M, rfl⟩ : ∃ M, N = M + 3 := ⟨N - 3, by omega⟩
  rw [right_eq _ hN n hn s hs, pCall_s, Bool.not_true, pIf_f]
  have i1 : ∀ {ρ : Type} (k : Int → Option ρ), pIdx [(1 : Int), 2] 0 k = k ((1 : Nat) : Int) := fun k => rfl
  have i2 : ∀ {ρ : Type} (k : Int → Option ρ), pIdx [(1 : Int), 2] 1 k = k ((2 : Nat) : Int) := fun k => rfl
  have w1 : wr .i64 ((0 : Int) + 1) = 1 := rfl
  have w2 : wr .i64 ((1 : Int) + 1) = 2 := rfl
  have l0 : bits_laid (M + 3) (n : Int) (ints s) 0 = some (ints (wayW n s 0)) := laid_eq _ hN n hn s hs 0 (by omega)
  have step : ∀ (b : Nat), b ≤ 2 → bits_Way_l6 (M + 3) (fun x1 => some x1) (M + 2) (n : Int) (ints s) (b : Int) (1, 2) 1 = some (if (wayW n s 2).length < (wayW n s b).length then 2 else (b : Int)) := by
    intro b hb
    rw [bits_Way_l6, show decide ((1 : Int) < 2) = true from rfl, pIf_t, i2, laid_eq _ hN n hn s hs 2 (by omega), pCall_s, laid_eq _ hN n hn s hs b hb, pCall_s, pJoin_, len_, len_, ints_len, ints_len]
    by_cases h : (wayW n s 2).length < (wayW n s b).length
    · rw [decide_eq_true (by omega), pIf_t, if_pos h]
      simp only [w2]
      rw [bits_Way_l6, show decide ((2 : Int) < 2) = false from rfl, pIf_f]
      rfl
    · rw [decide_eq_false (by omega), pIf_f, if_neg h]
      simp only [w2]
      rw [bits_Way_l6, show decide ((2 : Int) < 2) = false from rfl, pIf_f]
  rw [bits_Way_l6, show decide ((0 : Int) < 2) = true from rfl, pIf_t, i1, laid_eq _ hN n hn s hs 1 (by omega), pCall_s, l0, pCall_s, pJoin_, len_, len_, ints_len, ints_len]
  have e0 : (wayW n s 0).length = (plainW n s).length := rfl
  have e1 : (wayW n s 1).length = (gapsW s).length := rfl
  have e2 : (wayW n s 2).length = (runsW s).length := rfl
  have hbest : bestW n s = best (wayW n s 0).length (wayW n s 1).length (wayW n s 2).length := rfl
  rw [hbest]
  by_cases h : (wayW n s 1).length < (wayW n s 0).length
  · rw [decide_eq_true (by omega), pIf_t]
    simp only [w1]
    have := step 1 (by omega)
    rw [show ((1 : Nat) : Int) = 1 from rfl] at this ⊢
    rw [this]
    unfold best
    by_cases h2 : (wayW n s 2).length < (wayW n s 1).length
    · rw [if_pos h2, if_neg (by omega), if_neg (by omega)]; rfl
    · rw [if_neg h2, if_neg (by omega), if_pos (by omega)]; rfl
  · rw [decide_eq_false (by omega), pIf_f]
    simp only [w1]
    have := step 0 (by omega)
    rw [show ((0 : Nat) : Int) = 0 from rfl] at this
    rw [this]
    unfold best
    by_cases h2 : (wayW n s 2).length < (wayW n s 0).length
    · rw [if_pos h2, if_neg (by omega), if_neg (by omega)]; rfl
    · rw [if_neg h2, if_pos (by omega)]; rfl
theorem bestW_le : bestW n s ≤ 2 := by
  unfold bestW best
  split
  · omega
  · split <;> omega
theorem way_len (w : Nat) : (wayW n s w).length ≤ 20000 := by
  have hl := Rise.len hs (by omega)
  obtain ⟨hrr, hrl⟩ := runsF_rr hs
  have hb := runsB_len hn hrr
  have hg := gapsB_len hn hs
  have hv := venc_len2 (n := (runsF s).length) (by omega)
  have hv2 := venc_len2 (n := s.length) (by omega)
  unfold wayW
  split
  · unfold plainW
    rw [plF_len, List.length_replicate]; omega
  · simp only [gapsW, List.length_cons, List.length_append]; omega
  · simp only [runsW, List.length_cons, List.length_append]; omega
theorem write_eq (w : List Nat) (hw : w.length ≤ 1000) : bits_Write N (n : Int) (ints s) (ints w) = some (Err.nil, ints (w ++ wayW n s (bestW n s))) := by
  have hw2 := way_len N hN n hn s hs (bestW n s)
  unfold bits_Write
  rw [right_eq N hN n hn s hs, pCall_s, Bool.not_true, pIf_f, way_eq N hN n hn s hs, pCall_s, laid_eq N hN n hn s hs _ (bestW_le N hN n hn s hs), pCall_s]
  unfold p_wire_Writer_Raw
  rw [← ints_app, room_of (by simp [ints_len]; omega) (by simp [ints_len]; omega), pCk_t, pCall_s]
end
end Go.Y
namespace Go.Y
open Go
theorem min_best (a b c : Nat) : mnI (mnI (a : Int) (b : Int)) (c : Int) = (match best a b c with | 0 => a | 1 => b | _ => c : Nat) := by
  have h1 : mnI (a : Int) (b : Int) = if b < a then (b : Int) else (a : Int) := by
    unfold mnI
    by_cases h : b < a
    · rw [decide_eq_true (show (b : Int) < (a : Int) by omega), if_pos h]
    · rw [decide_eq_false (show ¬ (b : Int) < (a : Int) by omega), if_neg h]
  rw [h1]
  unfold mnI best
  by_cases h : b < a
  · rw [if_pos h, if_neg (by omega)]
    by_cases h2 : c < b
    · rw [decide_eq_true (show (c : Int) < (b : Int) by omega), if_neg (by omega)]; rfl
    · rw [decide_eq_false (show ¬ (c : Int) < (b : Int) by omega), if_pos (by omega)]; rfl
  · rw [if_neg h]
    by_cases h2 : c < a
    · rw [decide_eq_true (show (c : Int) < (a : Int) by omega), if_neg (by omega), if_neg (by omega)]; rfl
    · rw [decide_eq_false (show ¬ (c : Int) < (a : Int) by omega), if_pos (by omega)]; rfl
theorem len_best (n : Nat) (s : List Nat) : ((wayW n s (bestW n s)).length : Int) = mnI (mnI ((plainW n s).length : Int) ((gapsW s).length : Int)) ((runsW s).length : Int) := by
  rw [min_best]
  unfold bestW
  have : best (plainW n s).length (gapsW s).length (runsW s).length ≤ 2 := by
    unfold best
    split
    · omega
    · split <;> omega
  generalize best (plainW n s).length (gapsW s).length (runsW s).length = w at this
  match w, this with
  | 0, _ => rfl
  | 1, _ => rfl
  | 2, _ => rfl
theorem bits_lays (N : Nat) (h : N = 6000) : avermentlaw03_lays N = some true := by subst h; kernel_rfl
theorem set_rise (N : Nat) (hN : 5000 < N) (n : Nat) (hn : n ≤ 4096) (raw : List Int) : ∃ s : List Nat, avermentlaw03_Set N (n : Int) raw = some (ints s) ∧ Rise n 0 s := by
  obtain ⟨s, h1, h2, h3, _⟩ := Set_ok N hN n hn raw
  obtain ⟨ns, rfl, h4⟩ := rise_of (n := n) 0 h2 fun y hy => by have := h3 y hy; omega
  exact ⟨ns, h1, h4⟩
theorem BitsSmall_plain (n0 : Int) (raw : List Int) (way : Int) : ∃ N, avermentlaw03_BitsSmall N n0 raw way = some true := by
  refine ⟨6000, ?_⟩
  have hlays := bits_lays 6000 rfl
  have hN : 5000 < 6000 := by omega
  revert hlays hN
  generalize 6000 = N
  intro hlays hN
  obtain ⟨n, hk, hn⟩ := remI_nat n0 (n := 4097) (by omega) (by omega)
  have hk : wr .i64 (remI (wr .u64 n0) 4097) = (n : Int) := hk
  obtain ⟨s, hset, hs⟩ := set_rise N hN n (by omega) raw
  have hn : n ≤ 4096 := by omega
  have hwl := way_len N hN n hn s hs
  unfold avermentlaw03_BitsSmall
  simp only [hk]
  have z0 : bits_Size N (n : Int) (ints s) 0 = some ((plainW n s).length : Int) := size_eq N hN n hn s hs 0 (by omega)
  have z1 : bits_Size N (n : Int) (ints s) 1 = some ((gapsW s).length : Int) := size_eq N hN n hn s hs 1 (by omega)
  have z2 : bits_Size N (n : Int) (ints s) 2 = some ((runsW s).length : Int) := size_eq N hN n hn s hs 2 (by omega)
  have hw : bits_Write N (n : Int) (ints s) [] = some (Err.nil, ints (wayW n s (bestW n s))) := by
    have := write_eq N hN n hn s hs [] (by simp)
    rwa [List.nil_append] at this
  rw [hset, pCall_s, z0, pCall_s, z1, pCall_s, z2, pCall_s, show wire_New N = some [] from rfl, pCall_s, hw, pCall_s, bytesB N _ (by have := hwl (bestW n s); omega), pCall_s]
  have hz : ∃ z, bits_Size N (n : Int) (ints s) way = some z ∧ (0 ≤ way ∧ way ≤ 2 ∨ z = -1) := by
    by_cases h : 0 ≤ way ∧ way ≤ 2
    · obtain ⟨w, rfl⟩ := Int.eq_ofNat_of_zero_le h.1
      exact ⟨_, size_eq N hN n hn s hs w (by omega), .inl h⟩
    · exact ⟨-1, size_none N hN n hn s hs way (by omega), .inr rfl⟩
  obtain ⟨z, hz1, hz2⟩ := hz
  rw [hz1, pCall_s, hlays, pCall_s]
  simp only [pLet_, pick_t, errNil, pCallG_t, (plain_eq N hN n hn s hs).2, pCall_s, len_, ints_len, decide_true, rgaps_eq N hN n hn s hs, rruns_eq N hN n hn s hs]
  rw [decide_eq_true (len_best n s), pick_t, pick_and, pick_or]
  rcases hz2 with ⟨h1, h2⟩ | rfl
  · rw [decide_eq_true h1, decide_eq_true h2]; rfl
  · rw [show decide ((-1 : Int) = -1) = true from rfl, Bool.or_true]
end Go.Y
set_option maxRecDepth 100000
namespace Go.Proofs.YtgenmananhffoaaDoor
open Go.ChangeShapes Go.WideShapes Go.ChangeAt Go.RowKit Go.Y
theorem BitsSmall_own : ownKnob Tryd.prog.godebug = none := by kernel_rfl
theorem BitsSmall_laid : laidOutB Tryd.prog = true := by kernel_rfl
theorem BitsSmall_pure (x : (tupTy q3.ts).den) (h : Wf Tryd.prog.bytesOf (tupTy q3.ts) x) : ∃ N, q3.F N x = some true := BitsSmall_plain x.1 x.2.1 x.2.2
theorem BitsSmall_et : Tryd.prog.globalNamed "errors.errorType" = some 0 := by kernel_rfl
theorem BitsSmall_rt : (Tryd.prog.cutTypes.find? (·.1 == "internal/reflectlite.rtype")).map (·.2) = some 115 := by kernel_rfl
theorem BitsSmall_oneRow : ((List.range Tryd.prog.types.size).filter fun t => Tryd.prog.rowNamed t [101, 114, 114, 111, 114]) = [29] := by kernel_rfl
theorem BitsSmall_handle {W : World} (h : laidMetH Tryd.prog Rows.bitsSmallRow.laid W) : W.cell? ⟨0, 0, none⟩ = some (.iface 115 (.agg #[.pointer (some ⟨1, 29, none⟩)])) := by
  have h' : laidMet Tryd.prog [] W ∧ handlesMet Tryd.prog Rows.bitsSmallRow.laid W := h
  obtain ⟨name, u, ty, e1, e2, e3, e4, e5⟩ := h'.2 _ (List.mem_singleton.2 rfl)
  have en : name = [101, 114, 114, 111, 114] := (Option.some.inj e1).symm
  subst en
  obtain rfl := Option.some.inj (BitsSmall_rt.symm.trans e2)
  have hm : ty ∈ (List.range Tryd.prog.types.size).filter fun t => Tryd.prog.rowNamed t [101, 114, 114, 111, 114] := List.mem_filter.2 ⟨List.mem_range.2 e3, e4⟩
  rw [BitsSmall_oneRow] at hm
  obtain rfl := List.mem_singleton.1 hm
  have hh : typeHandle Tryd.prog 29 = .pointer (some ⟨1, 29, none⟩) := by kernel_rfl
  rw [hh] at e5
  simpa using World.var?_cell BitsSmall_et e5 0
noncomputable def BitsSmall_world (os : Os) : World :=
  let w0 := World.holding Tryd.prog os ⟨#[], #[], []⟩
  { w0 with heap := w0.heap.modify 0 fun
      | .cells _ t frozen => .cells #[.iface 115 (.agg #[.pointer (some ⟨1, 29, none⟩)])] t frozen
      | o => o }
theorem BitsSmall_met (os : Os) (args : Array Value) : laidMetH Tryd.prog Rows.bitsSmallRow.laid ((BitsSmall_world os).forCall (fun _ _ => 0) ⟨#[], args, []⟩).memory :=
  laidMetH_of_parts (laidMet_nil _ _) (by kernel_rfl)
theorem BitsSmall_lifted (os : Os) (started : os.Started) (H : Type) (enc : TypeId × Value → H) :
    ReturnsInHanded {} Tryd.checked os 3 .any (fun w args => (Rows.bitsSmallSpec.pre enc Tryd.prog Tryd.f3 Rows.bitsSmallRow.domain false w args ∧ laidMetH Tryd.prog Rows.bitsSmallRow.laid w) ∧ sizedMet enc Tryd.prog Tryd.f3 (OpenSpec.ofChange Rows.bitsSmallSpec) false w args)
      (Rows.bitsSmallSpec.post enc Tryd.prog Tryd.f3 false true false false) := by
  refine returnsInHanded_of_change_and (C := Tryd.checked) (X := fun w _ => laidMetH Tryd.prog Rows.bitsSmallRow.laid w) (fun _ _ _ hh h => h.of_heap hh) BitsSmall_own started (by kernel_rfl) Tryd.func3
    (ChangeSpec.witness_at (enc := enc) (C := Tryd.checked) (os := os) (X := fun w _ => laidMetH Tryd.prog Rows.bitsSmallRow.laid w) false (BitsSmall_world os) #[.int .i64 0, .slice none 0 0, .int .i64 0] 8 rfl (by kernel_rfl) (by kernel_rfl) (by kernel_rfl) (by kernel_rfl) (by kernel_rfl) (BitsSmall_met os _)) ?_
  intro W base args ds gs before hval0 hW hcnd hsz0 hL _
  exact law_calls (P := Tryd.prog) (I := ids) (φ := phi Tryd.prog ids) (As := q3.ts) (F := fun N => q3.F N) (ins := q3.ins) (h0 := q3.jh) BitsSmall_laid (by kernel_rfl) rfl (fun ds h => match ds, h with | [_, _, _], _ => rfl) ⟨4, by kernel_rfl, by kernel_rfl⟩ (by kernel_rfl) (fun N => b3.ok N) BitsSmall_pure hval0 hW hsz0 (fun p hp => by
    obtain rfl := List.mem_singleton.1 hp
    exact BitsSmall_handle hL)
theorem BitsSmall_holds : Rows.BitsSmallSaid :=
  OpenClaim.holds_of_wide 3 Tryd.f3 rfl rfl rfl rfl rfl rfl rfl ⟨rfl, rfl, rfl, rfl, rfl⟩ rfl rfl rfl rfl rfl (by kernel_rfl) Tryd.func3 (by kernel_rfl)
    (of_decide_eq_true (by kernel_rfl)) (by unfold Func.isWrapper; first | (rw [if_pos (by decide +kernel)]; kernel_rfl) | (rw [if_neg (by decide +kernel)]; exact ⟨rfl, rfl⟩))
    (fun os started H enc _ => BitsSmall_lifted os started H enc)
theorem BitsSmall_card : Rows.BitsSmallCardSaid :=
  Claim7.holds_tied_plain_at .later [] [.handle] true Rows.bitsSmallCard.stood.harness true
    BitsSmall_holds (fun _ h => by cases h) (by kernel_rfl) (fun _ h => by cases h) bitsSmall_row_tie rfl ⟨rfl, rfl⟩ (by kernel_rfl) rfl
    (fun f fn hf hfn => by
      obtain rfl : f = 3 := Option.some.inj ((show Tryd.prog.funcNamed "averment/avermentlaw03.BitsSmall" = some 3 by kernel_rfl).symm.trans hf) |>.symm
      obtain rfl : fn = Tryd.f3 := (Option.some.inj (Tryd.func3.symm.trans hfn)).symm
      exact ⟨by kernel_rfl, fun j t ht => by
        have h : (Tryd.f3.params.toList.all fun t => !(Tryd.prog.wantsStandIn t)) = true := by kernel_rfl
        have hm : t ∈ Tryd.f3.params.toList := List.mem_of_getElem? (by simpa using ht)
        have := List.all_eq_true.1 h t hm
        exact (show Tryd.prog.wantsStandIn t = false by simpa using this)⟩)
    (by kernel_rfl)
#print axioms BitsSmall_card
end Go.Proofs.YtgenmananhffoaaDoor
