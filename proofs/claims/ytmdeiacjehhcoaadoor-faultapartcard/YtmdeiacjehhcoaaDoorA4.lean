/- What is handed in is not changed, and what is changed behind a call changes nothing of an error. -/
import Derived.Test.YtmdeiacjehhcoaaDoorA3
import Derived.Sort.OwnSortedInts
import Derived.Lib.OwnBridge
import Derived.Test.YtmdeiacjehhcoaaDoorA0
import Derived.Lib.RowBridge
import Derived.Shelf.Lay
import Derived.Shelf.Strings.OnBuilder
import Derived.Shelf.Strconv.Itoa3
import Derived.Ground.NamesProg
import Derived.KernelRfl
import Derived.Test.YtmdeiacjehhcoaaDoorProg
import GoSem.ClaimJoined
import Derived.ChangeOld
import Derived.ChangeArms
import Derived.SizedLaws
import Derived.WalkKit
import Derived.ProofKit
import Derived.OpenShut
import Derived.ShutString
import Derived.Carry
import Derived.Lib.ItoaLen
import Derived.Test.YtmdeiacjehhcoaaDoorRows
import Derived.Test.YtmdeiacjehhcoaaDoorCards
import Derived.Test.YtmdeiacjehhcoaaDoorTie
import Derived.SevenTiedAt
import Derived.ChangeSame
import Derived.ChangeVars
import Derived.JoinedOf
import Derived.RowKit
import Derived.RowKitTokens
import Derived.LaidLaws
import Derived.LaidHandle
import Derived.Lib.LaidU8
import Derived.Stop.Joined
set_option linter.unusedVariables false
set_option linter.unusedSimpArgs false
noncomputable section
namespace Go.Proofs.YtmdeiacjehhcoaaDoor
open Go.RowKit Go.Extern.Stop Go.Stop Go.Extern Go.Y
open Go.Eng (RepT)
theorem As_nil (t : Value) (w : World) : Calls Tryd.prog 15 #[.nilIface, t] w fun e w' => e = .returned (.bool false) ∧ w' = w := by
  go_enter Tryd.func15, Tryd.ntmps15
  go_wp2
  go_ret
  exact ⟨rfl, rfl⟩
set_option maxHeartbeats 40000000 in
theorem AsE_hit (w : World) (t : Addr) (old : Value) (hg : w.cell? ⟨0, 0, none⟩ = some (.iface 80 (.agg #[.pointer (some ⟨5, 24, none⟩)]))) (ht : w.cell? t = some old) (hf : w.frozen? t = false) (n : Int) (F : Nat → Prop) (hF : ∀ b, F b → b < w.heap.size) (e : Err) (v : Value) (he : errAny e = true) (hnil : e ≠ .nil) (hv : RepT Tryd.prog w F (trE ids e) v) (hn : eNum e = some n) :
    Calls Tryd.prog 15 #[v, .iface 39 (.pointer (some t))] w fun ev w' => ev = .returned (.bool true) ∧ GrownX t.block w w' ∧ w'.cell? t = some (.int .i64 n) ∧ w'.frozen? t = false := by
  have hVo := @run_callFunc_extern Tryd.prog 24 _ (fun args => ReflectliteValue.unpack (args.getD 0 (.tuple #[]))) Tryd.func24 (by kernel_rfl) (by kernel_rfl) (by kernel_rfl) (by kernel_rfl)
  have hVt := @run_callFunc_extern Tryd.prog 25 _ (ReflectliteValue.methodAny (ReflectliteValue.valueError "reflectlite.Value.Type" 0) (fun t _ _ _ => ReflectliteType.toType t)) Tryd.func25 (by kernel_rfl) (by kernel_rfl) (by kernel_rfl) (by kernel_rfl)
  have hVn := @run_callFunc_extern Tryd.prog 26 _ (ReflectliteValue.method (ReflectliteValue.valueError "reflectlite.Value.IsNil" 0) ReflectliteValue.isNil) Tryd.func26 (by kernel_rfl) (by kernel_rfl) (by kernel_rfl) (by kernel_rfl)
  have hTk := @run_callFunc_extern Tryd.prog 67 _ (ReflectliteType.abiMethod fun t => do pure (.int .u8 (← Rtype.kind t))) Tryd.func67 (by kernel_rfl) (by kernel_rfl) (by kernel_rfl) (by kernel_rfl)
  have hRe := @run_callFunc_extern Tryd.prog 80 _ (ReflectliteType.method ReflectliteType.elem) Tryd.func80 (by kernel_rfl) (by kernel_rfl) (by kernel_rfl) (by kernel_rfl)
  have hRi := @run_callFunc_extern Tryd.prog 81 _ (ReflectliteType.relation "Implements" ReflectliteType.implements_) Tryd.func81 (by kernel_rfl) (by kernel_rfl) (by kernel_rfl) (by kernel_rfl)
  have mK := mKind
  have mE := mElem
  have mI := mImpl
  have f1 := valueOfE_
  have f2 := typeE_
  have f3 := kindE_
  have f4 := kindEt
  have f5 := elemTE_
  have f6 := implE
  obtain ⟨tt, x, rfl⟩ : ∃ tt x, v = .iface tt x := by
    rcases rep_head he hv with ⟨_, h⟩ | ⟨tt, x, h, _⟩
    · exact absurd h hnil
    · exact ⟨tt, x, h⟩
  have hgl : (0 : Nat) < w.heap.size := World.block_lt_of_cell? w _ hg
  have htl : t.block < w.heap.size := World.block_lt_of_cell? w t ht
  have n8 := isNilE ⟨w.heap.size, 0, none⟩ t ((w.alloc (.cells #[.pointer (some t)] 39)).alloc (.cells #[.pointer (some ⟨5, 39, none⟩), .pointer (some ⟨w.heap.size, 0, none⟩), .int .u64 150] 56)) (by rw [World.cell?_alloc_lt _ _ ⟨w.heap.size, 0, none⟩ (by simp)]; simp)
  have hg2 : (((w.alloc (.cells #[.pointer (some t)] 39)).alloc (.cells #[.pointer (some ⟨5, 39, none⟩), .pointer (some ⟨w.heap.size, 0, none⟩), .int .u64 150] 56))).cell? ⟨0, 0, none⟩ = some (.iface 80 (.agg #[.pointer (some ⟨5, 24, none⟩)])) := by
    rw [World.cell?_alloc_lt _ _ ⟨0, 0, none⟩ (by simp <;> omega), World.cell?_alloc_lt _ _ ⟨0, 0, none⟩ hgl]; exact hg
  have ht2 : (((w.alloc (.cells #[.pointer (some t)] 39)).alloc (.cells #[.pointer (some ⟨5, 39, none⟩), .pointer (some ⟨w.heap.size, 0, none⟩), .int .u64 150] 56))).cell? t = some old := by
    rw [World.cell?_alloc_lt _ _ t (by simp <;> omega), World.cell?_alloc_lt _ _ t htl]; exact ht
  have hf2 : (((w.alloc (.cells #[.pointer (some t)] 39)).alloc (.cells #[.pointer (some ⟨5, 39, none⟩), .pointer (some ⟨w.heap.size, 0, none⟩), .int .u64 150] 56))).frozen? t = false := by
    rw [World.frozen?_alloc_old _ _ t (by simp <;> omega), World.frozen?_alloc_old _ _ t (Nat.ne_of_lt htl)]; exact hf
  have ha2 : (((w.alloc (.cells #[.pointer (some t)] 39)).alloc (.cells #[.pointer (some ⟨5, 39, none⟩), .pointer (some ⟨w.heap.size, 0, none⟩), .int .u64 150] 56))).cell? ⟨w.heap.size, 0, none⟩ = some (.pointer (some t)) := by
    rw [World.cell?_alloc_lt _ _ ⟨w.heap.size, 0, none⟩ (by simp)]; simp
  have key := as_hit n ((w.alloc (.cells #[.pointer (some t)] 39)).alloc (.cells #[.pointer (some ⟨5, 39, none⟩), .pointer (some ⟨w.heap.size, 0, none⟩), .int .u64 150] 56)) F t ⟨w.heap.size, 0, none⟩ old ha2 ht2 hf2 e _ he hnil hn (hv.mono (F' := F) (fun b hb hl => by rw [Go.RowKit.Below.heap_alloc _ _ b (by simp <;> omega), Go.RowKit.Below.heap_alloc _ _ b hl]) (fun b hb => hb))
  go_enter Tryd.func15, Tryd.ntmps15
  go_wp2_with (first | (go_at_call 27; refine key.mono ?_; rintro e w' ⟨rfl, rfl⟩))
  go_ret
  refine ⟨rfl, (((((GrownX.refl t.block w).alloc _).alloc _).alloc _).alloc _).set t _ rfl, ?_, ?_⟩
  rotate_left
  · rw [World.frozen?_setCell, World.frozen?_alloc_old _ _ t (by simp <;> omega), World.frozen?_alloc_old _ _ t (by simp <;> omega)]; exact hf2
  refine World.cell?_setCell_same _ t _ (u := old) ?_
  rw [World.cell?_alloc_lt _ _ t (by simp <;> omega), World.cell?_alloc_lt _ _ t (by simp <;> omega)]; exact ht2
set_option maxHeartbeats 40000000 in
theorem AsE_miss (w : World) (t : Addr) (old : Value) (hg : w.cell? ⟨0, 0, none⟩ = some (.iface 80 (.agg #[.pointer (some ⟨5, 24, none⟩)]))) (ht : w.cell? t = some old) (hf : w.frozen? t = false) (F : Nat → Prop) (hF : ∀ b, F b → b < w.heap.size) (e : Err) (v : Value) (he : errAny e = true) (hnil : e ≠ .nil) (hv : RepT Tryd.prog w F (trE ids e) v) (hn : eNum e = none) :
    Calls Tryd.prog 15 #[v, .iface 39 (.pointer (some t))] w fun ev w' => ev = .returned (.bool false) ∧ GrownX t.block w w' ∧ w'.cell? t = some (old) ∧ w'.frozen? t = false := by
  have hVo := @run_callFunc_extern Tryd.prog 24 _ (fun args => ReflectliteValue.unpack (args.getD 0 (.tuple #[]))) Tryd.func24 (by kernel_rfl) (by kernel_rfl) (by kernel_rfl) (by kernel_rfl)
  have hVt := @run_callFunc_extern Tryd.prog 25 _ (ReflectliteValue.methodAny (ReflectliteValue.valueError "reflectlite.Value.Type" 0) (fun t _ _ _ => ReflectliteType.toType t)) Tryd.func25 (by kernel_rfl) (by kernel_rfl) (by kernel_rfl) (by kernel_rfl)
  have hVn := @run_callFunc_extern Tryd.prog 26 _ (ReflectliteValue.method (ReflectliteValue.valueError "reflectlite.Value.IsNil" 0) ReflectliteValue.isNil) Tryd.func26 (by kernel_rfl) (by kernel_rfl) (by kernel_rfl) (by kernel_rfl)
  have hTk := @run_callFunc_extern Tryd.prog 67 _ (ReflectliteType.abiMethod fun t => do pure (.int .u8 (← Rtype.kind t))) Tryd.func67 (by kernel_rfl) (by kernel_rfl) (by kernel_rfl) (by kernel_rfl)
  have hRe := @run_callFunc_extern Tryd.prog 80 _ (ReflectliteType.method ReflectliteType.elem) Tryd.func80 (by kernel_rfl) (by kernel_rfl) (by kernel_rfl) (by kernel_rfl)
  have hRi := @run_callFunc_extern Tryd.prog 81 _ (ReflectliteType.relation "Implements" ReflectliteType.implements_) Tryd.func81 (by kernel_rfl) (by kernel_rfl) (by kernel_rfl) (by kernel_rfl)
  have mK := mKind
  have mE := mElem
  have mI := mImpl
  have f1 := valueOfE_
  have f2 := typeE_
  have f3 := kindE_
  have f4 := kindEt
  have f5 := elemTE_
  have f6 := implE
  obtain ⟨tt, x, rfl⟩ : ∃ tt x, v = .iface tt x := by
    rcases rep_head he hv with ⟨_, h⟩ | ⟨tt, x, h, _⟩
    · exact absurd h hnil
    · exact ⟨tt, x, h⟩
  have hgl : (0 : Nat) < w.heap.size := World.block_lt_of_cell? w _ hg
  have htl : t.block < w.heap.size := World.block_lt_of_cell? w t ht
  have n8 := isNilE ⟨w.heap.size, 0, none⟩ t ((w.alloc (.cells #[.pointer (some t)] 39)).alloc (.cells #[.pointer (some ⟨5, 39, none⟩), .pointer (some ⟨w.heap.size, 0, none⟩), .int .u64 150] 56)) (by rw [World.cell?_alloc_lt _ _ ⟨w.heap.size, 0, none⟩ (by simp)]; simp)
  have hg2 : (((w.alloc (.cells #[.pointer (some t)] 39)).alloc (.cells #[.pointer (some ⟨5, 39, none⟩), .pointer (some ⟨w.heap.size, 0, none⟩), .int .u64 150] 56))).cell? ⟨0, 0, none⟩ = some (.iface 80 (.agg #[.pointer (some ⟨5, 24, none⟩)])) := by
    rw [World.cell?_alloc_lt _ _ ⟨0, 0, none⟩ (by simp <;> omega), World.cell?_alloc_lt _ _ ⟨0, 0, none⟩ hgl]; exact hg
  have ht2 : (((w.alloc (.cells #[.pointer (some t)] 39)).alloc (.cells #[.pointer (some ⟨5, 39, none⟩), .pointer (some ⟨w.heap.size, 0, none⟩), .int .u64 150] 56))).cell? t = some old := by
    rw [World.cell?_alloc_lt _ _ t (by simp <;> omega), World.cell?_alloc_lt _ _ t htl]; exact ht
  have hf2 : (((w.alloc (.cells #[.pointer (some t)] 39)).alloc (.cells #[.pointer (some ⟨5, 39, none⟩), .pointer (some ⟨w.heap.size, 0, none⟩), .int .u64 150] 56))).frozen? t = false := by
    rw [World.frozen?_alloc_old _ _ t (by simp <;> omega), World.frozen?_alloc_old _ _ t (Nat.ne_of_lt htl)]; exact hf
  have ha2 : (((w.alloc (.cells #[.pointer (some t)] 39)).alloc (.cells #[.pointer (some ⟨5, 39, none⟩), .pointer (some ⟨w.heap.size, 0, none⟩), .int .u64 150] 56))).cell? ⟨w.heap.size, 0, none⟩ = some (.pointer (some t)) := by
    rw [World.cell?_alloc_lt _ _ ⟨w.heap.size, 0, none⟩ (by simp)]; simp
  have key := as_miss ((w.alloc (.cells #[.pointer (some t)] 39)).alloc (.cells #[.pointer (some ⟨5, 39, none⟩), .pointer (some ⟨w.heap.size, 0, none⟩), .int .u64 150] 56)) F t ⟨w.heap.size, 0, none⟩ old ha2 ht2 hf2 e _ he hnil hn (hv.mono (F' := F) (fun b hb hl => by rw [Go.RowKit.Below.heap_alloc _ _ b (by simp <;> omega), Go.RowKit.Below.heap_alloc _ _ b hl]) (fun b hb => hb))
  go_enter Tryd.func15, Tryd.ntmps15
  go_wp2_with (first | (go_at_call 27; refine key.mono ?_; rintro e w' ⟨rfl, rfl⟩))
  go_ret
  refine ⟨rfl, (((GrownX.refl t.block w).alloc _).alloc _).alloc _, ?_, ?_⟩
  rotate_left
  · rw [World.frozen?_alloc_old _ _ t (by simp <;> omega)]; exact hf2
  rw [World.cell?_alloc_lt _ _ t (by simp <;> omega)]; exact ht2
set_option maxHeartbeats 40000000 in
theorem AsP_hit (w : World) (t : Addr) (old : Value) (hg : w.cell? ⟨0, 0, none⟩ = some (.iface 80 (.agg #[.pointer (some ⟨5, 24, none⟩)]))) (ht : w.cell? t = some old) (hf : w.frozen? t = false) (pa : Addr) :
    Calls Tryd.prog 15 #[.iface 45 (.pointer (some pa)), .iface 46 (.pointer (some t))] w fun ev w' => ev = .returned (.bool true) ∧ GrownX t.block w w' ∧ w'.cell? t = some (.pointer (some pa)) ∧ w'.frozen? t = false := by
  have hVo := @run_callFunc_extern Tryd.prog 24 _ (fun args => ReflectliteValue.unpack (args.getD 0 (.tuple #[]))) Tryd.func24 (by kernel_rfl) (by kernel_rfl) (by kernel_rfl) (by kernel_rfl)
  have hVt := @run_callFunc_extern Tryd.prog 25 _ (ReflectliteValue.methodAny (ReflectliteValue.valueError "reflectlite.Value.Type" 0) (fun t _ _ _ => ReflectliteType.toType t)) Tryd.func25 (by kernel_rfl) (by kernel_rfl) (by kernel_rfl) (by kernel_rfl)
  have hVn := @run_callFunc_extern Tryd.prog 26 _ (ReflectliteValue.method (ReflectliteValue.valueError "reflectlite.Value.IsNil" 0) ReflectliteValue.isNil) Tryd.func26 (by kernel_rfl) (by kernel_rfl) (by kernel_rfl) (by kernel_rfl)
  have hTk := @run_callFunc_extern Tryd.prog 67 _ (ReflectliteType.abiMethod fun t => do pure (.int .u8 (← Rtype.kind t))) Tryd.func67 (by kernel_rfl) (by kernel_rfl) (by kernel_rfl) (by kernel_rfl)
  have hRe := @run_callFunc_extern Tryd.prog 80 _ (ReflectliteType.method ReflectliteType.elem) Tryd.func80 (by kernel_rfl) (by kernel_rfl) (by kernel_rfl) (by kernel_rfl)
  have hRi := @run_callFunc_extern Tryd.prog 81 _ (ReflectliteType.relation "Implements" ReflectliteType.implements_) Tryd.func81 (by kernel_rfl) (by kernel_rfl) (by kernel_rfl) (by kernel_rfl)
  have mK := mKind
  have mE := mElem
  have mI := mImpl
  have f1 := valueOfP_
  have f2 := typeP_
  have f3 := kindP_
  have f4 := kindPt
  have f5 := elemTP_
  have f6 := implP
  have hgl : (0 : Nat) < w.heap.size := World.block_lt_of_cell? w _ hg
  have htl : t.block < w.heap.size := World.block_lt_of_cell? w t ht
  have n8 := isNilP ⟨w.heap.size, 0, none⟩ t ((w.alloc (.cells #[.pointer (some t)] 46)).alloc (.cells #[.pointer (some ⟨5, 46, none⟩), .pointer (some ⟨w.heap.size, 0, none⟩), .int .u64 150] 56)) (by rw [World.cell?_alloc_lt _ _ ⟨w.heap.size, 0, none⟩ (by simp)]; simp)
  have hg2 : (((w.alloc (.cells #[.pointer (some t)] 46)).alloc (.cells #[.pointer (some ⟨5, 46, none⟩), .pointer (some ⟨w.heap.size, 0, none⟩), .int .u64 150] 56))).cell? ⟨0, 0, none⟩ = some (.iface 80 (.agg #[.pointer (some ⟨5, 24, none⟩)])) := by
    rw [World.cell?_alloc_lt _ _ ⟨0, 0, none⟩ (by simp <;> omega), World.cell?_alloc_lt _ _ ⟨0, 0, none⟩ hgl]; exact hg
  have ht2 : (((w.alloc (.cells #[.pointer (some t)] 46)).alloc (.cells #[.pointer (some ⟨5, 46, none⟩), .pointer (some ⟨w.heap.size, 0, none⟩), .int .u64 150] 56))).cell? t = some old := by
    rw [World.cell?_alloc_lt _ _ t (by simp <;> omega), World.cell?_alloc_lt _ _ t htl]; exact ht
  have hf2 : (((w.alloc (.cells #[.pointer (some t)] 46)).alloc (.cells #[.pointer (some ⟨5, 46, none⟩), .pointer (some ⟨w.heap.size, 0, none⟩), .int .u64 150] 56))).frozen? t = false := by
    rw [World.frozen?_alloc_old _ _ t (by simp <;> omega), World.frozen?_alloc_old _ _ t (Nat.ne_of_lt htl)]; exact hf
  have ha2 : (((w.alloc (.cells #[.pointer (some t)] 46)).alloc (.cells #[.pointer (some ⟨5, 46, none⟩), .pointer (some ⟨w.heap.size, 0, none⟩), .int .u64 150] 56))).cell? ⟨w.heap.size, 0, none⟩ = some (.pointer (some t)) := by
    rw [World.cell?_alloc_lt _ _ ⟨w.heap.size, 0, none⟩ (by simp)]; simp
  have key := asP_hit ((w.alloc (.cells #[.pointer (some t)] 46)).alloc (.cells #[.pointer (some ⟨5, 46, none⟩), .pointer (some ⟨w.heap.size, 0, none⟩), .int .u64 150] 56)) t ⟨w.heap.size, 0, none⟩ old ha2 ht2 hf2 pa
  go_enter Tryd.func15, Tryd.ntmps15
  go_wp2_with (first | (go_at_call 27; refine key.mono ?_; rintro e w' ⟨rfl, rfl⟩))
  go_ret
  refine ⟨rfl, (((((GrownX.refl t.block w).alloc _).alloc _).alloc _).alloc _).set t _ rfl, ?_, ?_⟩
  rotate_left
  · rw [World.frozen?_setCell, World.frozen?_alloc_old _ _ t (by simp <;> omega), World.frozen?_alloc_old _ _ t (by simp <;> omega)]; exact hf2
  refine World.cell?_setCell_same _ t _ (u := old) ?_
  rw [World.cell?_alloc_lt _ _ t (by simp <;> omega), World.cell?_alloc_lt _ _ t (by simp <;> omega)]; exact ht2
set_option maxHeartbeats 40000000 in
theorem AsP_missS (w : World) (t : Addr) (old : Value) (hg : w.cell? ⟨0, 0, none⟩ = some (.iface 80 (.agg #[.pointer (some ⟨5, 24, none⟩)]))) (ht : w.cell? t = some old) (hf : w.frozen? t = false) (sa : Addr) :
    Calls Tryd.prog 15 #[.iface 67 (.pointer (some sa)), .iface 46 (.pointer (some t))] w fun ev w' => ev = .returned (.bool false) ∧ GrownX t.block w w' ∧ w'.cell? t = some (old) ∧ w'.frozen? t = false := by
  have hVo := @run_callFunc_extern Tryd.prog 24 _ (fun args => ReflectliteValue.unpack (args.getD 0 (.tuple #[]))) Tryd.func24 (by kernel_rfl) (by kernel_rfl) (by kernel_rfl) (by kernel_rfl)
  have hVt := @run_callFunc_extern Tryd.prog 25 _ (ReflectliteValue.methodAny (ReflectliteValue.valueError "reflectlite.Value.Type" 0) (fun t _ _ _ => ReflectliteType.toType t)) Tryd.func25 (by kernel_rfl) (by kernel_rfl) (by kernel_rfl) (by kernel_rfl)
  have hVn := @run_callFunc_extern Tryd.prog 26 _ (ReflectliteValue.method (ReflectliteValue.valueError "reflectlite.Value.IsNil" 0) ReflectliteValue.isNil) Tryd.func26 (by kernel_rfl) (by kernel_rfl) (by kernel_rfl) (by kernel_rfl)
  have hTk := @run_callFunc_extern Tryd.prog 67 _ (ReflectliteType.abiMethod fun t => do pure (.int .u8 (← Rtype.kind t))) Tryd.func67 (by kernel_rfl) (by kernel_rfl) (by kernel_rfl) (by kernel_rfl)
  have hRe := @run_callFunc_extern Tryd.prog 80 _ (ReflectliteType.method ReflectliteType.elem) Tryd.func80 (by kernel_rfl) (by kernel_rfl) (by kernel_rfl) (by kernel_rfl)
  have hRi := @run_callFunc_extern Tryd.prog 81 _ (ReflectliteType.relation "Implements" ReflectliteType.implements_) Tryd.func81 (by kernel_rfl) (by kernel_rfl) (by kernel_rfl) (by kernel_rfl)
  have mK := mKind
  have mE := mElem
  have mI := mImpl
  have f1 := valueOfP_
  have f2 := typeP_
  have f3 := kindP_
  have f4 := kindPt
  have f5 := elemTP_
  have f6 := implP
  have hgl : (0 : Nat) < w.heap.size := World.block_lt_of_cell? w _ hg
  have htl : t.block < w.heap.size := World.block_lt_of_cell? w t ht
  have n8 := isNilP ⟨w.heap.size, 0, none⟩ t ((w.alloc (.cells #[.pointer (some t)] 46)).alloc (.cells #[.pointer (some ⟨5, 46, none⟩), .pointer (some ⟨w.heap.size, 0, none⟩), .int .u64 150] 56)) (by rw [World.cell?_alloc_lt _ _ ⟨w.heap.size, 0, none⟩ (by simp)]; simp)
  have hg2 : (((w.alloc (.cells #[.pointer (some t)] 46)).alloc (.cells #[.pointer (some ⟨5, 46, none⟩), .pointer (some ⟨w.heap.size, 0, none⟩), .int .u64 150] 56))).cell? ⟨0, 0, none⟩ = some (.iface 80 (.agg #[.pointer (some ⟨5, 24, none⟩)])) := by
    rw [World.cell?_alloc_lt _ _ ⟨0, 0, none⟩ (by simp <;> omega), World.cell?_alloc_lt _ _ ⟨0, 0, none⟩ hgl]; exact hg
  have ht2 : (((w.alloc (.cells #[.pointer (some t)] 46)).alloc (.cells #[.pointer (some ⟨5, 46, none⟩), .pointer (some ⟨w.heap.size, 0, none⟩), .int .u64 150] 56))).cell? t = some old := by
    rw [World.cell?_alloc_lt _ _ t (by simp <;> omega), World.cell?_alloc_lt _ _ t htl]; exact ht
  have hf2 : (((w.alloc (.cells #[.pointer (some t)] 46)).alloc (.cells #[.pointer (some ⟨5, 46, none⟩), .pointer (some ⟨w.heap.size, 0, none⟩), .int .u64 150] 56))).frozen? t = false := by
    rw [World.frozen?_alloc_old _ _ t (by simp <;> omega), World.frozen?_alloc_old _ _ t (Nat.ne_of_lt htl)]; exact hf
  have ha2 : (((w.alloc (.cells #[.pointer (some t)] 46)).alloc (.cells #[.pointer (some ⟨5, 46, none⟩), .pointer (some ⟨w.heap.size, 0, none⟩), .int .u64 150] 56))).cell? ⟨w.heap.size, 0, none⟩ = some (.pointer (some t)) := by
    rw [World.cell?_alloc_lt _ _ ⟨w.heap.size, 0, none⟩ (by simp)]; simp
  have key := asP_missS ((w.alloc (.cells #[.pointer (some t)] 46)).alloc (.cells #[.pointer (some ⟨5, 46, none⟩), .pointer (some ⟨w.heap.size, 0, none⟩), .int .u64 150] 56)) t ⟨w.heap.size, 0, none⟩ old ha2 ht2 hf2 sa
  go_enter Tryd.func15, Tryd.ntmps15
  go_wp2_with (first | (go_at_call 27; refine key.mono ?_; rintro e w' ⟨rfl, rfl⟩))
  go_ret
  refine ⟨rfl, (((GrownX.refl t.block w).alloc _).alloc _).alloc _, ?_, ?_⟩
  rotate_left
  · rw [World.frozen?_alloc_old _ _ t (by simp <;> omega)]; exact hf2
  rw [World.cell?_alloc_lt _ _ t (by simp <;> omega)]; exact ht2
set_option maxHeartbeats 40000000 in
theorem AsP_miss (w : World) (t : Addr) (old : Value) (hg : w.cell? ⟨0, 0, none⟩ = some (.iface 80 (.agg #[.pointer (some ⟨5, 24, none⟩)]))) (ht : w.cell? t = some old) (hf : w.frozen? t = false) (n : Int) :
    Calls Tryd.prog 15 #[.iface 29 (.int .i64 n), .iface 46 (.pointer (some t))] w fun ev w' => ev = .returned (.bool false) ∧ GrownX t.block w w' ∧ w'.cell? t = some (old) ∧ w'.frozen? t = false := by
  have hVo := @run_callFunc_extern Tryd.prog 24 _ (fun args => ReflectliteValue.unpack (args.getD 0 (.tuple #[]))) Tryd.func24 (by kernel_rfl) (by kernel_rfl) (by kernel_rfl) (by kernel_rfl)
  have hVt := @run_callFunc_extern Tryd.prog 25 _ (ReflectliteValue.methodAny (ReflectliteValue.valueError "reflectlite.Value.Type" 0) (fun t _ _ _ => ReflectliteType.toType t)) Tryd.func25 (by kernel_rfl) (by kernel_rfl) (by kernel_rfl) (by kernel_rfl)
  have hVn := @run_callFunc_extern Tryd.prog 26 _ (ReflectliteValue.method (ReflectliteValue.valueError "reflectlite.Value.IsNil" 0) ReflectliteValue.isNil) Tryd.func26 (by kernel_rfl) (by kernel_rfl) (by kernel_rfl) (by kernel_rfl)
  have hTk := @run_callFunc_extern Tryd.prog 67 _ (ReflectliteType.abiMethod fun t => do pure (.int .u8 (← Rtype.kind t))) Tryd.func67 (by kernel_rfl) (by kernel_rfl) (by kernel_rfl) (by kernel_rfl)
  have hRe := @run_callFunc_extern Tryd.prog 80 _ (ReflectliteType.method ReflectliteType.elem) Tryd.func80 (by kernel_rfl) (by kernel_rfl) (by kernel_rfl) (by kernel_rfl)
  have hRi := @run_callFunc_extern Tryd.prog 81 _ (ReflectliteType.relation "Implements" ReflectliteType.implements_) Tryd.func81 (by kernel_rfl) (by kernel_rfl) (by kernel_rfl) (by kernel_rfl)
  have mK := mKind
  have mE := mElem
  have mI := mImpl
  have f1 := valueOfP_
  have f2 := typeP_
  have f3 := kindP_
  have f4 := kindPt
  have f5 := elemTP_
  have f6 := implP
  have hgl : (0 : Nat) < w.heap.size := World.block_lt_of_cell? w _ hg
  have htl : t.block < w.heap.size := World.block_lt_of_cell? w t ht
  have n8 := isNilP ⟨w.heap.size, 0, none⟩ t ((w.alloc (.cells #[.pointer (some t)] 46)).alloc (.cells #[.pointer (some ⟨5, 46, none⟩), .pointer (some ⟨w.heap.size, 0, none⟩), .int .u64 150] 56)) (by rw [World.cell?_alloc_lt _ _ ⟨w.heap.size, 0, none⟩ (by simp)]; simp)
  have hg2 : (((w.alloc (.cells #[.pointer (some t)] 46)).alloc (.cells #[.pointer (some ⟨5, 46, none⟩), .pointer (some ⟨w.heap.size, 0, none⟩), .int .u64 150] 56))).cell? ⟨0, 0, none⟩ = some (.iface 80 (.agg #[.pointer (some ⟨5, 24, none⟩)])) := by
    rw [World.cell?_alloc_lt _ _ ⟨0, 0, none⟩ (by simp <;> omega), World.cell?_alloc_lt _ _ ⟨0, 0, none⟩ hgl]; exact hg
  have ht2 : (((w.alloc (.cells #[.pointer (some t)] 46)).alloc (.cells #[.pointer (some ⟨5, 46, none⟩), .pointer (some ⟨w.heap.size, 0, none⟩), .int .u64 150] 56))).cell? t = some old := by
    rw [World.cell?_alloc_lt _ _ t (by simp <;> omega), World.cell?_alloc_lt _ _ t htl]; exact ht
  have hf2 : (((w.alloc (.cells #[.pointer (some t)] 46)).alloc (.cells #[.pointer (some ⟨5, 46, none⟩), .pointer (some ⟨w.heap.size, 0, none⟩), .int .u64 150] 56))).frozen? t = false := by
    rw [World.frozen?_alloc_old _ _ t (by simp <;> omega), World.frozen?_alloc_old _ _ t (Nat.ne_of_lt htl)]; exact hf
  have ha2 : (((w.alloc (.cells #[.pointer (some t)] 46)).alloc (.cells #[.pointer (some ⟨5, 46, none⟩), .pointer (some ⟨w.heap.size, 0, none⟩), .int .u64 150] 56))).cell? ⟨w.heap.size, 0, none⟩ = some (.pointer (some t)) := by
    rw [World.cell?_alloc_lt _ _ ⟨w.heap.size, 0, none⟩ (by simp)]; simp
  have key := asP_miss ((w.alloc (.cells #[.pointer (some t)] 46)).alloc (.cells #[.pointer (some ⟨5, 46, none⟩), .pointer (some ⟨w.heap.size, 0, none⟩), .int .u64 150] 56)) t ⟨w.heap.size, 0, none⟩ old ha2 ht2 hf2 n
  go_enter Tryd.func15, Tryd.ntmps15
  go_wp2_with (first | (go_at_call 27; refine key.mono ?_; rintro e w' ⟨rfl, rfl⟩))
  go_ret
  refine ⟨rfl, (((GrownX.refl t.block w).alloc _).alloc _).alloc _, ?_, ?_⟩
  rotate_left
  · rw [World.frozen?_alloc_old _ _ t (by simp <;> omega)]; exact hf2
  rw [World.cell?_alloc_lt _ _ t (by simp <;> omega)]; exact ht2
end Go.Proofs.YtmdeiacjehhcoaaDoor
namespace Go.Y
open Go.Eng (T RepT RepM SRep Kept Base G SameOn VRep Split Live Free kn Owns ownB RootOk ERep)
variable {P : Program} {I : Ids} {φ : FnP} {β : Base} {e : TypeId}
def rowSt (e : TypeId) (xs : List Int) : St L := ⟨[(0, .ar ⟨1000, 0, 0, 0, []⟩)], [], [(1000, ⟨0, none, [⟨0, .o 1 ⟨.sl e (.int .i64), xs⟩⟩]⟩)]⟩
def Mine (β : Base) (g : G) (w : World) (b : Nat) : Prop := ¬ g.F b ∧ b < w.heap.size ∧ (β.B b ∨ β.w.heap.size ≤ b)
theorem flat_ints (xs : List Int) : Go.Eng.flat (xs.map fun x => one (.int .i64) (trc I φ (.int .i64) x)) = xs.map fun x => T.i .i64 x := by
  induction xs with
  | nil => rfl
  | cons x xs ih =>
    simp only [List.map_cons, Go.Eng.flat, List.flatMap_cons] at ih ⊢
    rw [ih]
    rfl
theorem row_put {st : St L} {ys : List Int} {g : G} {w w' : World} {u : Value} {row : Option Nat} (hc : P.cellsOf e = 1) (ha : Go.Eng.aggOf P e = false) (h : Inv P I φ β st g w) (hg : w.grownBy w' row) (hrow : ∀ b, row = some b → Mine β g w b)
    (ho : Owns w' e 1 u ys.length (ys.map (Value.int .i64))) (hown : ∀ b, ownB u = some b → Mine β g w' b) :
    ∃ g', Inv P I φ β (rowSt e ys) g' w' ∧ ARep P I φ (rowSt e ys) g' w' (.ar ⟨1000, 0, 0, 0, []⟩) u := by
  refine ⟨⟨g.F, fun _ b => ownB u = some b, fun _ => 0, fun _ _ => u⟩, ⟨?_, ?_, ?_, ?_, (by first | assumption | exact Inv.gl (by assumption) | exact (RelG.i (by assumption)).gl)⟩, .ar _ _ ⟨_, rfl, Nat.le_refl _, fun _ c hc => ?_⟩ fun _ _ _ _ _ _ _ => rfl⟩
  · have hget : ∀ k r, Go.Eng.get (injS I φ (rowSt e ys)) k = some r → k = 1000 ∧ r = ⟨none, [.o 1 (.sl e false (ys.map fun x => one (.int .i64) (trc I φ (.int .i64) x)))]⟩ := by
      intro k r hr
      by_cases hk : k = 1000
      · subst hk
        exact ⟨rfl, (Option.some.inj hr).symm⟩
      · rw [get_injS, show get (rowSt e ys).sto k = none from by
          show get [(1000, _)] k = none
          rw [get_cons, if_neg (Ne.symm hk)]; rfl] at hr
        cases hr
    refine ⟨fun k r hr => ?_, fun k k' r r' hr hr' b _ _ => ?_, fun k r hr b hb => ?_⟩
    · obtain ⟨rfl, rfl⟩ := hget k r hr
      refine ⟨fun _ he => (nomatch he), fun j b => j = 0 ∧ ownB u = some b, ⟨fun b hb => (nomatch hb), fun j b hb => ⟨hb.2, fun hb => (nomatch hb)⟩, fun j k b h1 h2 => by rw [h1.1, h2.1]⟩, fun j x hj => ?_⟩
      cases j with
      | zero =>
        simp only [List.getElem?_cons_zero, Option.some.injEq] at hj
        subst hj
        refine ⟨u, rfl, ?_⟩
        show RepM P w' g.F 1 (.sl e false (ys.map fun x => one (.int .i64) (trc I φ (.int .i64) x))) u _
        refine ⟨ys.map (Value.int .i64), by rw [hc, List.length_map]; exact ho, fun x hx => ?_, fun _ _ => False, ⟨fun b hb => ⟨rfl, hb⟩, fun j b hb => hb.elim, fun j k b hb => hb.elim⟩, fun j t v hj hv => ?_⟩
        · obtain ⟨y, _, rfl⟩ := List.mem_map.1 hx
          exact ⟨hc.symm, ha.symm⟩
        · rw [flat_ints, List.getElem?_map] at hj
          rw [List.getElem?_map] at hv
          cases hy : ys[j]? with
          | none => rw [hy] at hj; cases hj
          | some y =>
            rw [hy] at hj hv
            simp only [Option.map_some, Option.some.injEq] at hj hv
            subst hj; subst hv
            exact .i _ _
      | succ j => simp at hj
    · rw [(hget k r hr).1, (hget k' r' hr').1]
    · exact ⟨(hown b hb).1, (hown b hb).2.1⟩
  · refine ⟨hg.os.trans h.k.os, hg.tape.trans h.k.tape, hg.output.trans h.k.output, Nat.le_trans h.k.size hg.size, fun b hb hB => ?_, h.k.F, h.k.F', fun k r _ b hb => (hown b hb).2.2⟩
    rw [hg.block b (Nat.lt_of_lt_of_le hb h.k.size) fun hr => ?_]
    · exact h.k.block b hb hB
    · rcases (hrow b hr.symm).2.2 with h1 | h1
      · exact hB h1
      · exact absurd hb (Nat.not_lt.2 h1)
  · intro k r c l hk hcm hce
    by_cases h1 : k = 1000
    · subst h1
      have := Option.some.inj hk
      subst this
      simp only [List.mem_singleton] at hcm
      subst hcm
      cases hce
    · rw [show get (rowSt e ys).sto k = none from by
        show get [(1000, _)] k = none
        rw [get_cons, if_neg (Ne.symm h1)]; rfl] at hk
      cases hk
  · exact fun b hb => Nat.lt_of_lt_of_le (h.f b hb) hg.size
  · have : some (⟨0, .o 1 ⟨.sl e (.int .i64), ys⟩⟩ : Cell L) = some c := hc
    simp only [Option.some.injEq] at this
    subst this
    exact Nat.le_refl _
end Go.Y
namespace Go.Y
open Go.Eng (T RepT RepM SRep Kept Base G SameOn VRep)
variable {P : Program} {I : Ids}
def leafOut (B : Ty) : St Ty := ⟨[(0, .lf B)], [], []⟩
theorem FnOk.grown {φ : FnP} {f : FuncId} {ts : List Ty} {B : Ty} {F : (tupTy ts).den → Option B.den} (hfn : ∃ fn, P.funcs[f]? = some fn ∧ (fn.name == "runtime.NumGoroutine") = false ∧ fn.body.isNone = false)
    (run : ∀ x r, F x = some r → ∀ vs, (tupL vs).as (tupTy ts) = some x → vs.map (·.ty) = ts → ∀ (w : World) (Fr : Nat → Prop) (us : Array Value), GlobW I w → (∀ b, Fr b → b < w.heap.size) → us.size = vs.length →
      (∀ (j : Nat) v, vs[j]? = some v → ∃ u, us[j]? = some u ∧ RepT P w Fr (trL I φ v) u) →
      Calls P f us w fun e w' => ∃ u F', e = .returned u ∧ Grown w w' Fr F' ∧ RepT P w' F' (trL I φ ⟨B, r⟩) u) :
    FnOk P I φ f ⟨lfState ts, leafOut B, false, [], ⟨[], [], [], []⟩, none⟩ ⟨tupTy ts, B, F⟩ := by
  refine FnOk.mk0 rfl hfn rfl (fun x r hF vs hx hty β w g us hinv hus hrep => ?_)
  have hlf : ∀ ts : List Ty, leafs (lfState ts) = ts := by
    intro ts
    have : ∀ (n : Nat) (ts : List Ty), leafs.go1 (lfState.zipL n ts) = ts := by
      intro n ts
      induction ts generalizing n with
      | nil => rfl
      | cons t r ih => simp only [lfState.zipL, leafs.go1, leafsA, ih]; rfl
    show leafs.go1 (lfState.zipL 0 ts) ++ leafs.go2 [] = _
    rw [this]; simp [leafs.go2]
  have hty : vs.map (·.ty) = ts := hty.trans (hlf ts)
  subst hty
  have hfill : fill (lfState (vs.map (·.ty))) vs = ⟨zipN 0 (vs.map .lf), [], []⟩ := fill_lfState vs
  have hinv : Inv P I φ β (fill (lfState (vs.map (·.ty))) vs) g w := hinv
  have hus : us.size = (lfState (vs.map (·.ty))).env.length := hus
  have hrep : ∀ (j : Nat) x, get (fill (lfState (vs.map (·.ty))) vs).env j = some x → ∃ u, us[j]? = some u ∧ ARep P I φ (fill (lfState (vs.map (·.ty))) vs) g w x u := hrep
  rw [hfill] at hinv hrep
  refine (run x r hF vs hx rfl w g.F us hinv.globW hinv.f (by rw [hus]; simp [lfState, zipL_len]) (fun j v hj => ?_)).mono fun e w' ⟨u, F', he, hg, hr⟩ => ?_
  · obtain ⟨u, hu, h⟩ := hrep j (.lf v) (by
      simp only [zipN_get, Nat.zero_le, if_true, Nat.sub_zero, List.getElem?_map, hj, Option.map_some])
    exact ⟨u, hu, arep_lf h⟩
  · obtain ⟨h1, h2⟩ := inv_grown' hinv hg
    refine ⟨u, he, { g with F := F' }, [⟨B, r⟩], fun c => rfl, ?_, ?_, ?_⟩
    · exact h2.env [(0, .lf ⟨B, r⟩)] []
    · intro y hy
      have hy : some (AV.lf ⟨B, r⟩) = some y := hy
      cases hy
      exact .lf _ _ hr
    · intro i p z u' hi
      exact absurd hi (by simp)
where
  inv_grown' {φ : FnP} {β : Base} {st : St L} {g : G} {w w' : World} {F' : Nat → Prop} (h : Inv P I φ β st g w) (hg : Grown w w' g.F F') : Pass P I φ st g w st { g with F := F' } w' ∧ Inv P I φ β st { g with F := F' } w' := inv_grown h hg
theorem rep_ints {φ : FnP} {w : World} {F : Nat → Prop} {e : TypeId} {l : List Int} {u : Value} (h : RepT P w F (trL I φ ⟨.sl e (.int .i64), l⟩) u) :
    (l = [] ∧ ∃ base cap, u = .slice base 0 cap) ∨ ∃ b off cap, u = .slice (some ⟨b, off, none⟩) l.length cap ∧ l.length ≤ cap ∧ (l ≠ [] → F b) ∧ ∀ (j : Nat) x, l[j]? = some x → w.cell? ⟨b, off + j, none⟩ = some (.int .i64 x) := by
  have h : RepT P w F (.sl e false (l.map fun x => one (.int .i64) (trc I φ (.int .i64) x))) u := h
  generalize hx : (l.map fun x => one (.int .i64) (trc I φ (.int .i64) x)) = xs at h
  cases h with
  | nsl => exact .inl ⟨List.map_eq_nil_iff.1 hx, none, 0, rfl⟩
  | esl _ _ b cap => exact .inl ⟨List.map_eq_nil_iff.1 hx, some b, cap, rfl⟩
  | sl _ _ _ b off cap us hF hs hl hc hr =>
    subst hx
    rw [List.length_map] at hl
    refine .inr ⟨b, off, cap, by rw [List.length_map], hl, fun hne => hF (by simpa using hne), fun j x hj => ?_⟩
    have hj' : (Go.Eng.flat (l.map fun x => one (.int .i64) (trc I φ (.int .i64) x)))[j]? = some (.i .i64 x) := by rw [flat_ints]; simp [hj]
    rw [hc j _ hj']
    have := hr j _ hj'
    generalize us j = u at this
    cases this; rfl
theorem give_ints {φ : FnP} {w : World} {F : Nat → Prop} {base : Nat} {e : TypeId} {l : List Int} {u : Value} (hc : P.cellsOf e = 1) (ha : Go.Eng.aggOf P e = false) (h : w.ownsRow base e 1 u l.length (l.map (Value.int .i64))) :
    RepT P w (fun b => F b ∨ u.ownBlock = some b) (trL I φ ⟨.sl e (.int .i64), l⟩) u := by
  show RepT P w _ (.sl e false (l.map fun x => one (.int .i64) (trc I φ (.int .i64) x))) u
  have hfit : ∀ x ∈ l.map (fun x => one (.int .i64) (trc I φ (.int .i64) x)), Go.Eng.Fits P e x := by
    intro x hx
    obtain ⟨n, _, rfl⟩ := List.mem_map.1 hx
    exact ⟨hc.symm, ha.symm⟩
  rcases h.2 with ⟨hv, hn⟩ | ⟨g, cap, cur, hv, hb, hgg, hle, hmx, hsz, hcur⟩
  · have : l = [] := List.eq_nil_of_length_eq_zero hn
    subst this; subst hv
    exact .nsl _ _
  · subst hv
    have hcell : ∀ (j : Nat) x, l[j]? = some x → w.cell? ⟨g, j, none⟩ = some (.int .i64 x) := by
      intro j x hj
      have := h.cells (g := g) rfl j (.int .i64 x) (by simp [hj])
      rwa [show (⟨g, 0, none⟩ : Addr).add j = ⟨g, j, none⟩ by unfold Addr.add; split <;> simp_all] at this
    have := RepT.sl (P := P) (w := w) (F := fun b => F b ∨ (Value.slice (some ⟨g, 0, none⟩) l.length cap).ownBlock = some b) e false (l.map fun x => one (.int .i64) (trc I φ (.int .i64) x)) g 0 cap (fun j => .int .i64 (l.getD j 0)) (fun _ => .inr rfl) hfit (by rw [List.length_map]; exact hle)
      (fun j t hj => by
        rw [flat_ints, List.getElem?_map] at hj
        cases hl : l[j]? with
        | none => rw [hl] at hj; cases hj
        | some x =>
          rw [Nat.zero_add, hcell j x hl, List.getD_eq_getElem?_getD, hl]; rfl)
      (fun j t hj => by
        rw [flat_ints, List.getElem?_map] at hj
        cases hl : l[j]? with
        | none => rw [hl] at hj; cases hj
        | some x =>
          rw [hl] at hj
          have hj : some (T.i .i64 x) = some t := hj
          cases hj
          rw [List.getD_eq_getElem?_getD, hl]
          exact .i _ _)
    rwa [List.length_map] at this
theorem GrownX.grown {w w' : World} (h : GrownX w.heap.size w w') {F F' : Nat → Prop} (h1 : ∀ b, F b → F' b) (h2 : ∀ b, F' b → F b ∨ (w.heap.size ≤ b ∧ b < w'.heap.size)) : Grown w w' F F' :=
  ⟨h.os, h.tape, h.output, h.size, fun b hb => h.block b hb (by omega), h1, h2⟩
end Go.Y
noncomputable section
namespace Go.Proofs.YtmdeiacjehhcoaaDoor
open Go.RowKit Go.Extern.Stop Go.Stop Go.Extern Go.Y
open Go.Eng (RepT T)
set_option maxHeartbeats 40000000 in
theorem Kind_call (w : World) (F : Nat → Prop) (hF : ∀ b, F b → b < w.heap.size) (hg : w.cell? ⟨0, 0, none⟩ = some (.iface 80 (.agg #[.pointer (some ⟨5, 24, none⟩)]))) (e : Err) (v : Value) (he : errAny e = true) (hv : RepT Tryd.prog w F (trE ids e) v) :
    Calls Tryd.prog 9 #[v] w fun ev w' => GrownX w.heap.size w w' ∧ ∃ k, zKindT e = some k ∧ ev = .returned (.int .i64 k) := by
  by_cases hnil : e = .nil
  · subst hnil
    obtain rfl := rep_nil hv
    go_enter Tryd.func9, Tryd.ntmps9
    go_wp2
    go_ret
    exact ⟨GrownX.refl _ _, 0, rfl, rfl⟩
  · have hgl : (0 : Nat) < w.heap.size := World.block_lt_of_cell? w _ hg
    have hg1 : (w.alloc (.cells #[.int .i64 0] 29)).cell? ⟨0, 0, none⟩ = some (.iface 80 (.agg #[.pointer (some ⟨5, 24, none⟩)])) := by rw [World.cell?_alloc_lt _ _ ⟨0, 0, none⟩ hgl]; exact hg
    have ht1 : (w.alloc (.cells #[.int .i64 0] 29)).cell? ⟨w.heap.size, 0, none⟩ = some (.int .i64 0) := by simp
    have hf1 : (w.alloc (.cells #[.int .i64 0] 29)).frozen? ⟨w.heap.size, 0, none⟩ = false := by simp
    have hv1 : RepT Tryd.prog (w.alloc (.cells #[.int .i64 0] 29)) F (trE ids e) v := hv.mono (F' := F) (fun b hb hl => Go.RowKit.Below.heap_alloc _ _ b hl) (fun b hb => hb)
    have hF1 : ∀ b, F b → b < (w.alloc (.cells #[.int .i64 0] 29)).heap.size := fun b hb => by have := hF b hb; simp <;> omega
    have hgr : ∀ w', GrownX w.heap.size (w.alloc (.cells #[.int .i64 0] 29)) w' → GrownX w.heap.size w w' := fun w' h =>
      ⟨h.os, h.tape, h.output, by have := h.size; simp at this; omega, fun b hb hne => by rw [h.block b (by simp <;> omega) hne]; exact Go.RowKit.Below.heap_alloc _ _ b hb⟩
    obtain ⟨tt, x, rfl⟩ : ∃ tt x, v = .iface tt x := by
      rcases rep_head he hv with ⟨_, h⟩ | ⟨tt, x, h, _⟩
      · exact absurd h hnil
      · exact ⟨tt, x, h⟩
    cases hn : eNum e with
    | some n =>
      have key := AsE_hit (w.alloc (.cells #[.int .i64 0] 29)) ⟨w.heap.size, 0, none⟩ _ hg1 ht1 hf1 n F hF1 e _ he hnil hv1 hn
      go_enter Tryd.func9, Tryd.ntmps9
      go_wp2_with (first | (go_at_call 15; refine key.mono ?_; rintro ev w' ⟨rfl, hgx, hcc, hff⟩))
      go_ret
      refine ⟨hgr _ hgx, n, ?_, rfl⟩
      unfold zKindT
      rw [he]
      cases e with
      | nil => exact absurd rfl hnil
      | txt s => cases hn
      | no m => simp only; rw [hn]
      | «at» m e => simp only; rw [hn]
    | none =>
      have key := AsE_miss (w.alloc (.cells #[.int .i64 0] 29)) ⟨w.heap.size, 0, none⟩ _ hg1 ht1 hf1 F hF1 e _ he hnil hv1 hn
      go_enter Tryd.func9, Tryd.ntmps9
      go_wp2_with (first | (go_at_call 15; refine key.mono ?_; rintro ev w' ⟨rfl, hgx, hcc, hff⟩))
      go_ret
      refine ⟨hgr _ hgx, 21, ?_, rfl⟩
      unfold zKindT
      rw [he]
      cases e with
      | nil => exact absurd rfl hnil
      | txt s => simp only; rw [hn]
      | no m => cases hn
      | «at» m e => simp only; rw [hn]
theorem glob (w : World) (h : GlobW ids w) : w.cell? ⟨0, 0, none⟩ = some (.iface 80 (.agg #[.pointer (some ⟨5, 24, none⟩)])) := h _ (.head _)
def b9 : BF Tryd.prog ids := ⟨9, ⟨lfState [.err], leafOut (.int .i64), false, [], ⟨[], [], [], []⟩, none⟩, .err, .int .i64, fun _ => zKindT, fun _ => FnOk.grown (ts := [.err]) (B := .int .i64) (F := zKindT) ⟨_, Tryd.func9, by kernel_rfl, by kernel_rfl⟩ (fun (x : Err) (r : Int) hF vs hx hty w Fr us hgw hFr hus hrep => by
  have h1 : vs.length = 1 := by have := congrArg List.length hty; rwa [List.length_map] at this
  obtain ⟨v, rfl⟩ := List.length_eq_one_iff.1 h1
  have hv := as_some (show v.as .err = some x from hx)
  subst hv
  obtain ⟨u, hu, hr⟩ := hrep 0 _ rfl
  have hus2 : us = #[u] := by
    apply Array.ext_getElem?
    intro j
    match j with
    | 0 => rw [hu]; rfl
    | j + 1 => rw [Array.getElem?_eq_none (by rw [hus]; simp), Array.getElem?_eq_none (by simp)]
  subst hus2
  have he : errAny x = true := by
    cases hb : errAny x with
    | true => rfl
    | false => unfold zKindT at hF; rw [hb] at hF; cases hF
  refine (Kind_call w Fr hFr (glob w hgw) x u he hr).mono fun ev w' ⟨hgx, k, hk, hev⟩ => ?_
  rw [hF, Option.some.injEq] at hk
  subst hk
  exact ⟨_, Fr, hev, hgx.grown (fun b hb => hb) (fun b hb => .inl hb), .i _ _⟩)⟩
theorem eAt_cons (e : Err) (l : List Int) (k : Nat) (x : Int) (h : l[k]? = some x) : (l.drop k).foldr Err.at e = .at x ((l.drop (k + 1)).foldr Err.at e) := by
  have hk := (List.getElem?_eq_some_iff.1 h).1
  rw [List.drop_eq_getElem_cons hk, List.foldr_cons]
  rw [List.getElem?_eq_getElem hk, Option.some.injEq] at h
  rw [h]
theorem errOk_foldr {e : Err} (he : errAny e = true) : ∀ l : List Int, errAny (l.foldr Err.at e) = true
  | [] => he
  | _ :: r => errOk_foldr he r
theorem foldr_nil {e : Err} (he : e ≠ .nil) : ∀ l : List Int, l.foldr Err.at e ≠ .nil
  | [] => he
  | _ :: _ => fun h => by cases h
set_option maxHeartbeats 40000000 in
theorem At_call (w : World) (F : Nat → Prop) (hF : ∀ b, F b → b < w.heap.size) (e : Err) (v : Value) (hv : RepT Tryd.prog w F (trE ids e) v) (he : errAny e = true) (hnil : e ≠ .nil) (l : List Int) (b off cap : Nat) (hle : l.length ≤ cap)
    (hcell : ∀ (j : Nat) x, l[j]? = some x → w.cell? ⟨b, off + j, none⟩ = some (.int .i64 x)) (hlen : l.length ≤ 4611686018427387904) :
    Calls Tryd.prog 14 #[v, .slice (some ⟨b, off, none⟩) l.length cap] w fun ev w' => ∃ u F', ev = .returned u ∧ Grown w w' F F' ∧ RepT Tryd.prog w' F' (trE ids (l.foldr Err.at e)) u := by
  obtain ⟨tt, x, rfl⟩ : ∃ tt x, v = .iface tt x := by
    rcases rep_head he hv with ⟨_, h⟩ | ⟨tt, x, h, _⟩
    · exact absurd h hnil
    · exact ⟨tt, x, h⟩
  go_enter Tryd.func14, Tryd.ntmps14
  go_wp2
  refine wp_loop_rounds (l.length + 1) ?_
  refine (?key : ∀ (k : Nat), k ≤ l.length → ∀ (w' : World) (F' : Nat → Prop) (v : Value), Go.Y.Grown w w' F F' → RepT Tryd.prog w' F' (trE ids ((l.drop k).foldr Err.at e)) v → ∀ y2 y3 y4 y6 y7 y8 y9 y10 y11 y12 y13 y14 y15 y16 y17 y18 y19 y20 y21 y22 y23 : Value, Code.rounds Tryd.prog _ _ (k + 1) ⟨#[v, .slice (some ⟨b, off, none⟩) l.length cap, y2, y3, y4, .int .i64 ((k : Int) - 1), y6, y7, y8, y9, y10, y11, y12, y13, y14, y15, y16, y17, y18, y19, y20, y21, y22, y23], []⟩ w') l.length (Nat.le_refl _) w F _ ⟨rfl, rfl, rfl, Nat.le_refl _, fun _ _ => rfl, fun _ h => h, fun _ h => .inl h⟩ (by rw [List.drop_length]; exact hv) _ _ _ _ _ _ _ _ _ _ _ _ _ _ _ _ _ _ _ _ _
  intro k
  induction k with
  | zero =>
    intro _ w' F' v hgr hv y2 y3 y4 y6 y7 y8 y9 y10 y11 y12 y13 y14 y15 y16 y17 y18 y19 y20 y21 y22 y23
    rw [rounds_succ]
    go_wp2
    go_ret
    exact ⟨_, F', rfl, hgr, hv⟩
  | succ k ih =>
    intro hk w' F' v hgr hv y2 y3 y4 y6 y7 y8 y9 y10 y11 y12 y13 y14 y15 y16 y17 y18 y19 y20 y21 y22 y23
    have hkl : k < l.length := by omega
    have hx : l[k]? = some l[k] := List.getElem?_eq_getElem hkl
    have hc := hcell k _ hx
    have hbl : b < w.heap.size := World.block_lt_of_cell? w _ hc
    have hc' : w'.cell? ⟨b, off + k, none⟩ = some (.int .i64 l[k]) := by rw [World.cell?_of_block (hgr.block b hbl)]; exact hc
    obtain ⟨tt, x, rfl⟩ : ∃ tt x, v = .iface tt x := by
      rcases rep_head (errOk_foldr he (l.drop (k + 1))) hv with ⟨_, h⟩ | ⟨tt, x, h, _⟩
      · exact absurd h (foldr_nil hnil _)
      · exact ⟨tt, x, h⟩
    rw [show (((k + 1 : Nat) : Int) - 1) = (k : Int) by omega]
    rw [rounds_succ]
    go_wp2
    refine ih (by omega) (w'.alloc (.cells #[.int .i64 l[k], .iface tt x] 48)) (fun c => F' c ∨ c = w'.heap.size) _ ⟨hgr.os, hgr.tape, hgr.output, Nat.le_trans hgr.size (by simp), fun c hc => by rw [← hgr.block c hc]; exact Go.RowKit.Below.heap_alloc _ _ c (Nat.lt_of_lt_of_le hc hgr.size), fun c hc => .inl (hgr.more c hc), fun c hc => ?_⟩ ?_ _ _ _ _ _ _ _ _ _ _ _ _ _ _ _ _ _ _ _ _ _
    · rcases hc with hc | rfl
      · rcases hgr.new c hc with h | h
        · exact .inl h
        · exact .inr ⟨h.1, by simp <;> omega⟩
      · exact .inr ⟨hgr.size, by simp⟩
    · rw [eAt_cons e l k _ hx]
      have hF' : ∀ c, F' c → c < w'.heap.size := fun c hc => by
        rcases hgr.new c hc with h | h
        · exact Nat.lt_of_lt_of_le (hF c h) hgr.size
        · exact h.2
      have hv2 := hv.mono (w' := w'.alloc (.cells #[.int .i64 l[k], .iface tt x] 48)) (F' := fun c => F' c ∨ c = w'.heap.size) (fun c _ hl => Go.RowKit.Below.heap_alloc _ _ c hl) (fun c hc => .inl hc)
      refine .ifc _ _ _ (.p _ _ w'.heap.size 0 (fun j => if j = 0 then .int .i64 l[k] else .iface tt x) (.inr rfl) ⟨by kernel_rfl, by kernel_rfl⟩ (fun j t hj => ?_) (fun j t hj => ?_))
      · match j with
        | 0 => simp
        | 1 => simp
        | j + 2 => simp [T.cells] at hj
      · match j with
        | 0 => simp [T.cells] at hj; subst hj; exact .i _ _
        | 1 => simp [T.cells] at hj; subst hj; exact hv2
        | j + 2 => simp [T.cells] at hj
set_option maxHeartbeats 4000000 in
theorem At_none (w : World) (tt : TypeId) (x : Value) (base : Option Addr) (cap : Nat) : Calls Tryd.prog 14 #[.iface tt x, .slice base 0 cap] w fun ev w' => ev = .returned (.iface tt x) ∧ w' = w := by
  go_enter Tryd.func14, Tryd.ntmps14
  go_wp2
  refine wp_loop_rounds 1 ?_
  rw [rounds_succ]
  go_wp2
  go_ret
  exact ⟨rfl, rfl⟩
set_option maxHeartbeats 4000000 in
theorem At_nil (w : World) (us : Value) : Calls Tryd.prog 14 #[.nilIface, us] w fun ev w' => ev = .returned .nilIface ∧ w' = w := by
  go_enter Tryd.func14, Tryd.ntmps14
  go_wp2
  go_ret
  exact ⟨rfl, rfl⟩
theorem two_args {us : Array Value} {u0 u1 : Value} (h0 : us[0]? = some u0) (h1 : us[1]? = some u1) (hs : us.size = 2) : us = #[u0, u1] := by
  apply Array.ext_getElem?
  intro j
  match j with
  | 0 => rw [h0]; rfl
  | 1 => rw [h1]; rfl
  | j + 2 => rw [Array.getElem?_eq_none (by omega), Array.getElem?_eq_none (by simp)]
def b100014 : BF Tryd.prog ids := ⟨100014, ⟨lfState [.err, .sl 3 (.int .i64)], leafOut .err, false, [], ⟨[], [], [], []⟩, none⟩, .pair .err (.sl 3 (.int .i64)), .err, fun _ x => zAtT x.1 x.2, fun _ => FnOk.grown (ts := [.err, .sl 3 (.int .i64)]) (B := .err) (F := fun x => zAtT x.1 x.2) ⟨_, Tryd.func14, by kernel_rfl, by kernel_rfl⟩ (fun (x : Err × List Int) (r : Err) hF vs hx hty w Fr us hgw hFr hus hrep => by
  have h2 : vs.length = 2 := by have := congrArg List.length hty; rwa [List.length_map] at this
  obtain ⟨v, v', rfl⟩ : ∃ a b, vs = [a, b] := (match vs, h2 with | [a, b], _ => ⟨a, b, rfl⟩)
  have hty' : v.ty = .err ∧ v'.ty = .sl 3 (.int .i64) := by simpa using hty
  obtain ⟨vt, vv⟩ := v
  obtain ⟨vt', vv'⟩ := v'
  obtain ⟨h3, h4⟩ := hty'
  simp only at h3 h4
  subst h3; subst h4
  have hx := as_some hx
  have hx : (⟨.pair .err (.sl 3 (.int .i64)), (vv, vv')⟩ : L) = ⟨.pair .err (.sl 3 (.int .i64)), x⟩ := hx
  have hx : (vv, vv') = x := eq_of_heq (L.mk.inj hx).2
  subst hx
  obtain ⟨u, hu, hr⟩ := hrep 0 _ rfl
  obtain ⟨u', hu', hr'⟩ := hrep 1 _ rfl
  obtain rfl := two_args hu hu' hus
  have hF : zAtT vv vv' = some r := hF
  unfold zAtT at hF
  cases he : errAny vv with
  | false => rw [he] at hF; cases hF
  | true =>
    cases hl : decide ((vv' : List Int).length ≤ 4611686018427387904) with
    | false => rw [he, hl] at hF; cases hF
    | true =>
      rw [he, hl] at hF
      have hF : some (eAt vv vv') = some r := hF
      obtain rfl := Option.some.inj hF
      have hl := of_decide_eq_true hl
      have hr : RepT Tryd.prog w Fr (trE ids vv) u := hr
      by_cases hnil : vv = .nil
      · subst hnil
        obtain rfl := rep_nil hr
        exact (At_nil w u').mono fun ev w' ⟨h1, h2⟩ => by
          subst h2
          exact ⟨_, Fr, h1, ⟨rfl, rfl, rfl, Nat.le_refl _, fun _ _ => rfl, fun _ h => h, fun _ h => .inl h⟩, .ni⟩
      · have heq : eAt vv vv' = (vv' : List Int).foldr Err.at vv := by
          cases vv with
          | nil => exact absurd rfl hnil
          | no n => rfl
          | «at» n e => rfl
          | txt s => rfl
        rw [heq]
        obtain ⟨tt, y, rfl⟩ : ∃ tt x, u = .iface tt x := by
          rcases rep_head he hr with ⟨_, h⟩ | ⟨tt, x, h, _⟩
          · exact absurd h hnil
          · exact ⟨tt, x, h⟩
        rcases rep_ints hr' with ⟨hl0, base, cap, rfl⟩ | ⟨b, off, cap, rfl, h1, h2, h3⟩
        · have hl0 : (vv' : List Int) = [] := hl0
          rw [hl0]
          exact (At_none w tt y base cap).mono fun ev w' ⟨h1, h2⟩ => by
            subst h2
            exact ⟨_, Fr, h1, ⟨rfl, rfl, rfl, Nat.le_refl _, fun _ _ => rfl, fun _ h => h, fun _ h => .inl h⟩, hr⟩
        · exact At_call w Fr hFr vv _ hr he hnil vv' b off cap h1 h3 hl)⟩
end Go.Proofs.YtmdeiacjehhcoaaDoor
namespace Go.Y
def rowRoot (e : TypeId) : Nat × Root Ty := (1000, ⟨0, none, [⟨0, .o 1 (.sl e (.int .i64))⟩]⟩)
def rowArg (e : TypeId) : St Ty := ⟨[(0, .ar ⟨1000, 0, 0, 0, []⟩)], [], [rowRoot e]⟩
def rowRoot1 (e : TypeId) : Nat × Root Ty := (1001, ⟨0, none, [⟨0, .o 1 (.sl e (.int .i64))⟩]⟩)
def atSigO (e : TypeId) : Sig := { ins := ⟨[(0, .lf .err), (1, .ar ⟨1001, 0, 0, 0, []⟩)], [], [rowRoot1 e]⟩, out := ⟨[(0, .lf .err), (1, .ar ⟨1001, 0, 0, 0, []⟩)], [], [rowRoot1 e]⟩, many := false, keep := [1], h := { live := [0, 1], co := [1], add := [], low := [(1001, 0, 1)] } }
def pathSigO (e : TypeId) : Sig := { ins := ⟨[(0, .lf .err)], [], []⟩, out := rowArg e, many := false, keep := [], h := default }
end Go.Y
namespace Go.Y
open Go.Eng (T RepT RepM SRep Kept Base G SameOn VRep Split Live Free kn Owns ownB RootOk ERep)
variable {P : Program} {I : Ids} {φ : FnP} {e : TypeId} {f : FuncId}
end Go.Y
namespace Go.Y
open Go.Eng (T RepT RepM SRep Kept Base G SameOn VRep Split Live Free kn Owns ownB RootOk ERep)
variable {P : Program} {I : Ids} {φ : FnP} {e : TypeId} {f : FuncId}
def atConO (e : TypeId) : Con := ⟨.pair .err (.sl e (.int .i64)), .pair .err (.sl e (.int .i64)), fun x => zAtO x.1 x.2⟩
def pathConO (e : TypeId) : Con := ⟨.err, .sl e (.int .i64), zPathT⟩
theorem args2 {us : Array Value} {u0 u1 : Value} (h0 : us[0]? = some u0) (h1 : us[1]? = some u1) (hs : us.size = 2) : us = #[u0, u1] := by
  apply Array.ext_getElem?
  intro j
  match j with
  | 0 => rw [h0]; rfl
  | 1 => rw [h1]; rfl
  | j + 2 => rw [Array.getElem?_eq_none (by omega), Array.getElem?_eq_none (by simp)]
theorem args1 {us : Array Value} {u0 : Value} (h0 : us[0]? = some u0) (hs : us.size = 1) : us = #[u0] := by
  apply Array.ext_getElem?
  intro j
  match j with
  | 0 => rw [h0]; rfl
  | j + 1 => rw [Array.getElem?_eq_none (by omega), Array.getElem?_eq_none (by simp)]
theorem vals2 {A B : Ty} {vs : List L} {x : A.den × B.den} (hx : (tupL vs).as (.pair A B) = some x) (hty : vs.map (·.ty) = [A, B]) : vs = [⟨A, x.1⟩, ⟨B, x.2⟩] := by
  have h2 : vs.length = 2 := by have := congrArg List.length hty; rwa [List.length_map] at this
  obtain ⟨v, v', rfl⟩ : ∃ a b, vs = [a, b] := (match vs, h2 with | [a, b], _ => ⟨a, b, rfl⟩)
  have hty' : v.ty = A ∧ v'.ty = B := by simpa using hty
  obtain ⟨vt, vv⟩ := v
  obtain ⟨vt', vv'⟩ := v'
  obtain ⟨h3, h4⟩ := hty'
  simp only at h3 h4
  subst h3; subst h4
  have hx := as_some hx
  have hx : (⟨.pair vt vt', (vv, vv')⟩ : L) = ⟨.pair vt vt', x⟩ := hx
  have hx : (vv, vv') = x := eq_of_heq (L.mk.inj hx).2
  subst hx
  rfl
theorem vals1 {A : Ty} {vs : List L} {x : A.den} (hx : (tupL vs).as A = some x) (hty : vs.map (·.ty) = [A]) : vs = [⟨A, x⟩] := by
  have h2 : vs.length = 1 := by have := congrArg List.length hty; rwa [List.length_map] at this
  obtain ⟨v, rfl⟩ := List.length_eq_one_iff.1 h2
  have := as_some (show v.as A = some x from hx)
  rw [this]
def rowSt1 (e : TypeId) (xs : List Int) : St L := ⟨[(0, .ar ⟨1001, 0, 0, 0, []⟩)], [], [(1001, ⟨0, none, [⟨0, .o 1 ⟨.sl e (.int .i64), xs⟩⟩]⟩)]⟩
section
variable {β : Base}
theorem row_get1 {xs : List Int} {g : G} {w : World} {u : Value} (hc : P.cellsOf e = 1) (h : Inv P I φ β (rowSt1 e xs) g w) (hx : ARep P I φ (rowSt1 e xs) g w (.ar ⟨1001, 0, 0, 0, []⟩) u) :
    Owns w e 1 u xs.length (xs.map (Value.int .i64)) ∧ ∀ b, ownB u = some b → Mine β g w b := by
  cases hx with
  | ar _ _ hb hv =>
    have hV := hv ⟨_, rfl, rfl⟩ rfl 1 e false (xs.map fun x => one (.int .i64) (trc I φ (.int .i64) x)) rfl
    have hV : some (g.vv 1001 0) = some u := hV
    obtain ⟨_, Bs, hsp, hcell⟩ := h.s.root 1001 _ rfl
    obtain ⟨u', hu', hrep⟩ := hcell 0 _ rfl
    have hu' : some (g.vv 1001 0) = some u' := hu'
    rw [hV, Option.some.injEq] at hu'
    subst hu'
    have hrep : RepM P w g.F 1 (.sl e false (xs.map fun x => one (.int .i64) (trc I φ (.int .i64) x))) u (Bs 0) := hrep
    obtain ⟨us, ho, _, Bs', hsp', hce⟩ := hrep
    rw [hc, List.length_map] at ho
    have hl : us.length = xs.length := by
      rcases ho with ho | ⟨h1, h2, _⟩
      · rw [ho.1, Nat.mul_one]
      · rw [h1, h2]; rfl
    have hus : us = xs.map (Value.int .i64) := by
      refine List.ext_getElem (by simp [hl]) fun j h1 h2 => ?_
      have h3 := hce j (.i .i64 xs[j]) us[j] (by rw [flat_ints]; simp [show j < xs.length by omega]) (List.getElem?_eq_getElem h1)
      have h3 : RepT P w g.F (.i .i64 xs[j]) us[j] := h3
      rw [List.getElem_map]
      cases hq : us[j] with
      | int k n => rw [hq] at h3; cases h3; rfl
      | _ => rw [hq] at h3; cases h3
    rw [hus] at ho
    refine ⟨ho, fun b hb => ?_⟩
    have h1 := (hsp.2.1 0 b (hsp'.1 b hb)).1
    obtain ⟨h2, h3⟩ := h.s.own 1001 _ rfl b h1
    exact ⟨h2, h3, h.k.B 1001 _ rfl b h1⟩
end
theorem atO_ok (hfn : ∃ fn, P.funcs[f]? = some fn ∧ (fn.name == "runtime.NumGoroutine") = false ∧ fn.body.isNone = false) (hc : P.cellsOf e = 1)
    (hS : ∀ (w : World) (F : Nat → Prop), (∀ b, F b → b < w.heap.size) → ∀ (x : Err) (v : Value), RepT P w F (trE I x) v → ∀ (l : List Int) (u : Value), Owns w e 1 u l.length (l.map (Value.int .i64)) → l.length ≤ 4611686018427387904 →
      Calls P f #[v, u] w fun ev w' => ∃ r F', ev = .returned r ∧ Grown w w' F F' ∧ RepT P w' F' (trE I (eAt x l)) r) : FnOk P I φ f (atSigO e) (atConO e) := by
  refine FnOk.mk0 rfl hfn rfl (fun (x : Err × List Int) (r : Err × List Int) hF vs hx hty β w g us hinv hus hrep => ?_)
  obtain rfl := vals2 (A := .err) (B := .sl e (.int .i64)) hx hty
  obtain ⟨x, l⟩ := x
  have hinv : Inv P I φ β ⟨[(0, .lf ⟨.err, x⟩), (1, .ar ⟨1001, 0, 0, 0, []⟩)], [], (rowSt1 (e := e) l).sto⟩ g w := hinv
  obtain ⟨u0, hu0, hr0⟩ := hrep 0 (.lf ⟨.err, x⟩) rfl
  obtain ⟨u1, hu1, hr1⟩ := hrep 1 (.ar ⟨1001, 0, 0, 0, []⟩) rfl
  obtain rfl := args2 hu0 hu1 hus
  have hr0 : RepT P w g.F (trE I x) u0 := arep_lf hr0
  have hi : Inv P I φ β (rowSt1 e l) g w := hinv.env [(0, .ar ⟨1001, 0, 0, 0, []⟩)] []
  have hr1 : ARep P I φ ⟨[(0, .lf ⟨.err, x⟩), (1, .ar ⟨1001, 0, 0, 0, []⟩)], [], (rowSt1 (e := e) l).sto⟩ g w (.ar ⟨1001, 0, 0, 0, []⟩) u1 := hr1
  obtain ⟨ho, _⟩ := row_get1 hc hi (hr1.env [(0, .ar ⟨1001, 0, 0, 0, []⟩)] [])
  have hF : (match zAtT x l with | some r => some (r, l) | none => none) = some r := hF
  unfold zAtT errAny at hF
  simp only at hF
  cases hl : decide ((l : List Int).length ≤ 4611686018427387904) with
  | false => rw [hl] at hF; cases hF
  | true =>
    rw [hl] at hF
    obtain rfl := Option.some.inj hF
    refine (hS w g.F hinv.f x u0 hr0 l u1 ho (of_decide_eq_true hl)).mono fun ev w' ⟨u, F', h1, h2, h3⟩ => ?_
    obtain ⟨h4, h5⟩ := inv_grown hinv h2
    refine ⟨u, h1, { g with F := F' }, [⟨.err, eAt x l⟩, ⟨.sl e (.int .i64), l⟩], fun _ => rfl, h5.env [(0, .lf ⟨.err, eAt x l⟩), (1, .ar ⟨1001, 0, 0, 0, []⟩)] [], fun y hy => ?_, fun i p z v hi hz hv => ?_⟩
    · have hy : some (AV.lf ⟨.err, eAt x l⟩ : AV L) = some y := hy
      cases hy
      exact .lf _ _ h3
    · cases i with
      | zero =>
        have hi : some 1 = some p := hi
        simp only [Option.some.injEq] at hi
        subst hi
        have hz : some (AV.ar ⟨1001, 0, 0, 0, []⟩ : AV L) = some z := hz
        simp only [Option.some.injEq] at hz
        subst hz
        have hv : some u1 = some v := hv
        simp only [Option.some.injEq] at hv
        subst hv
        exact (h4.a _ _ hr1).env [(0, .lf ⟨.err, eAt x l⟩), (1, .ar ⟨1001, 0, 0, 0, []⟩)] []
      | succ i => simp [atSigO] at hi
theorem pathO_ok (hfn : ∃ fn, P.funcs[f]? = some fn ∧ (fn.name == "runtime.NumGoroutine") = false ∧ fn.body.isNone = false) (hc : P.cellsOf e = 1) (ha : Go.Eng.aggOf P e = false)
    (hS : ∀ (w : World) (F : Nat → Prop), (∀ b, F b → b < w.heap.size) → GlobW I w → ∀ (x : Err) (v : Value), RepT P w F (trE I x) v → (ePath x).length ≤ 17592186044416 →
      Calls P f #[v] w fun ev w' => ∃ o, ev = .returned o ∧ GrownX w.heap.size w w' ∧ w'.ownsRow (w.heap.size + 1) e 1 o (ePath x).length ((ePath x).map (Value.int .i64))) : FnOk P I φ f (pathSigO e) (pathConO e) := by
  refine FnOk.mk0 rfl hfn rfl (fun (x : Err) (r : List Int) hF vs hx hty β w g us hinv hus hrep => ?_)
  obtain rfl := vals1 (A := .err) hx hty
  obtain ⟨u0, hu0, hr0⟩ := hrep 0 (.lf ⟨.err, x⟩) rfl
  obtain rfl := args1 hu0 hus
  have hr0 : RepT P w g.F (trE I x) u0 := arep_lf hr0
  have hF : zPathT x = some r := hF
  unfold zPathT errAny at hF
  simp only at hF
  cases hl : decide ((ePath x).length ≤ 17592186044416) with
  | false => rw [hl] at hF; cases hF
  | true =>
    rw [hl] at hF
    obtain rfl := Option.some.inj hF
    refine (hS w g.F hinv.f hinv.globW x u0 hr0 (of_decide_eq_true hl)).mono fun ev w' ⟨o, h1, h2, h3⟩ => ?_
    have hown : Owns w' e 1 o (ePath x).length ((ePath x).map (Value.int .i64)) := by
      refine .inl ⟨h3.1, h3.2.imp id ?_⟩
      rintro ⟨b, cap, cur, q1, q2, q3⟩
      exact ⟨b, cap, cur, q1, Nat.zero_le _, q3⟩
    obtain ⟨g', h5, h6⟩ := row_put (ys := ePath x) (row := none) hc ha hinv ⟨h2.os, h2.tape, h2.output, h2.size, fun b hb _ => h2.block b hb (Nat.ne_of_lt hb)⟩ (fun b hb => by cases hb) hown (fun b hb => by
      have hb2 : o.ownBlock = some b := by
        unfold ownB at hb
        split at hb
        · exact hb
        · cases hb
      obtain ⟨q1, q2⟩ := h3.lt b hb2
      refine ⟨fun h => ?_, q2, .inr ?_⟩
      · have := hinv.f b h; omega
      · have : β.w.heap.size ≤ w.heap.size := hinv.k.size
        omega)
    refine ⟨o, h1, g', [⟨.sl e (.int .i64), ePath x⟩], fun _ => rfl, h5, fun y hy => ?_, fun i p z v hi hz hv => by simp [pathSigO] at hi⟩
    have hy : some (AV.ar ⟨1000, 0, 0, 0, []⟩ : AV L) = some y := hy
    simp only [Option.some.injEq] at hy
    subst hy
    exact h6
theorem owns_cells {w : World} {u : Value} {l : List Int} (ho : Owns w e 1 u l.length (l.map (Value.int .i64))) :
    (l = [] ∧ ∃ base cap, u = .slice base 0 cap) ∨ ∃ b cap, u = .slice (some ⟨b, 0, none⟩) l.length cap ∧ l.length ≤ cap ∧ ∀ (j : Nat) x, l[j]? = some x → w.cell? ⟨b, 0 + j, none⟩ = some (.int .i64 x) := by
  rcases ho with ho | ⟨h0, _, b, rfl⟩
  · rcases ho.2 with ⟨hv, hn⟩ | ⟨g, cap, cur, hv, hb, hgg, hle, hmx, hsz, hcur⟩
    · exact .inl ⟨List.eq_nil_of_length_eq_zero hn, none, 0, by rw [hv]⟩
    · subst hv
      refine .inr ⟨g, cap, rfl, hle, fun j x hj => ?_⟩
      have := ho.cells (g := g) rfl j (.int .i64 x) (by simp [hj])
      rwa [show (⟨g, 0, none⟩ : Addr).add j = ⟨g, 0 + j, none⟩ by unfold Addr.add; split <;> simp_all] at this
  · exact .inl ⟨List.eq_nil_of_length_eq_zero h0, _, _, rfl⟩
theorem flat_strs (xs : List (List UInt8)) : Go.Eng.flat (xs.map fun x => one .str (trc I φ .str x)) = xs.map fun x => T.s ⟨x.toArray⟩ := by
  induction xs with
  | nil => rfl
  | cons x xs ih =>
    simp only [List.map_cons, Go.Eng.flat, List.flatMap_cons] at ih ⊢
    rw [ih]
    rfl
theorem rep_strs {w : World} {F : Nat → Prop} {e : TypeId} {l : List (List UInt8)} {u : Value} (h : RepT P w F (trL I φ ⟨.sl e .str, l⟩) u) :
    (l = [] ∧ ∃ base cap, u = .slice base 0 cap) ∨ ∃ b off cap, u = .slice (some ⟨b, off, none⟩) l.length cap ∧ l.length ≤ cap ∧ ∀ (j : Nat) x, l[j]? = some x → w.cell? ⟨b, off + j, none⟩ = some (.string ⟨x.toArray⟩) := by
  have h : RepT P w F (.sl e false (l.map fun x => one .str (trc I φ .str x))) u := h
  generalize hx : (l.map fun x => one .str (trc I φ .str x)) = xs at h
  cases h with
  | nsl => exact .inl ⟨List.map_eq_nil_iff.1 hx, none, 0, rfl⟩
  | esl _ _ b cap => exact .inl ⟨List.map_eq_nil_iff.1 hx, some b, cap, rfl⟩
  | sl _ _ _ b off cap us hF hs hl hc hr =>
    subst hx
    rw [List.length_map] at hl
    refine .inr ⟨b, off, cap, by rw [List.length_map], hl, fun j x hj => ?_⟩
    have hj' : (Go.Eng.flat (l.map fun x => one .str (trc I φ .str x)))[j]? = some (.s ⟨x.toArray⟩) := by rw [flat_strs]; simp [hj]
    rw [hc j _ hj']
    have := hr j _ hj'
    generalize us j = u at this
    cases this; rfl
theorem Grown.lt {w w' : World} {F F' : Nat → Prop} (h : Grown w w' F F') (hF : ∀ b, F b → b < w.heap.size) : ∀ b, F' b → b < w'.heap.size := fun b hb => (h.new b hb).elim (fun h1 => Nat.lt_of_lt_of_le (hF b h1) h.size) fun h1 => h1.2
theorem Grown.glob {w w' : World} {F F' : Nat → Prop} (h : Grown w w' F F') (hg : GlobW I w) : GlobW I w' := fun p hp => factW_same (h.block _ (glob_lt (hg p hp))) (hg p hp)
end Go.Y
noncomputable section
namespace Go.Proofs.YtmdeiacjehhcoaaDoor
open Go.RowKit Go.Extern.Stop Go.Stop Go.Extern Go.Y
open Go.Eng (RepT T)
theorem cell1_new (w : World) (x : Value) (t : TypeId) : ∀ (j : Nat) u, ([x] : List Value)[j]? = some u → (w.alloc (.cells #[x] t)).cell? ((⟨w.heap.size, 0, none⟩ : Addr).add j) = some u := by
  intro j u h
  match j with
  | 0 => simp at h; subst h; simp [Addr.add]
  | j + 1 => simp at h
theorem infoInt : (Tryd.prog.info? 3).map (fun i => (i.zero, i.size, i.bytes)) = some (some (.int .i64 0), 1, 8) := by kernel_rfl
theorem cellsInt : Tryd.prog.cellsOf 3 = 1 := by kernel_rfl
theorem aggInt : Go.Eng.aggOf Tryd.prog 3 = false := by kernel_rfl
set_option maxHeartbeats 40000000 in
theorem Path_call (w : World) (F : Nat → Prop) (hF : ∀ b, F b → b < w.heap.size) (hg : w.cell? ⟨0, 0, none⟩ = some (.iface 80 (.agg #[.pointer (some ⟨5, 24, none⟩)]))) (e : Err) (v : Value) (hv : RepT Tryd.prog w F (trE ids e) v) (he : errAny e = true) (hlen : (ePath e).length ≤ 17592186044416) :
    Calls Tryd.prog 11 #[v] w fun ev w' => ∃ o, ev = .returned o ∧ GrownX w.heap.size w w' ∧ w'.ownsRow (w.heap.size + 1) 3 1 o (ePath e).length ((ePath e).map (Value.int .i64)) := by
  obtain ⟨i0, hi, hz⟩ := Option.map_eq_some_iff.1 infoInt
  obtain ⟨hz0, hz1, hz2⟩ : i0.zero = some (.int .i64 0) ∧ i0.size = 1 ∧ i0.bytes = 8 := by simpa using hz
  have hgl : (0 : Nat) < w.heap.size := World.block_lt_of_cell? w _ hg
  go_enter Tryd.func11, Tryd.ntmps11
  go_wp2
  refine wp_loop_rounds (eDep e + 1) ?_
  refine (?key : ∀ (e' : Err) (v : Value) (W : World) (o pv : Value) (xs : List Int), errAny e' = true → RepT Tryd.prog w F (trE ids e') v → xs ++ ePath e' = ePath e → GrownX w.heap.size w W → w.heap.size < W.heap.size → W.cell? ⟨w.heap.size, 0, none⟩ = some pv → W.frozen? ⟨w.heap.size, 0, none⟩ = false → W.ownsRow (w.heap.size + 1) 3 1 o xs.length (xs.map (Value.int .i64)) →
    ∀ y1 y2 y5 y6 y7 y8 y9 y10 y11 y12 y13 y14 y15 y16 y17 y18 y19 : Value, Code.rounds Tryd.prog _ _ (eDep e' + 1) ⟨#[v, y1, y2, o, .pointer (some ⟨w.heap.size, 0, none⟩), y5, y6, y7, y8, y9, y10, y11, y12, y13, y14, y15, y16, y17, y18, y19], []⟩ W) e v _ _ (.pointer none) [] he hv rfl ((GrownX.refl _ w).alloc _) (by simp) (by simp) (by simp) (World.ownsRow_nil _ _ _ _) _ _ _ _ _ _ _ _ _ _ _ _ _ _ _ _ _
  intro e'
  have hmiss : ∀ (v : Value) (W : World) (o pv : Value) (xs : List Int), (v = .nilIface ∨ (∃ n, v = .iface 29 (.int .i64 n)) ∨ ∃ sa, v = .iface 67 (.pointer (some sa))) → xs = ePath e → GrownX w.heap.size w W → w.heap.size < W.heap.size → W.cell? ⟨w.heap.size, 0, none⟩ = some pv → W.frozen? ⟨w.heap.size, 0, none⟩ = false → W.ownsRow (w.heap.size + 1) 3 1 o xs.length (xs.map (Value.int .i64)) →
    ∃ W', (Calls Tryd.prog 15 #[v, .iface 46 (.pointer (some ⟨w.heap.size, 0, none⟩))] W fun ev w' => ev = .returned (.bool false) ∧ GrownX w.heap.size w w' ∧ w'.ownsRow (w.heap.size + 1) 3 1 o xs.length (xs.map (Value.int .i64))) ∧ W' = W := by
    intro v W o pv xs hvv hxs hgx hlt hc hf hown
    refine ⟨W, ?_, rfl⟩
    rcases hvv with rfl | ⟨n, rfl⟩ | ⟨sa, rfl⟩
    · exact (As_nil _ W).mono fun ev w' ⟨h1, h2⟩ => by subst h2; exact ⟨h1, hgx, hown⟩
    · have hgW : W.cell? ⟨0, 0, none⟩ = some (.iface 80 (.agg #[.pointer (some ⟨5, 24, none⟩)])) := hgx.cell hg (by simp; omega)
      refine (AsP_miss W ⟨w.heap.size, 0, none⟩ pv hgW hc hf n).mono fun ev w' ⟨h1, h2, h3, h4⟩ => ⟨h1, ⟨h2.os.trans hgx.os, h2.tape.trans hgx.tape, h2.output.trans hgx.output, Nat.le_trans hgx.size h2.size, fun b hb hne => (h2.block b (by omega) hne).trans (hgx.block b hb hne)⟩, ?_⟩
      exact hown.kept (row := some w.heap.size) ⟨h2.os, h2.tape, h2.output, h2.size, fun k hk hne => h2.block k hk fun e => hne (by rw [e])⟩ (by
        cases ho : o.ownBlock with
        | none => exact .inl rfl
        | some b => exact .inr fun h => by have := (hown.lt b ho).1; cases h; omega)
    · have hgW : W.cell? ⟨0, 0, none⟩ = some (.iface 80 (.agg #[.pointer (some ⟨5, 24, none⟩)])) := hgx.cell hg (by simp; omega)
      refine (AsP_missS W ⟨w.heap.size, 0, none⟩ pv hgW hc hf sa).mono fun ev w' ⟨h1, h2, h3, h4⟩ => ⟨h1, ⟨h2.os.trans hgx.os, h2.tape.trans hgx.tape, h2.output.trans hgx.output, Nat.le_trans hgx.size h2.size, fun b hb hne => (h2.block b (by omega) hne).trans (hgx.block b hb hne)⟩, ?_⟩
      exact hown.kept (row := some w.heap.size) ⟨h2.os, h2.tape, h2.output, h2.size, fun k hk hne => h2.block k hk fun e => hne (by rw [e])⟩ (by
        cases ho : o.ownBlock with
        | none => exact .inl rfl
        | some b => exact .inr fun h => by have := (hown.lt b ho).1; cases h; omega)
  induction e' with
  | nil =>
    intro v W o pv xs _ hv hxs hgx hlt hc hf hown y1 y2 y5 y6 y7 y8 y9 y10 y11 y12 y13 y14 y15 y16 y17 y18 y19
    obtain ⟨_, key, _⟩ := hmiss v W o pv xs (.inl (rep_nil hv)) (by simpa [ePath] using hxs) hgx hlt hc hf hown
    rw [show eDep .nil + 1 = 0 + 1 from rfl, rounds_succ]
    go_wp2_with (first | (go_at_call 15; refine key.mono ?_; rintro ev w' ⟨rfl, hgx', hown'⟩))
    go_ret
    rw [show xs = ePath e by simpa [ePath] using hxs] at hown'
    exact ⟨_, rfl, hgx', hown'⟩
  | txt s =>
    intro v W o pv xs _ hv hxs hgx hlt hc hf hown y1 y2 y5 y6 y7 y8 y9 y10 y11 y12 y13 y14 y15 y16 y17 y18 y19
    obtain ⟨_, key, _⟩ := hmiss v W o pv xs (.inr (.inr (rep_txt hv))) (by simpa [ePath] using hxs) hgx hlt hc hf hown
    rw [show eDep (.txt s) + 1 = 0 + 1 from rfl, rounds_succ]
    go_wp2_with (first | (go_at_call 15; refine key.mono ?_; rintro ev w' ⟨rfl, hgx', hown'⟩))
    go_ret
    rw [show xs = ePath e by simpa [ePath] using hxs] at hown'
    exact ⟨_, rfl, hgx', hown'⟩
  | no n =>
    intro v W o pv xs _ hv hxs hgx hlt hc hf hown y1 y2 y5 y6 y7 y8 y9 y10 y11 y12 y13 y14 y15 y16 y17 y18 y19
    obtain ⟨_, key, _⟩ := hmiss v W o pv xs (.inr (.inl ⟨n, rep_no hv⟩)) (by simpa [ePath] using hxs) hgx hlt hc hf hown
    rw [show eDep (.no n) + 1 = 0 + 1 from rfl, rounds_succ]
    go_wp2_with (first | (go_at_call 15; refine key.mono ?_; rintro ev w' ⟨rfl, hgx', hown'⟩))
    go_ret
    rw [show xs = ePath e by simpa [ePath] using hxs] at hown'
    exact ⟨_, rfl, hgx', hown'⟩
  | «at» n e' ih =>
    intro v W o pv xs he' hv hxs hgx hlt hc hf hown y1 y2 y5 y6 y7 y8 y9 y10 y11 y12 y13 y14 y15 y16 y17 y18 y19
    obtain ⟨pb, po, u, rfl, hFb, h0, h1, hu⟩ := rep_at hv
    have hpb := hF pb hFb
    have hgW : W.cell? ⟨0, 0, none⟩ = some (.iface 80 (.agg #[.pointer (some ⟨5, 24, none⟩)])) := hgx.cell hg (by simp; omega)
    have key := AsP_hit W ⟨w.heap.size, 0, none⟩ pv hgW hc hf ⟨pb, po, none⟩
    have hxl : (xs ++ [n]) ++ ePath e' = ePath e := by rw [← hxs]; simp [ePath]
    have hxl2 : xs.length + 1 ≤ 17592186044416 := by have := congrArg List.length hxl; simp at this; omega
    have hne1 : some w.heap.size ≠ o.ownBlock := fun h => by have := (hown.lt _ h.symm).1; omega
    have hne2 : some pb ≠ o.ownBlock := fun h => by have := (hown.lt _ h.symm).1; omega
    rw [show eDep (.at n e') + 1 = (eDep e' + 1) + 1 from rfl, rounds_succ]
    go_wp2_with (first
      | (go_at_call 15; refine key.mono ?_; rintro ev w2 ⟨rfl, hg2, hc2, hf2⟩
         have hgx2 : GrownX w.heap.size w w2 := ⟨hg2.os.trans hgx.os, hg2.tape.trans hgx.tape, hg2.output.trans hgx.output, Nat.le_trans hgx.size hg2.size, fun b hb hne => (hg2.block b (by omega) hne).trans (hgx.block b hb hne)⟩
         have hs2 := hg2.size
         have hown2 : w2.ownsRow (w.heap.size + 1) 3 1 o xs.length (xs.map (Value.int .i64)) := hown.kept (row := some w.heap.size) ⟨hg2.os, hg2.tape, hg2.output, hg2.size, fun k hk hne => hg2.block k hk fun e => hne (by rw [e])⟩ (by
           cases ho : o.ownBlock with
           | none => exact .inl rfl
           | some b => exact .inr fun h => by have := (hown.lt b ho).1; cases h; omega)
         have h02 : w2.cell? ⟨pb, po, none⟩ = some (.int .i64 n) := hgx2.cell h0 (by simp; omega)
         have h12 : w2.cell? ⟨pb, po + 1, none⟩ = some u := hgx2.cell h1 (by simp; omega))
      | (at_builtin; refine wpList_append_own _ rfl _ _ 25 rfl (w.heap.size + 1) 3 i0 (.int .i64 0) 1 8 Tryd.underlying25 hi hz0 hz1 hz2 rfl (by decide) _ _ _ rfl (hown2.alloc _) ⟨w2.heap.size, 0, none⟩ 1 1 [.int .i64 n] rfl rfl (cell1_new _ _ _) (fun x hx => by simp at hx; subst hx; rfl) (by unfold maxLen; omega) (by omega) (by simp; omega) ?_; intro v' w3 hown' hgrow3 hnil3
         have ht3 : w3.cell? ⟨w.heap.size, 0, none⟩ = some (.pointer (some ⟨pb, po, none⟩)) := hgrow3.cell (by rw [World.cell?_alloc_lt _ _ ⟨w.heap.size, 0, none⟩ (by simp; omega)]; exact hc2) hne1
         have h13 : w3.cell? ⟨pb, po + 1, none⟩ = some u := hgrow3.cell (by rw [World.cell?_alloc_lt _ _ ⟨pb, po + 1, none⟩ (by simp; omega)]; exact h12) hne2
         have hf3 : w3.frozen? ⟨w.heap.size, 0, none⟩ = false := by
           rw [World.frozen?_of_block (hgrow3.block w.heap.size (by simp; omega) hne1), World.frozen?_alloc_old _ _ ⟨w.heap.size, 0, none⟩ (by simp; omega)]; exact hf2))
    have hgx3 : GrownX w.heap.size w w3 := ⟨hgrow3.os.trans hgx2.os, hgrow3.tape.trans hgx2.tape, hgrow3.output.trans hgx2.output, Nat.le_trans hgx2.size (Nat.le_trans (by simp) hgrow3.size), fun b hb hne => by
      have hnb : some b ≠ o.ownBlock := fun h => by have := (hown.lt _ h.symm).1; omega
      rw [hgrow3.block b (by simp; omega) hnb, ← hgx2.block b hb hne]
      exact Go.RowKit.Below.heap_alloc _ _ b (by omega)⟩
    have hs3 := hgrow3.size
    refine ih u w3 v' _ (xs ++ [n]) he' hu hxl hgx3 (by simp at hs3; omega) ht3 hf3 (by simpa using hown') _ _ _ _ _ _ _ _ _ _ _ _ _ _ _ _ _
def b11 : BF Tryd.prog ids := .of 11 (pathSigO 3) (pathConO 3) (pathO_ok ⟨_, Tryd.func11, by kernel_rfl, by kernel_rfl⟩ cellsInt aggInt fun w F hF hgw x v hv hl => Path_call w F hF (glob w hgw) x v hv rfl hl)
def b100011 : BF Tryd.prog ids := .of 100011 ⟨lfState [.err], leafOut (.sl 3 (.int .i64)), false, [], ⟨[], [], [], []⟩, none⟩ ⟨.err, .sl 3 (.int .i64), zPathT⟩ (FnOk.grown (ts := [.err]) (B := .sl 3 (.int .i64)) (F := zPathT) ⟨_, Tryd.func11, by kernel_rfl, by kernel_rfl⟩ (fun (x : Err) (r : List Int) hF vs hx hty w Fr us hgw hFr hus hrep => by
  obtain rfl := vals1 (A := .err) hx hty
  obtain ⟨u, hu, hr⟩ := hrep 0 _ rfl
  obtain rfl := args1 hu hus
  have hF : zPathT x = some r := hF
  unfold zPathT errAny at hF
  simp only at hF
  cases hl : decide ((ePath x).length ≤ 17592186044416) with
  | false => rw [hl] at hF; cases hF
  | true =>
    rw [hl] at hF
    obtain rfl := Option.some.inj hF
    refine (Path_call w Fr hFr (glob w hgw) x u hr rfl (of_decide_eq_true hl)).mono fun ev w' ⟨o, h1, hgx, hown⟩ => ?_
    exact ⟨o, fun b => Fr b ∨ o.ownBlock = some b, h1, hgx.grown (fun b hb => .inl hb) (fun b hb => hb.imp id fun h => by have := hown.lt b h; omega), give_ints cellsInt aggInt hown⟩))
end Go.Proofs.YtmdeiacjehhcoaaDoor
noncomputable section
namespace Go.Proofs.YtmdeiacjehhcoaaDoor
open Go.RowKit Go.Extern.Stop Go.Stop Go.Extern Go.Y
open Go.Eng (RepT T)
end Go.Proofs.YtmdeiacjehhcoaaDoor
noncomputable section
namespace Go.Proofs.YtmdeiacjehhcoaaDoor
open Go.RowKit Go.Extern.Stop Go.Stop Go.Extern Go.Y Go.Shelf
open Go.Eng (RepT T Owns)
def b14 : BF Tryd.prog ids := .of 14 (atSigO 3) (atConO 3) (atO_ok ⟨_, Tryd.func14, by kernel_rfl, by kernel_rfl⟩ cellsInt fun w F hF x v hv l u ho hl => by
  by_cases hnil : x = .nil
  · subst hnil
    obtain rfl := rep_nil hv
    exact (At_nil w u).mono fun ev w' ⟨h1, h2⟩ => by
      subst h2
      exact ⟨_, F, h1, ⟨rfl, rfl, rfl, Nat.le_refl _, fun _ _ => rfl, fun _ h => h, fun _ h => .inl h⟩, .ni⟩
  · have heq : eAt x l = l.foldr Err.at x := by
      cases x with
      | nil => exact absurd rfl hnil
      | no n => rfl
      | «at» n e => rfl
      | txt s => rfl
    rw [heq]
    obtain ⟨tt, y, rfl⟩ : ∃ tt x, v = .iface tt x := by
      rcases rep_head rfl hv with ⟨_, h⟩ | ⟨tt, x, h, _⟩
      · exact absurd h hnil
      · exact ⟨tt, x, h⟩
    rcases owns_cells ho with ⟨hl0, base, cap, rfl⟩ | ⟨b, cap, rfl, h1, h3⟩
    · subst hl0
      exact (At_none w tt y base cap).mono fun ev w' ⟨h1, h2⟩ => by
        subst h2
        exact ⟨_, F, h1, ⟨rfl, rfl, rfl, Nat.le_refl _, fun _ _ => rfl, fun _ h => h, fun _ h => .inl h⟩, hv⟩
    · exact At_call w F hF x _ hv rfl hnil l b 0 cap h1 h3 hl)
shelf_lay LaysM.n171 Nm 171 at Tryd as Tryd.laysItoa
shelf_lay Lays.n156 Nm 156 at Tryd as Tryd.laysJoin
theorem joinX : Builder.Extra Tryd.prog Tryd.laysJoin_ren where
  sizeBuilder := by kernel_rfl
  liesBuilder := by kernel_rfl
  t5 := Tryd.underlying5
  a5 := Tryd.isAgg5
  z5 := Tryd.sizeOf5
  v5 := Tryd.zeroValue5
  infoByte := by kernel_rfl
  cellsByte := by kernel_rfl
  sizeByte := by kernel_rfl
  neB5 := by decide
def b21 : BF Tryd.prog ids := .of 21 ⟨lfState [.sl 9 .str, .str], leafOut .str, false, [], ⟨[], [], [], []⟩, none⟩ ⟨.pair (.sl 9 .str) .str, .str, fun x => zJoin x.1 x.2⟩ (FnOk.grown (ts := [.sl 9 .str, .str]) (B := .str) (F := fun x => zJoin x.1 x.2) ⟨_, Tryd.func21, by kernel_rfl, by kernel_rfl⟩ (fun (x : List (List UInt8) × List UInt8) (r : List UInt8) hF vs hx hty w Fr us hgw hFr hus hrep => by
  obtain rfl := vals2 (A := .sl 9 .str) (B := .str) hx hty
  obtain ⟨u, hu, hr⟩ := hrep 0 _ rfl
  obtain ⟨u', hu', hr'⟩ := hrep 1 _ rfl
  obtain rfl := args2 hu hu' hus
  obtain ⟨l, s⟩ := x
  have hr : RepT Tryd.prog w Fr (trL ids (phi Tryd.prog ids) ⟨.sl 9 .str, l⟩) u := hr
  have hr' : RepT Tryd.prog w Fr (.s ⟨s.toArray⟩) u' := hr'
  obtain rfl : u' = .string ⟨s.toArray⟩ := by cases hr'; rfl
  have hF : zJoin l s = some r := hF
  unfold zJoin at hF
  cases h1 : decide (l.length ≤ 140737488355328) with
  | false => rw [h1] at hF; cases hF
  | true =>
    cases h2 : decide ((Lib.join l s).length ≤ 140737488355328) with
    | false => rw [h1, h2] at hF; cases hF
    | true =>
      rw [h1, h2] at hF
      obtain rfl := Option.some.inj (show some (Lib.join l s) = some r from hF)
      have h1 := of_decide_eq_true h1
      have h2 := of_decide_eq_true h2
      have fin : ∀ (w' : World), Go.RowKit.Below w.heap.size w w' → ∃ u F', (Ending.returned (.string ⟨(Lib.join l s).toArray⟩)) = .returned u ∧ Go.Y.Grown w w' Fr F' ∧ RepT Tryd.prog w' F' (trL ids (phi Tryd.prog ids) ⟨.str, Lib.join l s⟩) u := fun w' hb =>
        ⟨_, Fr, rfl, ⟨hb.os, hb.tape, hb.output, hb.size, hb.block, fun _ h => h, fun _ h => .inl h⟩, .s _⟩
      have hmap : (l.map fun x => (⟨x.toArray⟩ : ByteArray)).map (·.data.toList) = l := by
        rw [List.map_map]
        exact (List.map_congr_left fun x _ => rfl).trans (List.map_id' l)
      rcases rep_strs hr with ⟨hl0, base, cap, rfl⟩ | ⟨b, off, cap, rfl, hle, hcell⟩
      · subst hl0
        refine (Any.strings_Join_none Tryd.laysJoin joinX base cap ⟨s.toArray⟩ w).mono fun ev w' ⟨e1, e2⟩ => ?_
        subst e1; subst e2
        exact fin _ (Go.RowKit.Below.refl _ _)
      · by_cases hl0 : l = []
        · subst hl0
          refine (Any.strings_Join_none Tryd.laysJoin joinX (some ⟨b, off, none⟩) cap ⟨s.toArray⟩ w).mono fun ev w' ⟨e1, e2⟩ => ?_
          subst e1; subst e2
          exact fin _ (Go.RowKit.Below.refl _ _)
        · have hb : b < w.heap.size := by
            obtain ⟨x, hx⟩ : ∃ x, l[0]? = some x := ⟨l[0]'(List.length_pos_iff.2 hl0), List.getElem?_eq_getElem _⟩
            exact World.block_lt_of_cell? w _ (hcell 0 x hx)
          have := Any.strings_Join Tryd.laysJoin joinX b off cap (l.map fun x => (⟨x.toArray⟩ : ByteArray)) ⟨s.toArray⟩ w (fun j x hj => by
            rw [List.getElem?_map] at hj
            cases hy : l[j]? with
            | none => rw [hy] at hj; cases hj
            | some y =>
              rw [hy] at hj
              obtain rfl := Option.some.inj hj
              exact hcell j y hy) hb (by rw [List.length_map]; exact h1) (by rw [List.length_map]; exact hle) (by rw [hmap]; exact h2)
          rw [hmap, List.length_map] at this
          refine this.mono fun ev w' ⟨e1, e2⟩ => ?_
          subst e1
          exact fin _ e2))
theorem tab (w : World) (h : GlobW ids w) : Lib.TabIs Tryd.prog w "internal/strconv.uint64pow10" .u64 Lib.pow10Tab := by
  obtain ⟨t, fz, hh⟩ := h (⟨1, 0, none⟩, .agg (Lib.pow10Tab.map (Value.int .u64)).toArray) (.tail _ (.head _))
  unfold Lib.TabIs World.var?
  rw [show Tryd.prog.globalNamed "internal/strconv.uint64pow10" = some 1 by kernel_rfl]
  show (match w.heap[1]? with | some (.cells cs _ _) => some cs | _ => none) = _
  rw [show w.heap[1]? = _ from hh]
def b19 : BF Tryd.prog ids := .of 19 ⟨lfState [.int .i64], leafOut .str, false, [], ⟨[], [], [], []⟩, none⟩ ⟨.int .i64, .str, zItoa⟩ (FnOk.grown (ts := [.int .i64]) (B := .str) (F := zItoa) ⟨_, Tryd.func19, by kernel_rfl, by kernel_rfl⟩ (fun (x : Int) (r : List UInt8) hF vs hx hty w Fr us hgw hFr hus hrep => by
  obtain rfl := vals1 (A := .int .i64) hx hty
  obtain ⟨u, hu, hr⟩ := hrep 0 _ rfl
  obtain rfl := args1 hu hus
  have hr : RepT Tryd.prog w Fr (.i .i64 x) u := hr
  obtain rfl : u = .int .i64 x := by cases hr; rfl
  have hF : zItoa x = some r := hF
  unfold zItoa at hF
  cases h1 : decide (-9223372036854775808 ≤ x ∧ x ≤ 9223372036854775807) with
  | false => rw [h1] at hF; cases hF
  | true =>
    rw [h1] at hF
    obtain rfl := Option.some.inj (show some (Lib.itoa x) = some r from hF)
    have h1 := of_decide_eq_true h1
    refine (Any.strconv_Itoa Tryd.laysItoa x h1.1 h1.2 w (tab w hgw)).mono fun ev w' ⟨e1, k, os, e2⟩ => ?_
    subst e1; subst e2
    exact ⟨_, Fr, rfl, ⟨rfl, rfl, rfl, by simp [Sort.grow], fun b hb => Sort.heap_grow_old (w.drewN k) os hb, fun _ h => h, fun _ h => .inl h⟩, .s _⟩))
end Go.Proofs.YtmdeiacjehhcoaaDoor
set_option maxRecDepth 100000
set_option linter.unusedVariables false
noncomputable section
namespace Go.Y
open Go
def fault_At_o (N : Nat) (x : Err) (y : List Int) : Option (Err × List Int) := zAtO x y
def fault_At (N : Nat) (x : Err) (y : List Int) : Option Err := zAtT x y
def fault_Kind (N : Nat) (x : Err) : Option Int := zKindT x
def fault_Path (N : Nat) (x : Err) : Option (List Int) := zPathT x
def avermentref01_Same_l5 (N : Nat) (k0 : Unit → Option (Bool)) (k1 : Bool → Option (Bool)) : Nat → (List Int) → (List Int) → Int → Option (Bool)
  | 0, _, _, _ => none
  | n + 1, a0, b1, i5 =>
    pIf (decide (i5 < (len a0)))
      (pIdx a0 i5 fun x0 =>
      pIdx b1 i5 fun x1 =>
      pIf (!decide (x0 = x1))
        (k1 false)
        (avermentref01_Same_l5 N k0 k1 n a0 b1 (wr .i64 (i5 + 1))))
      (k0 ())
def avermentref01_Same (N : Nat) (a0 : List Int) (b1 : List Int) : Option (Bool) :=
  pIf (!decide ((len a0) = (len b1)))
    (some false)
    (avermentref01_Same_l5 N
      (fun x0 => some true)
      (fun x0 => some x0) N a0 b1 0)
def strconv_Itoa (N : Nat) (x : Int) : Option (List UInt8) := zItoa x
def api_Errno_Error (N : Nat) (e0 : Int) : Option (List UInt8) :=
  pIf (decide (e0 = 0))
    (some [111, 107])
    (pIf (decide (e0 = 1))
      (some [97, 114, 103, 117, 109, 101, 110, 116])
      (pIf (decide (e0 = 2))
        (some [115, 104, 111, 114, 116])
        (pIf (decide (e0 = 3))
          (some [102, 111, 114, 109])
          (pIf (decide (e0 = 4))
            (some [114, 97, 110, 103, 101])
            (pIf (decide (e0 = 5))
              (some [116, 97, 103])
              (pIf (decide (e0 = 6))
                (some [110, 97, 109, 101])
                (pIf (decide (e0 = 7))
                  (some [115, 121, 109, 98, 111, 108])
                  (pIf (decide (e0 = 8))
                    (some [108, 97, 98, 101, 108])
                    (pIf (decide (e0 = 9))
                      (some [114, 101, 103, 105, 115, 116, 101, 114])
                      (pIf (decide (e0 = 10))
                        (some [97, 114, 105, 116, 121])
                        (pIf (decide (e0 = 11))
                          (some [115, 105, 122, 101])
                          (pIf (decide (e0 = 12))
                            (some [115, 104, 97, 112, 101])
                            (pIf (decide (e0 = 13))
                              (some [102, 97, 99, 116])
                              (pIf (decide (e0 = 14))
                                (some [101, 100, 103, 101])
                                (pIf (decide (e0 = 15))
                                  (some [98, 117, 100, 103, 101, 116])
                                  (pIf (decide (e0 = 16))
                                    (some [111, 112, 101, 110])
                                    (pIf (decide (e0 = 17))
                                      (some [116, 119, 105, 99, 101])
                                      (pIf (decide (e0 = 18))
                                        (some [99, 108, 97, 115, 104])
                                        (pIf (decide (e0 = 19))
                                          (some [105, 109, 112, 108, 105, 101, 100])
                                          (pIf (decide (e0 = 20))
                                            (some [119, 111, 114, 100])
                                            (pIf (decide (e0 = 21))
                                              (some [110, 111, 110, 101])
                                              (some [117, 110, 107, 110, 111, 119, 110]))))))))))))))))))))))
def strings_Join (N : Nat) (x : List (List UInt8)) (y : List UInt8) : Option (List UInt8) := zJoin x y
def fault_Text_l4 (N : Nat) (k0 : Err × List (List UInt8) → Option (List UInt8)) : Nat → Err → Int → Int → (List (List UInt8)) → (List Int) → Option (List UInt8)
  | 0, _, _, _, _, _ => none
  | n + 1, e0, t9, t10, places3, t8 =>
    pIf (decide (t10 < t9))
      (pCk ((decide (0 ≤ t10)) && (decide (t10 < (len t8)))) <|
      pIdx t8 t10 fun x0 =>
      pCall (strconv_Itoa N x0) fun x1 =>
      pCk (room 16 (len (places3 ++ [x1]))) <|
      fault_Text_l4 N k0 n e0 t9 (wr .i64 (t10 + 1)) (places3 ++ [x1]) t8)
      (k0 (e0, places3))
def fault_Text (N : Nat) (e0 : Err) : Option (List UInt8) :=
  pCall (fault_Path N e0) fun x0 =>
  fault_Text_l4 N
    (fun x1 => pCall (fault_Kind N x1.1) fun x2 =>
      pCall (api_Errno_Error N x2) fun x3 =>
      pIf (decide ((len x1.2) = 0))
        (some x3)
        (pCall (strings_Join N x1.2 [46]) fun x4 =>
        pCk (room 1 (len (x4 ++ [32]))) <|
        pCk (room 1 (len ((x4 ++ [32]) ++ x3))) <|
        some ((x4 ++ [32]) ++ x3))) N e0 (len x0) 0 [] x0
def avermentlaw01_tells (N : Nat) : Option (Bool) :=
  pCall (fault_At N (Err.no 9) [3]) fun x0 =>
  pCall (fault_At N x0 [1, 2]) fun x1 =>
  pCall (fault_Kind N x1) fun x2 =>
  pCallG (decide (x2 = 9)) [] (fault_Path N x1) fun x3 =>
  pCallG (decide (x2 = 9)) false (avermentref01_Same N x3 [1, 2, 3]) fun x4 =>
  pLet (pick (decide (x2 = 9)) x4 false) fun x5 =>
  pCallG x5 [] (fault_Text N x1) fun x6 =>
  pLet (pick x5 (decide (x6 = [49, 46, 50, 46, 51, 32, 114, 101, 103, 105, 115, 116, 101, 114])) false) fun x7 =>
  some x7
def avermentlaw01_FaultApart_l8 (N : Nat) (k0 : (List Int) × Err × Err × List Int → Option (Bool)) (k1 : Bool → Option (Bool)) : Nat → (List Int) → Err → Err → Int → (List Int) → Option (Bool)
  | 0, _, _, _, _, _ => none
  | n + 1, places1, e6, f7, i8, l5 =>
    pIf (decide (i8 < (len l5)))
      (pCk ((decide (0 ≤ i8)) && (decide (i8 < (len l5)))) <|
      pIdx l5 i8 fun x0 =>
      pIdx places1 i8 fun x1 =>
      pIf (!decide (x0 = x1))
        (k1 false)
        (pCk ((decide (0 ≤ i8)) && (decide (i8 < (len l5)))) <|
        pIdx l5 i8 fun x2 =>
        pCk ((decide (0 ≤ i8)) && (decide (i8 < (len l5)))) <|
        pIdx l5 i8 fun x3 =>
        avermentlaw01_FaultApart_l8 N k0 k1 n places1 e6 f7 (wr .i64 (i8 + 1)) (setI l5 i8 (bxor .i64 x2 1))))
      (k0 (places1, e6, f7, l5))
def avermentlaw01_FaultApart_l15 (N : Nat) (k0 : (List Int) × Err × Err × List Int → Option (Bool)) : Nat → (List Int) → Err → Err → Int → (List Int) → (List Int) → Option (Bool)
  | 0, _, _, _, _, _, _ => none
  | n + 1, places1, e6, f7, i10, l5, p9 =>
    pIf (decide (i10 < (len p9)))
      (pCk ((decide (0 ≤ i10)) && (decide (i10 < (len p9)))) <|
      pIdx p9 i10 fun x0 =>
      pCk ((decide (0 ≤ i10)) && (decide (i10 < (len p9)))) <|
      pIdx p9 i10 fun x1 =>
      avermentlaw01_FaultApart_l15 N k0 n places1 e6 f7 (wr .i64 (i10 + 1)) l5 (setI p9 i10 (bxor .i64 x0 1)))
      (k0 (places1, e6, f7, l5))
def avermentlaw01_FaultApart (N : Nat) (kv0 : Int) (places1 : List Int) : Option (Bool) :=
  pJoin (fun (x0 : Int × List Int) =>
    pCk ((decide (0 ≤ (mnI (len x0.2) 20))) && (decide ((mnI (len x0.2) 20) ≤ (len x0.2)))) <|
    pCk ((decide (0 ≤ 0)) && (decide (0 ≤ (mnI (len x0.2) 20)))) <|
    pCk (room 8 (len ([] ++ (sub x0.2 0 (mnI (len x0.2) 20))))) <|
    pCall (fault_At_o N (Err.no x0.1) ([] ++ (sub x0.2 0 (mnI (len x0.2) 20)))) fun x1 =>
    pCall (fault_At N x1.1 [7]) fun x2 =>
    avermentlaw01_FaultApart_l8 N
      (fun x3 => pCall (fault_Path N x3.2.1) fun x4 =>
        avermentlaw01_FaultApart_l15 N
          (fun x5 => pCall (avermentlaw01_tells N) fun x6 =>
            pCallG x6 [] (fault_Path N x5.2.1) fun x7 =>
            pCk (!x6 || ((decide (0 ≤ (len x5.2.2.2))) && (decide ((len x5.2.2.2) ≤ (len x5.1))))) <|
            pCk (!x6 || ((decide (0 ≤ 0)) && (decide (0 ≤ (len x5.2.2.2))))) <|
            pCallG x6 false (avermentref01_Same N x7 (sub x5.1 0 (len x5.2.2.2))) fun x8 =>
            pLet (pick x6 x8 false) fun x9 =>
            pCallG x9 [] (fault_Path N x5.2.2.1) fun x10 =>
            pIf x9
              (pCk (!x9 || ((decide (0 ≤ (len x5.2.2.2))) && (decide ((len x5.2.2.2) ≤ (len x5.1))))) <|
              pCk (!x9 || ((decide (0 ≤ 0)) && (decide (0 ≤ (len x5.2.2.2))))) <|
              pIf x9
                (pCk (!x9 || (room 8 (len ([7] ++ (sub x5.1 0 (len x5.2.2.2)))))) <|
                pCallG x9 false (avermentref01_Same N x10 ([7] ++ (sub x5.1 0 (len x5.2.2.2)))) fun x11 =>
                pLet (pick x9 x11 false) fun x12 =>
                some x12)
                (pCallG x9 false (avermentref01_Same N x10 []) fun x11 =>
                pLet (pick x9 x11 false) fun x12 =>
                some x12))
              (pCk (!x9 || ((decide (0 ≤ (len x5.2.2.2))) && (decide ((len x5.2.2.2) ≤ (len x5.1))))) <|
              pCk (!x9 || ((decide (0 ≤ 0)) && (decide (0 ≤ (len x5.2.2.2))))) <|
              pIf x9
                (pCk (!x9 || (room 8 (len ([] ++ (sub x5.1 0 (len x5.2.2.2)))))) <|
                pCallG x9 false (avermentref01_Same N x10 ([] ++ (sub x5.1 0 (len x5.2.2.2)))) fun x11 =>
                pLet (pick x9 x11 false) fun x12 =>
                some x12)
                (pCallG x9 false (avermentref01_Same N x10 []) fun x11 =>
                pLet (pick x9 x11 false) fun x12 =>
                some x12))) N x3.1 x3.2.1 x3.2.2.1 0 x3.2.2.2 x4)
      (fun x3 => some x3) N x0.2 x1.1 x2 0 x1.2) fun J0 =>
  pIf (decide (kv0 = 0))
    (J0 (9, places1))
    (J0 (kv0, places1))
end Go.Y
set_option maxRecDepth 100000
set_option linter.unusedVariables false
noncomputable section
namespace Go.Proofs.YtmdeiacjehhcoaaDoor
open Go.Y Go Go.Shelf
@[reducible] def Y0 : Ty := .int .i64
@[reducible] def Y1 : Ty := .sl 9 .str
@[reducible] def Y2 : Ty := .sl 3 Y0
@[reducible] def Y3 : Ty := .sl 25 Y2
@[reducible] def Y4 : Ty := .pair .err Y2
@[reducible] def Y5 : Ty := .pair .err Y4
@[reducible] def Y6 : Ty := .pair Y2 Y5
@[reducible] def R0 : Root Ty := rs [(oc 1 Y2)]
theorem mix : Tryd.prog.follows .mixedOrders = true := by kernel_rfl
noncomputable def TT : List (Nat × TI) := [(3, ⟨Y0, 1, false, 8, 0, [], true, true⟩), (4, ⟨.bool, 1, false, 1, 0, [], true, true⟩), (5, ⟨(.int .u8), 1, false, 1, 0, [], true, true⟩), (9, ⟨.str, 1, false, 16, 0, [], true, true⟩), (22, ⟨Y3, 1, false, 24, 25, [], false, true⟩), (24, ⟨.err, 1, false, 16, 0, [], false, true⟩), (25, ⟨Y2, 1, false, 24, 3, [], false, true⟩), (29, ⟨Y0, 1, false, 8, 1, [], true, true⟩), (49, ⟨Y1, 1, false, 24, 9, [], false, true⟩), (71, ⟨(.sl 5 (.int .u8)), 1, false, 24, 5, [], false, true⟩), (78, ⟨(.int .u64), 1, false, 8, 0, [], true, true⟩)]
theorem tt_ok : ∀ tb : Tabs, tb.tt = TT → TabOk Tryd.prog ids tb := TabOk.tt (by kernel_rfl)
noncomputable def q10 : FD Tryd.prog ids := ⟨10, Tryd.f10, [], [], TT, [], ⟨[], [], [(5, ⟨(jl [5, 1, 0]), ⟨[(0, (.lf Y2)), (1, (.lf Y2)), (5, (.lf Y0))], [], []⟩, [(0, (lfS []))]⟩)], (lfS [.bool]), none⟩, (lfState [Y2, Y2]), [], j0, [Y2, Y2], .bool, fun N x => avermentref01_Same N x.1 x.2, [⟨5, [Y2, Y2, Y0], [.unit, .bool], fun N n x ks => avermentref01_Same_l5 N (fun y => kget ks 0 ⟨.unit, y⟩) (fun y => kget ks 1 ⟨.bool, y⟩) n x.1 x.2.1 x.2.2⟩]⟩
noncomputable def b10 : BF Tryd.prog ids := q10.bf mix Tryd.func10 tt_ok (fun N => by kernel_rfl) (fun N x => by kernel_rfl) fun N => .cons ⟨by kernel_rfl, fun _ _ => by kernel_rfl, fun _ _ _ => by kernel_rfl⟩ .nil
noncomputable def q20 : FD Tryd.prog ids := ⟨20, Tryd.f20, [], [], TT, [], (hl [.str]), (lfState [Y0]), [], j0, [Y0], .str, fun N x => api_Errno_Error N x, []⟩
noncomputable def b20 : BF Tryd.prog ids := q20.bf mix Tryd.func20 tt_ok (fun N => by kernel_rfl) (fun N x => by kernel_rfl) fun N => .nil
noncomputable def q12 : FD Tryd.prog ids := ⟨12, Tryd.f12, [b9, b11, b100011, b19, b20, b21], [], TT, [17], ⟨[], [], [(4, ⟨⟨[10, 3, 8, 0, 9], [3], [], []⟩, ⟨[(0, (.lf .err)), (3, (ar 1003 0)), (8, (ar 1008 0)), (9, (.lf Y0)), (10, (.lf Y0))], [], [(1003, (rs [(oc 1 Y1)])), (1008, R0)]⟩, [(0, ⟨(jl [3, 0]), ⟨[(0, (.lf .err)), (3, (ar 1003 0))], [], [(1003, (rs [(oc 1 Y1)]))]⟩⟩)]⟩)], (lfS [.str]), none⟩, (lfState [.err]), [], j0, [.err], .str, fun N x => fault_Text N x, [⟨4, [.err, Y0, Y0, Y1, Y2], [(.pair .err Y1)], fun N n x ks => fault_Text_l4 N (fun y => kget ks 0 ⟨(.pair .err Y1), y⟩) n x.1 x.2.1 x.2.2.1 x.2.2.2.1 x.2.2.2.2⟩]⟩
noncomputable def b12 : BF Tryd.prog ids := q12.bf mix Tryd.func12 tt_ok (fun N => by kernel_rfl) (fun N x => by kernel_rfl) fun N => .cons ⟨by kernel_rfl, fun _ _ => by kernel_rfl, fun _ _ _ => by kernel_rfl⟩ .nil
noncomputable def q8 : FD Tryd.prog ids := ⟨8, Tryd.f8, [b14, b100014, b9, b11, b100011, b10, b12], [], TT, [3, 5, 13], (hl [.bool]), (lfState []), [], j0, [], .bool, fun N x => avermentlaw01_tells N, []⟩
noncomputable def b8 : BF Tryd.prog ids := q8.bf mix Tryd.func8 tt_ok (fun N => by kernel_rfl) (fun N x => by kernel_rfl) fun N => .nil
noncomputable def q4 : FD Tryd.prog ids := ⟨4, Tryd.f4, [b14, b100014, b11, b100011, b10, b8], [], TT, [25], ⟨[(30012, ⟨(jl [1, 0]), ⟨[(0, (.lf Y0)), (1, (.lf Y2))], [], []⟩⟩)], [], [(15, ⟨(jl [10, 9, 5, 1, 7, 6]), ⟨[(1, (.lf Y2)), (5, (ar 1005 0)), (6, (.lf .err)), (7, (.lf .err)), (9, (ar 1009 0)), (10, (.lf Y0))], [], [(1005, R0), (1009, R0)]⟩, [(2, ⟨(jl [5, 1, 7, 6]), ⟨[(1, (.lf Y2)), (5, (ar 1005 0)), (6, (.lf .err)), (7, (.lf .err))], [], [(1005, R0)]⟩⟩)]⟩), (8, ⟨(jl [8, 5, 1, 7, 6]), ⟨[(1, (.lf Y2)), (5, (ar 1005 0)), (6, (.lf .err)), (7, (.lf .err)), (8, (.lf Y0))], [], [(1005, R0)]⟩, [(0, ⟨(jl [5, 1, 7, 6]), ⟨[(1, (.lf Y2)), (5, (ar 1005 0)), (6, (.lf .err)), (7, (.lf .err))], [], [(1005, R0)]⟩⟩)]⟩)], (lfS [.bool]), none⟩, (lfState [Y0, Y2]), [], j0, [Y0, Y2], .bool, fun N x => avermentlaw01_FaultApart N x.1 x.2, [⟨8, [Y2, .err, .err, Y0, Y2], [Y6, .bool], fun N n x ks => avermentlaw01_FaultApart_l8 N (fun y => kget ks 0 ⟨Y6, y⟩) (fun y => kget ks 1 ⟨.bool, y⟩) n x.1 x.2.1 x.2.2.1 x.2.2.2.1 x.2.2.2.2⟩, ⟨15, [Y2, .err, .err, Y0, Y2, Y2], [Y6], fun N n x ks => avermentlaw01_FaultApart_l15 N (fun y => kget ks 0 ⟨Y6, y⟩) n x.1 x.2.1 x.2.2.1 x.2.2.2.1 x.2.2.2.2.1 x.2.2.2.2.2⟩]⟩
noncomputable def b4 : BF Tryd.prog ids := q4.bf mix Tryd.func4 tt_ok (fun N => by kernel_rfl) (fun N x => by kernel_rfl) fun N => .cons ⟨by kernel_rfl, fun _ _ => by kernel_rfl, fun _ _ _ => by kernel_rfl⟩ (.cons ⟨by kernel_rfl, fun _ _ => by kernel_rfl, fun _ _ _ => by kernel_rfl⟩ .nil)
end Go.Proofs.YtmdeiacjehhcoaaDoor
namespace Go.Y
def Wf (by_ : TypeId → Nat) : (A : Ty) → A.den → Prop
  | .unit, _ => True
  | .bool, _ => True
  | .int k, n => (Lit.int k n).wf = true
  | .str, s => (s : List UInt8).length ≤ reachBytes
  | .pair a b, x => Wf by_ a x.1 ∧ Wf by_ b x.2
  | .st f, x => Wf by_ f x
  | .sl e a, xs => (xs : List a.den).length * by_ e ≤ reachBytes ∧ ∀ x ∈ (xs : List a.den), Wf by_ a x
  | .ptr _ _, _ => False
  | .err, _ => False
  | .fn _ _, _ => False
end Go.Y
namespace Go.Y
open Go.Eng (T RepT RepM SRep Kept Base G SameOn VRep Split Live Free kn)
variable {P : Program} {I : Ids} {φ : FnP}
def rdT (P : Program) : Nat → TypeId → Ty → Bool
  | 0, _, _ => false
  | n + 1, t, A => match A with
    | .bool => match P.underlying t with | some .bool => true | _ => false
    | .int k => match P.underlying t with | some (.int k') => decide (k' = k) | _ => false
    | .str => match P.underlying t with | some .string => true | _ => false
    | .sl e a => match P.underlying t with
      | some (.slice e') => Nat.beq e' e && (rdT P n e a && (Nat.beq (P.cellsOf e) a.flat.length && (Eng.aggOf P e == a.isAgg && !a.flat.isEmpty)))
      | _ => false
    | .st f => match P.underlying t with
      | some (.struct fs) => rowF P (rdT P n) 0 fs.toList f && Nat.beq (P.cellsOf t) f.flat.length
      | _ => false
    | _ => false
def Reps (P : Program) (w : World) (F : Nat → Prop) (ts : List T) (us : List Value) : Prop := ts.length = us.length ∧ ∀ (j : Nat) t, ts[j]? = some t → ∃ u, us[j]? = some u ∧ RepT P w F t u
theorem reps_append {w : World} {F : Nat → Prop} {a b : List T} {us vs : List Value} (h1 : Reps P w F a us) (h2 : Reps P w F b vs) : Reps P w F (a ++ b) (us ++ vs) := by
  refine ⟨by simp [h1.1, h2.1], fun j t hj => ?_⟩
  by_cases hl : j < a.length
  · rw [List.getElem?_append_left hl] at hj
    obtain ⟨u, hu, hr⟩ := h1.2 j t hj
    exact ⟨u, by rw [List.getElem?_append_left (by rw [← h1.1]; exact hl)]; exact hu, hr⟩
  · rw [List.getElem?_append_right (by omega)] at hj
    obtain ⟨u, hu, hr⟩ := h2.2 _ t hj
    exact ⟨u, by rw [List.getElem?_append_right (by rw [← h1.1]; omega), ← h1.1]; exact hu, hr⟩
theorem reps_one {w : World} {F : Nat → Prop} {t : T} {u : Value} (h : RepT P w F t u) : Reps P w F [t] [u] := by
  refine ⟨rfl, fun j s hj => ?_⟩
  cases j with
  | zero => simp only [List.getElem?_cons_zero, Option.some.injEq] at hj; subst hj; exact ⟨u, rfl, h⟩
  | succ j => simp at hj
section
variable {H : Type} {enc : TypeId × Value → H} {w : World} {spare : Nat → Bool} {held : Bool}
def RdOk (enc : TypeId × Value → H) (P : Program) (I : Ids) (φ : FnP) (w : World) (spare : Nat → Bool) (held : Bool) (n : Nat) : Prop :=
  ∀ t A, rdT P n t A = true → ∀ fuel cs d ps, DataW.trod enc P w 0 spare held fuel t cs = some (d, ps) → (∀ m ∈ d.weights P t, m ≤ reachBytes) →
    ∃ x : A.den, Wf P.bytesOf A x ∧ Reps P w (fun b => b < w.heap.size) (trc I φ A x) cs
theorem weights_each {ts : List TypeId} {ds : List (DataW H)} {M : Nat} (h : ∀ m ∈ DataW.weightsEach P ts ds, m ≤ M) {j : Nat} {t : TypeId} {d : DataW H} (ht : ts[j]? = some t) (hd : ds[j]? = some d) : ∀ m ∈ d.weights P t, m ≤ M :=
  fun m hm => h m (DataW.weights_mem_each ht hd m hm)
theorem weights_all_mem {e : TypeId} : ∀ {ds : List (DataW H)} {d : DataW H}, d ∈ ds → ∀ m ∈ d.weights P e, m ∈ DataW.weightsAll P e ds
  | [], d, hd, _, _ => by simp at hd
  | d0 :: r, d, hd, m, hm => by
    simp only [DataW.weightsAll, List.mem_append]
    rcases List.mem_cons.1 hd with rfl | hd
    · exact .inl hm
    · exact .inr (weights_all_mem hd m hm)
theorem rd_row {n fuel : Nat} (IH : RdOk enc P I φ w spare held n) {cs : List Value} :
    ∀ (fs : List Field) (f : Ty) (off : Nat) (xs : List (DataW H × List MemPlace)), rowF P (rdT P n) off fs f = true → xs.length = fs.length →
      (∀ (i : Nat) q, fs[i]? = some q → DataW.trod enc P w 0 spare held fuel q.type ((cs.drop q.offset).take (P.cellsOf q.type)) = xs[i]?) →
      (∀ m ∈ DataW.weightsEach P (fs.map (·.type)) (xs.map (·.1)), m ≤ reachBytes) → cs.length = off + f.flat.length →
      ∃ x : f.den, Wf P.bytesOf f x ∧ Reps P w (fun b => b < w.heap.size) (trc I φ f x) (cs.drop off) := by
  have hd1 : ∀ (q : Field) (a : Ty) (off : Nat) (y : DataW H × List MemPlace), hdF P (rdT P n) q a off = true → DataW.trod enc P w 0 spare held fuel q.type ((cs.drop q.offset).take (P.cellsOf q.type)) = some y →
      (∀ m ∈ y.1.weights P q.type, m ≤ reachBytes) → ∃ x : a.den, Wf P.bytesOf a x ∧ Reps P w (fun b => b < w.heap.size) (trc I φ a x) ((cs.drop off).take a.flat.length) := by
    intro q a off y h hy hm
    obtain ⟨h1, h2, h3, _, _⟩ := hdF_facts h
    obtain ⟨x, hx1, hx2⟩ := IH q.type a h2 fuel _ y.1 y.2 hy hm
    rw [h1, h3] at hx2
    exact ⟨x, hx1, hx2⟩
  intro fs
  induction fs with
  | nil =>
    intro f off xs h _ _ _ hl
    cases f <;> first
      | (exact ⟨(), trivial, by simp only [Ty.flat, List.length_nil] at hl; rw [List.drop_eq_nil_of_le (by omega)]; exact ⟨rfl, fun j t hj => by simp [trc] at hj⟩⟩)
      | (simp only [rowF] at h; cases h)
  | cons q r ih =>
    intro f off xs h hlen hx hm hl
    obtain ⟨y, ys, rfl⟩ : ∃ y ys, xs = y :: ys := by
      cases xs with
      | nil => simp at hlen
      | cons y ys => exact ⟨y, ys, rfl⟩
    have hy := hx 0 q rfl
    simp only [List.getElem?_cons_zero] at hy
    have hmy : ∀ m ∈ y.1.weights P q.type, m ≤ reachBytes := weights_each hm (j := 0) rfl rfl
    cases r with
    | nil =>
      simp only [rowF, Bool.and_eq_true] at h
      obtain ⟨x, h1, h2⟩ := hd1 q f off y h.2 hy hmy
      refine ⟨x, h1, ?_⟩
      rwa [List.take_of_length_le (by rw [List.length_drop]; omega)] at h2
    | cons q2 r2 =>
      cases f with
      | pair a b =>
        simp only [rowF, Bool.and_eq_true] at h
        simp only [Ty.flat, List.length_append] at hl
        obtain ⟨x, h1, h2⟩ := hd1 q a off y h.1 hy hmy
        obtain ⟨z, h3, h4⟩ := ih b (off + a.flat.length) ys h.2 (by simpa using hlen) (fun i q' hq => by have := hx (i + 1) q' (by simpa using hq); simpa using this)
          (fun m hm' => hm m (by simp only [List.map_cons, DataW.weightsEach, List.mem_append]; exact .inr (by simpa using hm'))) (by omega)
        refine ⟨(x, z), ⟨h1, h3⟩, ?_⟩
        have := reps_append h2 h4
        rw [← List.drop_drop, List.take_append_drop] at this
        exact this
      | _ => simp only [rowF] at h; cases h
theorem rd_ok : ∀ n, RdOk (H := H) enc P I φ w spare held n
  | 0 => fun t A h => by simp [rdT] at h
  | n + 1 => by
    intro t A h fuel cs d ps htr hm
    unfold rdT at h
    cases A with
    | bool =>
      simp only at h
      split at h
      · rename_i hu
        obtain ⟨b, rfl, _⟩ := DataW.trod_bool hu htr
        exact ⟨b, trivial, reps_one (.b b)⟩
      · cases h
    | int k =>
      simp only at h
      split at h
      · rename_i k' hu
        have hk : k' = k := of_decide_eq_true h
        subst hk
        obtain ⟨m, rfl, _, hw⟩ := DataW.trod_int hu htr
        exact ⟨m, hw, reps_one (.i k' m)⟩
      · cases h
    | str =>
      simp only at h
      split at h
      · rename_i hu
        obtain ⟨s, rfl, hx, hs⟩ := DataW.trod_string hu htr
        simp only [Prod.mk.injEq] at hx
        refine ⟨s.data.toList, ?_, ?_⟩
        · rw [hx.1] at hm
          have := hm s.data.toList.length (by simp [DataW.weights])
          exact this
        · have : (⟨s.data.toList.toArray⟩ : ByteArray) = s := by
            apply ByteArray.ext; simp
          show Reps P w _ [T.s ⟨s.data.toList.toArray⟩] _
          rw [this]
          exact reps_one (.s s)
      · cases h
    | st f =>
      simp only at h
      split at h
      · rename_i fs hu
        simp only [Bool.and_eq_true] at h
        obtain ⟨xs, m, rfl, hx, hl, hlen, hel⟩ := DataW.trod_struct hu htr
        have hf := (beq_iff _ _).1 h.2
        simp only [Prod.mk.injEq] at hx
        rw [hx.1] at hm
        obtain ⟨x, h1, h2⟩ := rd_row (rd_ok n) fs.toList f 0 xs h.1 (by rw [hlen]; simp) (fun i q hq => hel i q (by simpa using hq)) (fun k hk => hm k (by simp only [DataW.weights, hu]; exact hk)) (by rw [hl, hf]; simp)
        rw [List.drop_zero] at h2
        exact ⟨x, h1, h2⟩
      · cases h
    | sl e a =>
      simp only at h
      split at h
      · rename_i e' hu
        simp only [Bool.and_eq_true] at h
        obtain ⟨h1, h2, h3, h4, h5⟩ := h
        have h1 := (beq_iff _ _).1 h1
        subst h1
        have h3 := (beq_iff _ _).1 h3
        have h4 : Eng.aggOf P e' = a.isAgg := by simpa using h4
        have hpos : 0 < a.flat.length := by
          cases hf : a.flat with
          | nil => rw [hf] at h5; cases h5
          | cons => simp
        rcases DataW.trod_slice hu htr with ⟨rfl, _⟩ | ⟨ad, len, cap, elems, rest, m, rfl, rfl, hx, _, hlc, _, hlen, hel, _, _⟩
        · exact ⟨[], ⟨by simp, fun x hx => by simp at hx⟩, reps_one (.nsl e' false)⟩
        · simp only [Prod.mk.injEq] at hx
          rw [hx.1] at hm
          simp only [DataW.weights, hu, List.mem_cons, List.mem_append] at hm
          have hbytes := hm _ (.inl rfl)
          rw [List.length_map, List.length_map] at hbytes
          have each : ∀ i, i < len → ∃ x : a.den, Wf P.bytesOf a x ∧ ∃ us, w.cells? 0 (ad.add (i * P.cellsOf e')) (P.cellsOf e') = some us ∧ Reps P w (fun b => b < w.heap.size) (trc I φ a x) us := by
            intro i hi
            have hi' : i < elems.length := by omega
            have he := hel i hi
            rw [List.getElem?_eq_getElem hi'] at he
            obtain ⟨us, hus, htr'⟩ := Option.bind_eq_some_iff.1 he
            obtain ⟨x, hx1, hx2⟩ := rd_ok n e' a h2 m us elems[i].1 elems[i].2 htr' (fun k hk => hm k (.inr (.inl (weights_all_mem (List.mem_map.2 ⟨elems[i], List.getElem_mem hi', rfl⟩) k hk))))
            exact ⟨x, hx1, us, hus, hx2⟩
          obtain ⟨xs, hxl, hxs⟩ : ∃ xs : List a.den, xs.length = len ∧ ∀ i x, xs[i]? = some x → Wf P.bytesOf a x ∧ ∃ us, w.cells? 0 (ad.add (i * P.cellsOf e')) (P.cellsOf e') = some us ∧ Reps P w (fun b => b < w.heap.size) (trc I φ a x) us := by
            have : ∀ k, k ≤ len → ∃ xs : List a.den, xs.length = k ∧ ∀ i x, xs[i]? = some x → Wf P.bytesOf a x ∧ ∃ us, w.cells? 0 (ad.add (i * P.cellsOf e')) (P.cellsOf e') = some us ∧ Reps P w (fun b => b < w.heap.size) (trc I φ a x) us := by
              intro k
              induction k with
              | zero => exact fun _ => ⟨[], rfl, fun i x hx => by simp at hx⟩
              | succ k ihk =>
                intro hk
                obtain ⟨xs, hxl, hxs⟩ := ihk (by omega)
                obtain ⟨x, hx⟩ := each k (by omega)
                refine ⟨xs ++ [x], by simp [hxl], fun i y hy => ?_⟩
                by_cases hi : i < xs.length
                · rw [List.getElem?_append_left hi] at hy; exact hxs i y hy
                · rw [List.getElem?_append_right (by omega)] at hy
                  have hik : i = k := by
                    have := lt_of_get hy
                    simp at this; omega
                  subst hik
                  rw [hxl] at hy
                  simp only [Nat.sub_self, List.getElem?_cons_zero, Option.some.injEq] at hy
                  subst hy
                  exact hx
            exact this len (Nat.le_refl _)
          refine ⟨xs, ⟨?_, fun x hx => ?_⟩, ?_⟩
          · rw [hxl, ← hlen]
            exact Nat.le_trans (Nat.mul_le_mul_right _ (Nat.le_add_right _ _)) hbytes
          · obtain ⟨i, hi⟩ := List.getElem?_of_mem hx
            exact (hxs i x hi).1
          · refine reps_one ?_
            have hfit : ∀ y ∈ xs.map (fun x => one a (trc I φ a x)), Eng.Fits P e' y := by
              intro y hy
              obtain ⟨x, _, rfl⟩ := List.mem_map.1 hy
              exact fits_of_ty h3.symm h4.symm x
            by_cases hl0 : len = 0
            · subst hl0
              have : xs = [] := List.eq_nil_of_length_eq_zero hxl
              subst this
              exact .esl e' false ad cap
            · have hcell : ∀ i x, xs[i]? = some x → ∃ us : List Value, us.length = P.cellsOf e' ∧ (∀ j, j < P.cellsOf e' → w.cell? ((ad.add (i * P.cellsOf e')).add j) = us[j]?) ∧ Reps P w (fun b => b < w.heap.size) (trc I φ a x) us := by
                intro i x hx
                obtain ⟨_, us, hus, hr⟩ := hxs i x hx
                unfold World.cells? at hus
                rw [if_pos (Nat.zero_le _)] at hus
                exact ⟨us, by simpa using mapM_some_length hus, fun j hj => mapM_some_get hus j j (by simp [hj]), hr⟩
              obtain ⟨adb, ado, ads⟩ := ad
              have hspot : ads = none ∧ adb < w.heap.size := by
                obtain ⟨us, hus, hc, hr⟩ := hcell 0 xs[0] (List.getElem?_eq_getElem (by omega))
                have h6 := hc 0 (by omega)
                simp only [Nat.zero_mul, Addr.add, if_true] at h6
                have h7 : us[0]? = some us[0] := List.getElem?_eq_getElem (by omega)
                rw [h7] at h6
                refine ⟨?_, World.block_lt_of_cell? w _ h6⟩
                unfold World.cell? at h6
                split at h6
                · split at h6
                  · cases h6
                  · rename_i hs
                    simpa using hs
                · cases h6
              obtain ⟨rfl, hlt⟩ := hspot
              have hat : ∀ j t, (Eng.flat (xs.map fun x => one a (trc I φ a x)))[j]? = some t → ∃ u, w.cell? ⟨adb, ado + j, none⟩ = some u ∧ RepT P w (fun b => b < w.heap.size) t u := by
                intro j t hj
                obtain ⟨_, _, x, hi, ho⟩ := flat_at hfit hj
                have hjo : j = j / P.cellsOf e' * P.cellsOf e' + j % P.cellsOf e' := by rw [Nat.mul_comm]; exact (Nat.div_add_mod _ _).symm
                generalize j / P.cellsOf e' = i at hi hjo
                generalize j % P.cellsOf e' = o at ho hjo
                rw [List.getElem?_map, Option.map_eq_some_iff] at hi
                obtain ⟨x', hx', rfl⟩ := hi
                have ho : (trc I φ a x')[o]? = some t := by rw [← ho]; exact congrArg (·[o]?) (tr_cells (I := I) (φ := φ) a x').symm
                obtain ⟨us, hus, hc, hr⟩ := hcell i x' hx'
                obtain ⟨u, hu, hru⟩ := hr.2 o t ho
                have hol : o < P.cellsOf e' := by
                  have := lt_of_get hu
                  omega
                have h8 := hc o hol
                rw [hu, Eng.addr_add, Eng.addr_add, Nat.add_assoc, ← hjo] at h8
                exact ⟨u, h8, hru⟩
              have hlm : len = (xs.map fun x => one a (trc I φ a x)).length := by simp [hxl]
              rw [hlm]
              refine .sl e' false _ adb ado cap (fun j => (w.cell? ⟨adb, ado + j, none⟩).getD undef) (fun _ => hlt) hfit (by rw [← hlm]; exact hlc) (fun j t hj => ?_) fun j t hj => ?_
              · obtain ⟨u, hu, _⟩ := hat j t hj
                simp [hu]
              · obtain ⟨u, hu, hr⟩ := hat j t hj
                simp only [hu, Option.getD_some]
                exact hr
      · cases h
    | _ => cases h
end
end Go.Y
namespace Go.Y
open Go.Eng (T RepT RepM SRep Kept Base G SameOn VRep Split Live Free kn)
open Go.ChangeShapes Go.WideShapes Go.RowKit
variable {P : Program} {I : Ids} {φ : FnP}
def rdAll (P : Program) : List TypeId → List Ty → Bool
  | [], [] => true
  | t :: ts, A :: As => rdT P 24 t A && (P.readableRec t && (Nat.blt t P.types.size && (Eng.aggOf P t == A.isAgg && rdAll P ts As)))
  | _, _ => false
theorem cells_one {v : Value} {c : Value} (h : v.cells.toList = [c]) : v = c ∨ v = .agg #[c] := by
  cases v with
  | agg cs =>
    refine .inr ?_
    have h : cs.toList = [c] := h
    cases cs; simp_all
  | _ => simp_all [Value.cells]
theorem rd_value {H : Type} {enc : TypeId × Value → H} {w : World} {r : Reach} {b0 : Nat} {t : TypeId} {A : Ty} {v : Value} {x : A.den} (h : rdT P 24 t A = true) (hag : Eng.aggOf P t = A.isAgg) (hval : Value.okWide P w r b0 t v)
    {F : Nat → Prop} (hr : Reps P w F (trc I φ A x) v.cells.toList) : RepT P w F (tr I φ A x) v := by
  cases hA : A.isAgg with
  | true =>
    rw [tr_agg A hA]
    have hu : ∃ cs, v = .agg cs := by
      unfold Eng.aggOf at hag
      unfold Value.okWide at hval
      rw [hA] at hag
      split at hval
      · obtain ⟨cs, hv, _⟩ := hval; exact ⟨cs, hv⟩
      · obtain ⟨cs, hv, _⟩ := hval; exact ⟨cs, hv⟩
      · split at hag
        · simp_all
        · simp_all
        · cases hag
    obtain ⟨cs, rfl⟩ := hu
    refine .ag _ cs (fun j => cs.getD j undef) (by have := hr.1; simp [Value.cells] at this; exact this.symm) (fun j t hj => ?_) fun j t hj => ?_
    · obtain ⟨u, hu, _⟩ := hr.2 j t hj
      simp only [Value.cells, Array.getElem?_toList] at hu
      simp [hu]
    · obtain ⟨u, hu, hr'⟩ := hr.2 j t hj
      simp only [Value.cells, Array.getElem?_toList] at hu
      simpa [hu] using hr'
  | false =>
    have hs := tr_single (I := I) (φ := φ) A hA x
    rw [hs] at hr
    obtain ⟨u, hu, hr'⟩ := hr.2 0 _ rfl
    have hlen := hr.1
    have hcs : v.cells.toList = [u] := by
      cases hc : v.cells.toList with
      | nil => rw [hc] at hu; simp at hu
      | cons y ys =>
        rw [hc] at hu hlen
        cases ys with
        | nil => simp only [List.getElem?_cons_zero, Option.some.injEq] at hu; subst hu; rfl
        | cons z zs => simp at hlen
    rcases cells_one hcs with rfl | rfl
    · exact hr'
    · exfalso
      rw [hA] at hag
      unfold Value.okWide at hval
      unfold Eng.aggOf at hag
      split at hval
      · rename_i h1; rw [h1] at hag; cases hag
      · rename_i h1; rw [h1] at hag; cases hag
      · unfold Cell.okWide Cell.ok at hval
        simp only at hval
        split at hval <;> simp_all
theorem rd_args {H : Type} {enc : TypeId × Value → H} {w : World} {spare : Nat → Bool} {held : Bool} {r : Reach} {b0 : Nat} :
    ∀ (ts : List TypeId) (As : List Ty) (vs : List Value) (ds : List (DataW H)) (ps : List MemPlace), rdAll P ts As = true → DataW.TrodAll enc P w 0 spare held ts vs ds ps →
      (∀ (j : Nat) t v, ts[j]? = some t → vs[j]? = some v → Value.okWide P w r b0 t v) → (∀ m ∈ DataW.weightsEach P ts ds, m ≤ reachBytes) →
      ∃ ls : List L, ls.map (·.ty) = As ∧ (∀ l ∈ ls, Wf P.bytesOf l.ty l.val) ∧ vs.length = ls.length ∧ ds.length = ts.length ∧ ∀ (j : Nat) l, ls[j]? = some l → ∃ u, vs[j]? = some u ∧ RepT P w (fun b => b < w.heap.size) (trL I φ l) u
  | [], [], vs, ds, ps, _, h, _, _ => by
    cases vs <;> cases ds <;> simp_all [DataW.TrodAll]
  | t :: ts, A :: As, vs, ds, ps, h, hT, hval, hm => by
    simp only [rdAll, Bool.and_eq_true] at h
    obtain ⟨v, vs', d, ds', p, q, rfl, rfl, rfl, hd, hrest⟩ := trodAll_cons hT
    obtain ⟨fuel, hf⟩ := hd
    obtain ⟨x, hx1, hx2⟩ := rd_ok (I := I) (φ := φ) 24 t A h.1 fuel _ d p hf (fun m hm' => hm m (by simp only [DataW.weightsEach, List.mem_append]; exact .inl hm'))
    obtain ⟨ls, h1, h2, h3, h5, h4⟩ := rd_args ts As vs' ds' q h.2.2.2.2 hrest (fun j t v ht hv => hval (j + 1) t v (by simpa using ht) (by simpa using hv)) (fun m hm' => hm m (by simp only [DataW.weightsEach, List.mem_append]; exact .inr hm'))
    refine ⟨⟨A, x⟩ :: ls, by simp [h1], ?_, by simp [h3], by simp [h5], ?_⟩
    · intro l hl
      rcases List.mem_cons.1 hl with rfl | hl
      · exact hx1
      · exact h2 l hl
    · intro j l hj
      cases j with
      | zero =>
        simp only [List.getElem?_cons_zero, Option.some.injEq] at hj
        subst hj
        exact ⟨v, rfl, rd_value (enc := enc) h.1 (by simpa using h.2.2.2.1) (hval 0 t v rfl rfl) hx2⟩
      | succ j => exact h4 j l (by simpa using hj)
  | [], _ :: _, _, _, _, h, _, _, _ => by simp [rdAll] at h
  | _ :: _, [], _, _, _, h, _, _, _ => by simp [rdAll] at h
theorem rd_back {H : Type} {enc : TypeId × Value → H} {W W' : World} (hl : laidOutB P = true) (hb : Below W.heap.size W W') :
    ∀ (ts : List TypeId) (As : List Ty) (vs : List Value) (ds : List (DataW H)) (ps : List MemPlace), rdAll P ts As = true → DataW.TrodAll enc P W 0 (fun _ => true) true ts vs ds ps →
      DataW.TrodAll enc P W' 0 (fun b => decide (b < W.heap.size)) true ts vs ds ps
  | [], [], vs, ds, ps, _, h => by
    cases vs <;> cases ds <;> simp_all [DataW.TrodAll]
  | t :: ts, A :: As, vs, ds, ps, h, hT => by
    simp only [rdAll, Bool.and_eq_true] at h
    obtain ⟨v, vs', d, ds', p, q, rfl, rfl, rfl, hd, hrest⟩ := trodAll_cons hT
    refine ⟨p, q, Below.trod hl h.2.1 (by have := h.2.2.1; rwa [Nat.blt_eq] at this) hd hb ?_, rd_back hl hb ts As vs' ds' q h.2.2.2.2 hrest, rfl⟩
    obtain ⟨fuel, hf⟩ := hd
    exact DataW.trod_lt fuel _ _ _ hf
  | [], _ :: _, _, _, _, h, _ => by simp [rdAll] at h
  | _ :: _, [], _, _, _, h, _ => by simp [rdAll] at h
theorem tupL_wf (by_ : TypeId → Nat) : ∀ (vs : List L), (∀ l ∈ vs, Wf by_ l.ty l.val) → Wf by_ (tupL vs).ty (tupL vs).val
  | [], _ => trivial
  | [v], h => h v (by simp)
  | v :: w :: r, h => ⟨h v (by simp), tupL_wf by_ (w :: r) fun l hl => h l (by simp [hl])⟩
def boolOut : St Ty := ⟨[(0, .lf .bool)], [], []⟩
theorem law_calls {H : Type} {enc : TypeId × Value → H} {f : FuncId} {fn : Func} {s : ChangeSpec} {As : List Ty} {F : Nat → (tupTy As).den → Option Bool} {ins : St Ty} {h0 : JH}
    (hl : laidOutB P = true) (hrd : rdAll P fn.params.toList As = true) (hvars : s.vars = []) (hspec : ∀ ds : List (DataW H), ds.length = fn.params.toList.length → s.fn H ds = { results := [.lit (.bool true)], args := ds })
    (hres : ∃ t, fn.resultTypes = #[t] ∧ P.underlying t = some .bool) (hins : ins = lfState As)
    (hOk : ∀ N, FnOk P I φ f ⟨ins, boolOut, false, [], h0, none⟩ ⟨tupTy As, .bool, F N⟩)
    (pure : ∀ x : (tupTy As).den, Wf P.bytesOf (tupTy As) x → ∃ N, F N x = some true)
    {W : World} {base : Nat} {args : Array Value} {ds gs : List (DataW H)} {before : List MemPlace}
    (hval : ∀ (j : Nat) t v, fn.params[j]? = some t → args[j]? = some v → Value.okWide P W .any base t v)
    (hW : DataW.Whole enc P fn.params.toList s.vars false W args.toList ds gs before)
    (hsz : (DataW.weightsEach P (fn.params.toList ++ s.plain.varTypes P) (ds ++ gs)).all (· ≤ reachBytes) = true) (hgl : GlobW I W) :
    Calls P f args W fun e W' => ∃ v, e = .returned v ∧ s.post enc P fn false true false false W args v W' := by
  have hW' := hW
  obtain ⟨p, q, hA, hV, rfl, hfz, hnd⟩ := hW
  rw [hvars] at hV
  obtain ⟨rfl, rfl⟩ := trodVars_none hV
  have hm : ∀ m ∈ DataW.weightsEach P fn.params.toList ds, m ≤ reachBytes := by
    intro m hm
    have hvt : s.plain.varTypes P = [] := by
      have : s.plain.vars = [] := hvars
      unfold DataSpec.varTypes
      rw [this]; rfl
    rw [hvt, List.append_nil, List.append_nil] at hsz
    simpa using List.all_eq_true.1 hsz m hm
  obtain ⟨ls, h1, h2, h3, h5, h4⟩ := rd_args (I := I) (φ := φ) fn.params.toList As args.toList ds p hrd hA (fun j t v ht hv => hval j t v (by simpa using ht) (by simpa using hv)) hm
  have hx : ∃ x, (tupL ls).as (tupTy As) = some x ∧ Wf P.bytesOf (tupTy As) x := by
    rw [← h1, ← tupL_ty]
    exact ⟨_, as_self _, tupL_wf _ ls h2⟩
  obtain ⟨x, hx1, hx2⟩ := hx
  obtain ⟨N, hN⟩ := pure x hx2
  refine ((hOk N).leaf (ts := As) rfl hins rfl x true hN ls hx1 h1 W (fun b => b < W.heap.size) args hgl (fun b hb => hb) (by simpa using h3) (fun j l hj => by
    obtain ⟨u, hu, hr⟩ := h4 j l hj
    exact ⟨u, by simpa using hu, hr⟩)).mono fun e W' ⟨u, he, g', rs, hrs, hinv, hrep⟩ => ?_
  have hrs := hrs []
  have hrs : some [(⟨.bool, true⟩ : L)] = some rs := hrs
  simp only [Option.some.injEq] at hrs
  subst hrs
  have hu := hrep (.lf ⟨.bool, true⟩) rfl
  have hu := repB (arep_lf hu)
  subst hu
  have bel : Below W.heap.size W W' := ⟨hinv.k.os, hinv.k.tape, hinv.k.output, hinv.k.size, fun b hb => hinv.k.block b hb (fun h => h)⟩
  obtain ⟨t, ht1, ht2⟩ := hres
  have hsp := hspec ds h5
  refine ⟨_, he, ds, [], _, [], p, [], hW', ?_, ?_, ?_, bel.frame _, fun h => by cases h⟩
  · rw [List.append_nil, hsp, ht1]
    exact trodAll_mk1 (shut_bool ht2 _)
  · rw [List.append_nil, hsp]
    exact rd_back hl bel _ _ _ _ _ hrd hA
  · rw [List.append_nil, hsp, hvars]
    rfl
end Go.Y
namespace Go.Y
variable {α β ρ : Type}
theorem wr_i64 {n : Int} (h0 : -9223372036854775808 ≤ n) (h1 : n ≤ 9223372036854775807) : wr .i64 n = n := by
  show (if true && decide (n % (2 ^ 64 : Int) ≥ (2 ^ 63 : Int)) then n % (2 ^ 64 : Int) - (2 ^ 64 : Int) else n % (2 ^ 64 : Int)) = n
  simp only [Bool.true_and, decide_eq_true_eq]
  split <;> omega
theorem wr_succ {i m : Nat} (h : i < m) (hm : m ≤ 9223372036854775807) : wr .i64 ((i : Int) + 1) = ((i + 1 : Nat) : Int) := by
  rw [wr_i64 (by omega) (by omega)]; omega
@[simp] theorem pIf_t (a b : Option ρ) : pIf true a b = a := rfl
@[simp] theorem pIf_f (a b : Option ρ) : pIf false a b = b := rfl
@[simp] theorem pCk_t (k : Option ρ) : pCk true k = k := rfl
@[simp] theorem pCall_s (x : α) (k : α → Option ρ) : pCall (some x) k = k x := rfl
@[simp] theorem pCallG_t (d : α) (o : Option α) (k : α → Option ρ) : pCallG true d o k = pCall o k := rfl
@[simp] theorem pCallG_f (d : α) (o : Option α) (k : α → Option ρ) : pCallG false d o k = k d := rfl
@[simp] theorem pIdxG_t (d : α) (xs : List α) (i : Int) (k : α → Option ρ) : pIdxG true d xs i k = pIdx xs i k := rfl
@[simp] theorem pIdxG_f (d : α) (xs : List α) (i : Int) (k : α → Option ρ) : pIdxG false d xs i k = k d := rfl
@[simp] theorem pLet_ (a : α) (k : α → Option ρ) : pLet a k = k a := rfl
@[simp] theorem pJoin_ (k : α → Option ρ) (b : (α → Option ρ) → Option ρ) : pJoin k b = b k := rfl
@[simp] theorem pick_t (a b : α) : pick true a b = a := rfl
@[simp] theorem pick_f (a b : α) : pick false a b = b := rfl
@[simp] theorem len_ (xs : List α) : len xs = (xs.length : Int) := rfl
theorem ix_nat {xs : List α} {i : Nat} : ix xs (i : Int) = xs[i]? := by
  unfold ix
  rw [decide_eq_true (Int.natCast_nonneg i), Int.toNat_natCast]
theorem pIdx_nat {xs : List α} {i : Nat} {x : α} (h : xs[i]? = some x) (k : α → Option ρ) : pIdx xs (i : Int) k = k x := by
  unfold pIdx; rw [ix_nat, h]; rfl
theorem pIdx_lt {xs : List α} {i : Nat} (h : i < xs.length) (k : α → Option ρ) : pIdx xs (i : Int) k = k xs[i] :=
  pIdx_nat (List.getElem?_eq_getElem h) k
theorem room_of {b : Nat} {n : Int} (h : n * b ≤ 140737488355328) (h1 : n ≤ 140737488355328) : room b n = true := by
  exact room_iff.2 ⟨h, h1⟩
end Go.Y
namespace Go.Y
theorem loop_all {ρ : Type} (L : Nat → Nat → ρ) (m : Nat) (p : Nat → Bool) (yes no : ρ) (hs : ∀ n i, i < m → L (n + 1) i = bif p i then L n (i + 1) else no) (h1 : ∀ n, L (n + 1) m = yes) :
    ∀ n i, i ≤ m → m < n + i → L n i = bif (List.range' i (m - i)).all p then yes else no
  | 0, i, hi, hn => by omega
  | n + 1, i, hi, hn => by
    by_cases h : i = m
    · subst h
      rw [h1, Nat.sub_self]; rfl
    · have ih := loop_all L m p yes no hs h1 n (i + 1) (by omega) (by omega)
      rw [hs n i (by omega), ih, show m - i = (m - (i + 1)) + 1 by omega, List.range'_succ, List.all_cons]
      cases p i <;> simp
theorem loop_all0 {ρ : Type} (L : Nat → Nat → ρ) (m : Nat) (p : Nat → Bool) (yes no : ρ) (hs : ∀ n i, i < m → L (n + 1) i = bif p i then L n (i + 1) else no) (h1 : ∀ n, L (n + 1) m = yes) {n : Nat} (hn : m < n) :
    L n 0 = bif (List.range m).all p then yes else no := by
  have := loop_all L m p yes no hs h1 n 0 (Nat.zero_le _) hn
  rw [this, List.range_eq_range', Nat.sub_zero]
end Go.Y
namespace Go.Y
theorem f_Same_ok (N : Nat) (a b : List Int) (hN : a.length < N) (ha : a.length ≤ 9223372036854775807) : avermentref01_Same N a b = some (decide (a = b)) := by
  unfold avermentref01_Same
  by_cases h : a.length = b.length
  · rw [show decide ((len a) = (len b)) = true from decide_eq_true (by simp [h])]
    show avermentref01_Same_l5 N (fun _ => some true) (fun x0 => some x0) N a b ((0 : Nat) : Int) = _
    rw [loop_all0 (fun n i => avermentref01_Same_l5 N (fun _ => some true) (fun x0 => some x0) n a b (i : Int)) a.length (fun i => decide (a[i]? = b[i]?)) (some true) (some false) (fun n i hi => ?_) (fun n => ?_) hN]
    · cases hq : (List.range a.length).all fun i => decide (a[i]? = b[i]?) with
      | true =>
        have : a = b := List.ext_getElem? fun j => by
          by_cases hj : j < a.length
          · have := List.all_eq_true.1 hq j (List.mem_range.2 hj)
            exact of_decide_eq_true this
          · rw [List.getElem?_eq_none (by omega), List.getElem?_eq_none (by omega)]
        rw [decide_eq_true this]; rfl
      | false =>
        have : a ≠ b := fun e => by subst e; simp at hq
        rw [decide_eq_false this]; rfl
    · show pIf (decide ((i : Int) < len a)) _ _ = _
      rw [decide_eq_true (by show (i : Int) < (a.length : Int); omega), pIf_t, pIdx_lt hi, pIdx_lt (h ▸ hi), wr_succ hi ha, List.getElem?_eq_getElem hi, List.getElem?_eq_getElem (h ▸ hi)]
      by_cases he : a[i] = b[i]'(h ▸ hi)
      · simp [he]
      · simp [he]
    · show pIf (decide ((a.length : Int) < len a)) _ _ = _
      rw [decide_eq_false (by show ¬ (a.length : Int) < (a.length : Int); omega)]
      rfl
  · rw [show decide ((len a) = (len b)) = false from decide_eq_false (by simp; omega)]
    rw [decide_eq_false (fun e => h (by rw [e]))]
    rfl
theorem eAt_no {e : Err} (h : e ≠ .nil) (l : List Int) : eAt e l = l.foldr Err.at e := by
  cases e with
  | nil => exact absurd rfl h
  | _ => rfl
theorem path_at (e : Err) : ∀ l : List Int, ePath (l.foldr Err.at e) = l ++ ePath e
  | [] => rfl
  | x :: r => by
    show x :: ePath (r.foldr Err.at e) = x :: (r ++ ePath e)
    rw [path_at e r]
theorem nn_at {e : Err} (h : e ≠ .nil) : ∀ l : List Int, l.foldr Err.at e ≠ .nil
  | [] => h
  | _ :: _ => fun h => by cases h
theorem zAtT_ok (e : Err) {l : List Int} (h : l.length ≤ 4611686018427387904) : zAtT e l = some (eAt e l) := by
  show (match decide (l.length ≤ 4611686018427387904) with | true => some (eAt e l) | false => none) = _
  rw [decide_eq_true h]
theorem zPathT_ok {e : Err} (h : (ePath e).length ≤ 17592186044416) : zPathT e = some (ePath e) := by
  show (match decide ((ePath e).length ≤ 17592186044416) with | true => some (ePath e) | false => none) = _
  rw [decide_eq_true h]
def I64 (x : Int) : Prop := -9223372036854775808 ≤ x ∧ x ≤ 9223372036854775807
structure Made (k : Int) (e : Err) (all : List Int) (i : Nat) : Prop where
  nn : e ≠ .nil
  num : eNum e = some k
  path : ePath e = all
  ok : errOk e = true
  len : all.length ≤ 6 * i
  rng : ∀ x ∈ all, I64 x
end Go.Y
namespace Go.Y
theorem text_loop (N : Nat) (K : Err × List (List UInt8) → Option (List UInt8)) (e : Err) (l : List Int) (hl : l.length ≤ 1000) (hr : ∀ x ∈ l, I64 x) :
    ∀ (n i : Nat) (acc : List (List UInt8)), i ≤ l.length → acc.length = i → l.length - i < n → fault_Text_l4 N K n e (len l) (i : Int) acc l = K (e, acc ++ (l.drop i).map Lib.itoa)
  | 0, _, _, _, _, h => absurd h (Nat.not_lt_zero _)
  | n + 1, i, acc, hi, ha, hn => by
    rw [fault_Text_l4]
    by_cases h : i < l.length
    · rw [decide_eq_true (by simp only [len_]; omega), pIf_t, decide_eq_true (show (0 : Int) ≤ (i : Int) by omega), Bool.true_and, pCk_t, pIdx_lt h]
      have hx := hr _ (List.getElem_mem h)
      rw [show strconv_Itoa N l[i] = some (Lib.itoa l[i]) by
        show zItoa l[i] = _
        unfold zItoa
        rw [decide_eq_true (show -9223372036854775808 ≤ l[i] ∧ l[i] ≤ 9223372036854775807 from hx)], pCall_s]
      rw [room_of (by simp only [len_, List.length_append, List.length_singleton]; omega) (by simp only [len_, List.length_append, List.length_singleton]; omega), pCk_t, wr_succ h (by omega)]
      rw [text_loop N K e l hl hr n (i + 1) _ (by omega) (by simp [ha]) (by omega), List.drop_eq_getElem_cons h, List.map_cons, List.append_assoc]
      rfl
    · rw [decide_eq_false (by simp only [len_]; omega), pIf_f, List.drop_of_length_le (by omega)]
      simp
def textOf (l : List Int) (nm : List UInt8) : List UInt8 := if l = [] then nm else (Lib.join (l.map Lib.itoa) [46] ++ [32]) ++ nm
theorem lens_le {xs : List (List UInt8)} (h : ∀ x ∈ xs, x.length ≤ 21) : Lib.lens xs ≤ 21 * xs.length := by
  induction xs with
  | nil => simp [Lib.lens]
  | cons x r ih =>
    have h1 := h x (by simp)
    have h2 := ih fun y hy => h y (by simp [hy])
    simp only [Lib.lens, List.map_cons, List.sum_cons, List.length_cons] at h2 ⊢
    omega
theorem tail_len {l : List Int} (hr : ∀ x ∈ l, I64 x) : (Lib.joinTail [46] (l.map Lib.itoa)).length ≤ 22 * l.length := by
  rw [Lib.joinTail_length]
  have := lens_le (xs := l.map Lib.itoa) fun y hy => by
    obtain ⟨x, hx, rfl⟩ := List.mem_map.1 hy
    exact Lib.itoa_length_le x (hr x hx).1 (hr x hx).2
  rw [List.length_map] at *
  simp only [List.length_singleton]
  omega
theorem join_len {l : List Int} (hr : ∀ x ∈ l, I64 x) : (Lib.join (l.map Lib.itoa) [46]).length ≤ 22 * l.length := by
  cases l with
  | nil => simp [Lib.join_nil]
  | cons x r =>
    rw [List.map_cons, Lib.join_cons, List.length_append]
    have h1 := Lib.itoa_length_le x (hr x (by simp)).1 (hr x (by simp)).2
    have h2 := tail_len (l := r) fun y hy => hr y (by simp [hy])
    rw [List.length_cons]
    omega
theorem Text_ok (N : Nat) {e : Err} {l : List Int} {k : Int} {nm : List UInt8} (hN : l.length < N) (hp : ePath e = l) (hl : l.length ≤ 1000) (hr : ∀ x ∈ l, I64 x) (hk : zKindT e = some k) (hnm : api_Errno_Error N k = some nm) (hn : nm.length ≤ 20) :
    fault_Text N e = some (textOf l nm) := by
  unfold fault_Text
  rw [show fault_Path N e = some l by rw [← hp]; exact zPathT_ok (by rw [hp]; omega), pCall_s]
  have := text_loop N (fun x1 => pCall (fault_Kind N x1.1) fun x2 =>
      pCall (api_Errno_Error N x2) fun x3 =>
      pIf (decide ((len x1.2) = 0))
        (some x3)
        (pCall (strings_Join N x1.2 [46]) fun x4 =>
        pCk (room 1 (len (x4 ++ [32]))) <|
        pCk (room 1 (len ((x4 ++ [32]) ++ x3))) <|
        some ((x4 ++ [32]) ++ x3))) e l hl hr N 0 [] (Nat.zero_le _) rfl (by omega)
  refine Eq.trans this ?_
  rw [List.nil_append, List.drop_zero]
  show pCall (zKindT e) _ = _
  rw [hk, pCall_s, hnm, pCall_s]
  unfold textOf
  cases l with
  | nil => rfl
  | cons x r =>
    rw [if_neg (by simp)]
    rw [decide_eq_false (by simp; omega), pIf_f]
    have hj := join_len hr
    have hj2 : (Lib.join ((x :: r).map Lib.itoa) [46]).length ≤ 22000 := by omega
    rw [show strings_Join N ((x :: r).map Lib.itoa) [46] = some (Lib.join ((x :: r).map Lib.itoa) [46]) by
      show zJoin _ _ = _
      unfold zJoin
      rw [decide_eq_true (by rw [List.length_map]; omega), decide_eq_true (by omega)], pCall_s]
    generalize Lib.join ((x :: r).map Lib.itoa) [46] = q at hj2
    rw [room_of (by simp only [len_, List.length_append, List.length_singleton]; omega) (by simp only [len_, List.length_append, List.length_singleton]; omega), pCk_t]
    rw [room_of (by simp only [len_, List.length_append, List.length_singleton]; omega) (by simp only [len_, List.length_append, List.length_singleton]; omega), pCk_t]
theorem itoa_small (u : Nat) (h : u < 10) : Lib.itoa (u : Int) = [UInt8.ofNat (48 + u)] := by
  unfold Lib.itoa
  rw [if_neg (by omega), Int.toNat_natCast, Lib.decDigits, dif_pos h]
theorem tells_ok (N : Nat) (hN : 10 < N) : avermentlaw01_tells N = some true := by
  unfold avermentlaw01_tells
  rw [show fault_At N (Err.no 9) [3] = some (.at 3 (.no 9)) from rfl, pCall_s]
  rw [show fault_At N (.at 3 (.no 9)) [1, 2] = some (.at 1 (.at 2 (.at 3 (.no 9)))) from rfl, pCall_s]
  rw [show fault_Kind N (.at 1 (.at 2 (.at 3 (.no 9)))) = some 9 from rfl, pCall_s]
  rw [show decide ((9 : Int) = 9) = true from rfl, pCallG_t]
  rw [show fault_Path N (.at 1 (.at 2 (.at 3 (.no 9)))) = some [1, 2, 3] from rfl, pCall_s, pCallG_t]
  rw [f_Same_ok N [1, 2, 3] [1, 2, 3] (by simp; omega) (by simp), pCall_s, pLet_, pick_t]
  rw [show decide (([1, 2, 3] : List Int) = [1, 2, 3]) = true from rfl, pCallG_t]
  rw [Text_ok N (e := .at 1 (.at 2 (.at 3 (.no 9)))) (l := [1, 2, 3]) (k := 9) (nm := [114, 101, 103, 105, 115, 116, 101, 114]) (by simp; omega) rfl (by simp) (fun x hx => by
    simp only [List.mem_cons, List.not_mem_nil, or_false] at hx
    rcases hx with rfl | rfl | rfl <;> exact ⟨by decide, by decide⟩) rfl rfl (by decide), pCall_s]
  have : textOf [1, 2, 3] [114, 101, 103, 105, 115, 116, 101, 114] = [49, 46, 50, 46, 51, 32, 114, 101, 103, 105, 115, 116, 101, 114] := by
    unfold textOf
    rw [if_neg (by simp)]
    rw [show ([1, 2, 3] : List Int).map Lib.itoa = [[49], [50], [51]] by
      rw [List.map_cons, List.map_cons, List.map_cons, List.map_nil]
      rw [show Lib.itoa 1 = [49] from itoa_small 1 (by decide), show Lib.itoa 2 = [50] from itoa_small 2 (by decide), show Lib.itoa 3 = [51] from itoa_small 3 (by decide)]]
    rfl
  rw [this]
  rfl
end Go.Y
namespace Go.Y
end Go.Y
namespace Go.Y
theorem and_dec {p q : Prop} [Decidable p] [Decidable q] (hp : p) (hq : q) : (decide p && decide q) = true := by
  rw [decide_eq_true hp, decide_eq_true hq]; rfl
theorem apart8 (N : Nat) (k0 : (List Int) × Err × Err × List Int → Option Bool) (k1 : Bool → Option Bool) (places : List Int) (e f : Err) : ∀ (m i fuel : Nat) (l : List Int), i + m = l.length → l.length ≤ places.length → l.length ≤ 1000 → m < fuel →
    (∀ j, i ≤ j → j < l.length → l[j]? = places[j]?) → ∃ l', l'.length = l.length ∧ avermentlaw01_FaultApart_l8 N k0 k1 fuel places e f (i : Int) l = k0 (places, e, f, l')
  | m, i, 0, l, _, _, _, h, _ => absurd h (Nat.not_lt_zero _)
  | 0, i, fuel + 1, l, hi, _, _, _, _ => ⟨l, rfl, by
    rw [avermentlaw01_FaultApart_l8, decide_eq_false (by simp only [len_]; omega), pIf_f]⟩
  | m + 1, i, fuel + 1, l, hi, hp, hl, hf, he => by
    have h : i < l.length := by omega
    have hq : i < places.length := by omega
    have e1 := he i (Nat.le_refl _) h
    rw [List.getElem?_eq_getElem h, List.getElem?_eq_getElem hq, Option.some.injEq] at e1
    have hs : (setI l (i : Int) (bxor .i64 l[i] 1)).length = l.length := by simp [setI]
    obtain ⟨l', h1, h2⟩ := apart8 N k0 k1 places e f m (i + 1) fuel (setI l (i : Int) (bxor .i64 l[i] 1)) (by omega) (by omega) (by omega) (by omega) (fun j hj hjl => by
      rw [hs] at hjl
      rw [← he j (by omega) hjl]
      simp only [setI, Int.toNat_natCast]
      rw [List.getElem?_set_ne (by omega)])
    refine ⟨l', by rw [h1, hs], ?_⟩
    rw [avermentlaw01_FaultApart_l8, decide_eq_true (show (i : Int) < len l by simp only [len_]; omega), pIf_t, decide_eq_true (show (0 : Int) ≤ (i : Int) by omega)]
    simp only [Bool.true_and, pCk_t]
    rw [pIdx_lt h, pIdx_lt hq, e1, decide_eq_true rfl, Bool.not_true, pIf_f]
    rw [pIdx_lt h, pIdx_lt h, wr_succ h (by omega), h2]
theorem apart15 (N : Nat) (k0 : (List Int) × Err × Err × List Int → Option Bool) (places : List Int) (e f : Err) (l : List Int) : ∀ (m i fuel : Nat) (p : List Int), i + m = p.length → p.length ≤ 1000 → m < fuel →
    avermentlaw01_FaultApart_l15 N k0 fuel places e f (i : Int) l p = k0 (places, e, f, l)
  | m, i, 0, p, _, _, h => absurd h (Nat.not_lt_zero _)
  | 0, i, fuel + 1, p, hi, _, _ => by
    rw [avermentlaw01_FaultApart_l15, decide_eq_false (by simp only [len_]; omega), pIf_f]
  | m + 1, i, fuel + 1, p, hi, hl, hf => by
    have h : i < p.length := by omega
    have hs : (setI p (i : Int) (bxor .i64 p[i] 1)).length = p.length := by simp [setI]
    rw [avermentlaw01_FaultApart_l15, decide_eq_true (show (i : Int) < len p by simp only [len_]; omega), pIf_t, decide_eq_true (show (0 : Int) ≤ (i : Int) by omega)]
    simp only [Bool.true_and, pCk_t]
    rw [pIdx_lt h, pIdx_lt h, wr_succ h (by omega), apart15 N k0 places e f l m (i + 1) fuel _ (by omega) (by omega) (by omega)]
theorem FaultApart_plain {by_ : TypeId → Nat} {e0 : TypeId} (k : Int) (places : List Int) (h : Wf by_ (.pair (.int .i64) (.sl e0 (.int .i64))) (k, places)) : ∃ N, avermentlaw01_FaultApart N k places = some true := by
  refine ⟨100, ?_⟩
  have key : ∀ (J : Int × List Int → Option Bool), (∀ k', J (k', places) = some true) → pJoin J (fun J0 => pIf (decide (k = 0)) (J0 (9, places)) (J0 (k, places))) = some true := by
    intro J hJ
    rw [pJoin_]
    by_cases hk : k = 0
    · rw [decide_eq_true hk, pIf_t]; exact hJ _
    · rw [decide_eq_false hk, pIf_f]; exact hJ _
  unfold avermentlaw01_FaultApart
  refine key _ fun k' => ?_
  simp only
  obtain ⟨m, hm, hml, hm20⟩ : ∃ m : Nat, mnI (len places) 20 = (m : Int) ∧ m ≤ places.length ∧ m ≤ 20 := by
    unfold mnI
    by_cases hc : (20 : Int) < len places
    · rw [decide_eq_true hc]
      simp only [len_] at hc
      exact ⟨20, rfl, by omega, by omega⟩
    · rw [decide_eq_false hc]
      simp only [len_] at hc
      exact ⟨places.length, rfl, Nat.le_refl _, by omega⟩
  rw [hm]
  have hsub : sub places 0 (m : Int) = places.take m := by simp [sub]
  have hlen : (places.take m).length = m := by simp; omega
  have hnp : ∀ n : Nat, n = m → sub places 0 ((n : Nat) : Int) = places.take m := fun n hn => by rw [hn, hsub]
  rw [hsub, List.nil_append]
  rw [and_dec (by omega) (by simp only [len_]; omega), pCk_t, and_dec (by omega) (by omega), pCk_t]
  rw [room_of (by simp only [len_]; omega) (by simp only [len_]; omega), pCk_t]
  have hget : ∀ j, j < (places.take m).length → (places.take m)[j]? = places[j]? := fun j hj => by rw [List.getElem?_take_of_lt (by omega)]
  generalize hP : places.take m = P at hlen hget hnp ⊢
  have hE : Err.no k' ≠ .nil := fun h => by cases h
  rw [show fault_At_o 100 (Err.no k') P = some (P.foldr Err.at (.no k'), P) by
    show zAtO _ _ = _
    unfold zAtO
    rw [zAtT_ok _ (by omega), eAt_no hE], pCall_s]
  rw [show fault_At 100 (P.foldr Err.at (.no k')) [7] = some (.at 7 (P.foldr Err.at (.no k'))) by
    show zAtT _ _ = _
    rw [zAtT_ok _ (by simp), eAt_no (nn_at hE _)]; rfl, pCall_s]
  have hpath : ePath (P.foldr Err.at (.no k')) = P := by rw [path_at]; exact List.append_nil _
  generalize P.foldr Err.at (.no k') = E at hpath ⊢
  obtain ⟨l', hl', e8⟩ := apart8 100 _ (fun x3 => some x3) places E (.at 7 E) m 0 100 P (by omega) (by omega) (by omega) (by omega) (fun j _ hj => hget j hj)
  rw [show ((0 : Int)) = ((0 : Nat) : Int) from rfl]
  rw [e8]
  simp only
  have hp1 : fault_Path 100 E = some P := by show zPathT _ = _; rw [zPathT_ok (by rw [hpath]; omega), hpath]
  have hp2 : fault_Path 100 (.at 7 E) = some (7 :: P) := by
    have hq : ePath (.at 7 E) = 7 :: P := by rw [← hpath]; rfl
    show zPathT _ = _
    rw [zPathT_ok (by rw [hq]; simp; omega), hq]
  rw [hp1, pCall_s, apart15 100 _ places E (.at 7 E) l' m 0 100 P (by omega) (by omega) (by omega)]
  simp only
  rw [tells_ok 100 (by omega), pCall_s, pCallG_t, hp1, pCall_s, Bool.not_true, Bool.false_or]
  have hll : len l' = ((m : Nat) : Int) := by simp only [len_]; omega
  simp only [hll]
  rw [show (sub places ((0 : Nat) : Int) (m : Int)) = P from hnp m rfl]
  rw [and_dec (by omega) (by simp only [len_]; omega), pCk_t, Bool.false_or, and_dec (by omega) (by omega), pCk_t]
  rw [pCallG_t, f_Same_ok 100 P P (by omega) (by omega), pCall_s, decide_eq_true rfl, pLet_, pick_t]
  rw [pCallG_t, hp2, pCall_s, pIf_t, Bool.not_true, Bool.false_or]
  rw [pCk_t, Bool.false_or, pCk_t, pIf_t]
  rw [room_of (by simp only [len_, List.length_append, List.length_singleton]; omega) (by simp only [len_, List.length_append, List.length_singleton]; omega), pCk_t]
  rw [pCallG_t, f_Same_ok 100 (7 :: P) ([7] ++ P) (by simp; omega) (by simp; omega), pCall_s]
  rw [decide_eq_true (show (7 :: P) = [7] ++ P from rfl)]
  rfl
end Go.Y
set_option maxRecDepth 100000
namespace Go.Proofs.YtmdeiacjehhcoaaDoor
open Go.ChangeShapes Go.WideShapes Go.ChangeAt Go.RowKit Go.Y
theorem FaultApart_own : ownKnob Tryd.prog.godebug = none := by kernel_rfl
theorem FaultApart_laid : laidOutB Tryd.prog = true := by kernel_rfl
theorem FaultApart_pure (x : (tupTy q4.ts).den) (h : Wf Tryd.prog.bytesOf (tupTy q4.ts) x) : ∃ N, q4.F N x = some true := FaultApart_plain x.1 x.2 h
theorem FaultApart_et : Tryd.prog.globalNamed "errors.errorType" = some 0 := by kernel_rfl
theorem FaultApart_rt : (Tryd.prog.cutTypes.find? (·.1 == "internal/reflectlite.rtype")).map (·.2) = some 80 := by kernel_rfl
theorem FaultApart_oneRow : ((List.range Tryd.prog.types.size).filter fun t => Tryd.prog.rowNamed t [101, 114, 114, 111, 114]) = [24] := by kernel_rfl
theorem FaultApart_handle {W : World} (h : laidMetH Tryd.prog Rows.faultApartRow.laid W) : W.cell? ⟨0, 0, none⟩ = some (.iface 80 (.agg #[.pointer (some ⟨5, 24, none⟩)])) := by
  have h' : laidMet Tryd.prog [("math/bits.deBruijn32tab", Rows.laid_math_bits_deBruijn32tab), ("math/bits.deBruijn64tab", Rows.laid_math_bits_deBruijn64tab), ("internal/strconv.uint64pow10", Rows.laid_internal_strconv_uint64pow10)] W ∧ handlesMet Tryd.prog [("errors.errorType", Rows.laid_errors_errorType)] W := h
  obtain ⟨name, u, ty, e1, e2, e3, e4, e5⟩ := h'.2 _ (List.mem_singleton.2 rfl)
  have en : name = [101, 114, 114, 111, 114] := (Option.some.inj e1).symm
  subst en
  obtain rfl := Option.some.inj (FaultApart_rt.symm.trans e2)
  have hm : ty ∈ (List.range Tryd.prog.types.size).filter fun t => Tryd.prog.rowNamed t [101, 114, 114, 111, 114] := List.mem_filter.2 ⟨List.mem_range.2 e3, e4⟩
  rw [FaultApart_oneRow] at hm
  obtain rfl := List.mem_singleton.1 hm
  have hh : typeHandle Tryd.prog 24 = .pointer (some ⟨5, 24, none⟩) := by kernel_rfl
  rw [hh] at e5
  simpa using World.var?_cell FaultApart_et e5 0
theorem FaultApart_tab {W : World} (h : laidMetH Tryd.prog Rows.faultApartRow.laid W) : Lib.TabIs Tryd.prog W "internal/strconv.uint64pow10" .u64 Lib.pow10Tab := by
  have h' : laidMet Tryd.prog [("math/bits.deBruijn32tab", Rows.laid_math_bits_deBruijn32tab), ("math/bits.deBruijn64tab", Rows.laid_math_bits_deBruijn64tab), ("internal/strconv.uint64pow10", Rows.laid_internal_strconv_uint64pow10)] W ∧ handlesMet Tryd.prog [("errors.errorType", Rows.laid_errors_errorType)] W := h
  obtain ⟨g', t', cs, fuel, p, hg', ht', hvar, hd⟩ := Lib.laidMet.reads h'.1 (n := "internal/strconv.uint64pow10") (d := Rows.laid_internal_strconv_uint64pow10) (.tail _ (.tail _ (.head _)))
  obtain rfl := Option.some.inj ((show Tryd.prog.globalNamed "internal/strconv.uint64pow10" = some 1 by kernel_rfl).symm.trans hg')
  have hd' : DataW.trod (fun _ => ()) Tryd.prog W 0 (fun _ => true) false fuel t' cs.toList = some (Lib.tabData .u64 Lib.pow10Tab, p) := hd
  have hty : (Tryd.prog.globals[1]?).map (·.type) = some 106 := by kernel_rfl
  obtain rfl := Option.some.inj (hty.symm.trans ht')
  unfold Lib.TabIs
  rw [hvar, ← Lib.cells_of_tab (n := 20) (e := 78) (show Tryd.prog.underlying 106 = some (.array 20 78) by kernel_rfl) (show Tryd.prog.underlying 78 = some (.int .u64) by kernel_rfl) (by kernel_rfl) (by kernel_rfl) hd']
theorem FaultApart_glob {W : World} (h : laidMetH Tryd.prog Rows.faultApartRow.laid W) : ∀ p ∈ ids.gl, factW W p.1 p.2 := by
  intro p hp
  rcases List.mem_cons.1 hp with rfl | hp
  · exact FaultApart_handle h
  · obtain rfl := List.mem_singleton.1 hp
    have ht := FaultApart_tab h
    unfold Lib.TabIs World.var? at ht
    rw [show Tryd.prog.globalNamed "internal/strconv.uint64pow10" = some 1 by kernel_rfl] at ht
    have ht : (match W.heap[1]? with | some (Obj.cells cs _ _) => some cs | _ => (none : Option (Array Value))) = some (Lib.pow10Tab.map fun z => Value.int .u64 z).toArray := ht
    show ∃ t fz, W.heap[1]? = some (Obj.cells (Lib.pow10Tab.map (Value.int .u64)).toArray t fz)
    split at ht
    · rename_i cs t fz hq
      cases ht
      exact ⟨t, fz, hq⟩
    · cases ht
noncomputable def FaultApart_world (os : Os) : World :=
  let w0 := World.holding Tryd.prog os ⟨#[], #[], []⟩
  { w0 with heap := (((w0.heap.modify 0 (fun o => match o with | .cells _ t frozen => .cells #[.iface 80 (.agg #[.pointer (some ⟨5, 24, none⟩)])] t frozen | o => o)).modify 3 (fun o => match o with | .cells _ t frozen => .cells #[.int .u8 0, .int .u8 1, .int .u8 28, .int .u8 2, .int .u8 29, .int .u8 14, .int .u8 24, .int .u8 3, .int .u8 30, .int .u8 22, .int .u8 20, .int .u8 15, .int .u8 25, .int .u8 17, .int .u8 4, .int .u8 8, .int .u8 31, .int .u8 27, .int .u8 13, .int .u8 23, .int .u8 21, .int .u8 19, .int .u8 16, .int .u8 7, .int .u8 26, .int .u8 12, .int .u8 18, .int .u8 6, .int .u8 11, .int .u8 5, .int .u8 10, .int .u8 9] t frozen | o => o)).modify 4 (fun o => match o with | .cells _ t frozen => .cells #[.int .u8 0, .int .u8 1, .int .u8 56, .int .u8 2, .int .u8 57, .int .u8 49, .int .u8 28, .int .u8 3, .int .u8 61, .int .u8 58, .int .u8 42, .int .u8 50, .int .u8 38, .int .u8 29, .int .u8 17, .int .u8 4, .int .u8 62, .int .u8 47, .int .u8 59, .int .u8 36, .int .u8 45, .int .u8 43, .int .u8 51, .int .u8 22, .int .u8 53, .int .u8 39, .int .u8 33, .int .u8 30, .int .u8 24, .int .u8 18, .int .u8 12, .int .u8 5, .int .u8 63, .int .u8 55, .int .u8 48, .int .u8 27, .int .u8 60, .int .u8 41, .int .u8 37, .int .u8 16, .int .u8 46, .int .u8 35, .int .u8 44, .int .u8 21, .int .u8 52, .int .u8 32, .int .u8 23, .int .u8 11, .int .u8 54, .int .u8 26, .int .u8 40, .int .u8 15, .int .u8 34, .int .u8 20, .int .u8 31, .int .u8 10, .int .u8 25, .int .u8 14, .int .u8 19, .int .u8 9, .int .u8 13, .int .u8 8, .int .u8 7, .int .u8 6] t frozen | o => o)).modify 1 (fun o => match o with | .cells _ t frozen => .cells #[.int .u64 1, .int .u64 10, .int .u64 100, .int .u64 1000, .int .u64 10000, .int .u64 100000, .int .u64 1000000, .int .u64 10000000, .int .u64 100000000, .int .u64 1000000000, .int .u64 10000000000, .int .u64 100000000000, .int .u64 1000000000000, .int .u64 10000000000000, .int .u64 100000000000000, .int .u64 1000000000000000, .int .u64 10000000000000000, .int .u64 100000000000000000, .int .u64 1000000000000000000, .int .u64 10000000000000000000] t frozen | o => o) }
theorem FaultApart_met (os : Os) (args : Array Value) : laidMetH Tryd.prog Rows.faultApartRow.laid ((FaultApart_world os).forCall (fun _ _ => 0) ⟨#[], args, []⟩).memory :=
  laidMetH_of_parts (laidMet_of_run' 8 (by kernel_rfl) (by kernel_rfl)) (by kernel_rfl)
theorem FaultApart_lifted (os : Os) (started : os.Started) (H : Type) (enc : TypeId × Value → H) :
    ReturnsInHanded {} Tryd.checked os 4 .any (fun w args => (Rows.faultApartSpec.pre enc Tryd.prog Tryd.f4 Rows.faultApartRow.domain false w args ∧ laidMetH Tryd.prog Rows.faultApartRow.laid w) ∧ sizedMet enc Tryd.prog Tryd.f4 (OpenSpec.ofChange Rows.faultApartSpec) false w args)
      (Rows.faultApartSpec.post enc Tryd.prog Tryd.f4 false true false false) := by
  refine returnsInHanded_of_change_and (C := Tryd.checked) (X := fun w _ => laidMetH Tryd.prog Rows.faultApartRow.laid w) (fun _ _ _ hh h => h.of_heap hh) FaultApart_own started (by kernel_rfl) Tryd.func4
    (ChangeSpec.witness_at (enc := enc) (C := Tryd.checked) (os := os) (X := fun w _ => laidMetH Tryd.prog Rows.faultApartRow.laid w) false (FaultApart_world os) #[.int .i64 0, .slice none 0 0] 8 rfl (by kernel_rfl) (by kernel_rfl) (by kernel_rfl) (by kernel_rfl) (by kernel_rfl) (FaultApart_met os _)) ?_
  intro W base args ds gs before hval0 hW hcnd hsz0 hL _
  exact law_calls (P := Tryd.prog) (I := ids) (φ := phi Tryd.prog ids) (As := q4.ts) (F := fun N => q4.F N) (ins := q4.ins) (h0 := q4.jh) FaultApart_laid (by kernel_rfl) rfl (fun ds h => match ds, h with | [_, _], _ => rfl) ⟨4, by kernel_rfl, by kernel_rfl⟩ (by kernel_rfl) (fun N => b4.ok N) FaultApart_pure hval0 hW hsz0 (FaultApart_glob hL)
theorem FaultApart_holds : Rows.FaultApartSaid :=
  OpenClaim.holds_of_wide 4 Tryd.f4 rfl rfl rfl rfl rfl rfl rfl ⟨rfl, rfl, rfl, rfl, rfl⟩ rfl rfl rfl rfl rfl (by kernel_rfl) Tryd.func4 (by kernel_rfl)
    (of_decide_eq_true (by kernel_rfl)) (by unfold Func.isWrapper; first | (rw [if_pos (by decide +kernel)]; kernel_rfl) | (rw [if_neg (by decide +kernel)]; exact ⟨rfl, rfl⟩))
    (fun os started H enc _ => FaultApart_lifted os started H enc)
theorem FaultApart_card : Rows.FaultApartCardSaid :=
  Claim7.holds_tied_plain_at .later [] [.data, .data, .data, .handle] true Rows.faultApartCard.stood.harness true
    FaultApart_holds (fun _ h => by cases h) (by kernel_rfl) (fun _ h => by cases h) faultApart_row_tie rfl ⟨rfl, rfl⟩ (by kernel_rfl) rfl
    (fun f fn hf hfn => by
      obtain rfl : f = 4 := Option.some.inj ((show Tryd.prog.funcNamed "averment/avermentlaw01.FaultApart" = some 4 by kernel_rfl).symm.trans hf) |>.symm
      obtain rfl : fn = Tryd.f4 := (Option.some.inj (Tryd.func4.symm.trans hfn)).symm
      exact ⟨by kernel_rfl, fun j t ht => by
        have h : (Tryd.f4.params.toList.all fun t => !(Tryd.prog.wantsStandIn t)) = true := by kernel_rfl
        have hm : t ∈ Tryd.f4.params.toList := List.mem_of_getElem? (by simpa using ht)
        have := List.all_eq_true.1 h t hm
        exact (show Tryd.prog.wantsStandIn t = false by simpa using this)⟩)
    (by kernel_rfl)
#print axioms FaultApart_card
end Go.Proofs.YtmdeiacjehhcoaaDoor
