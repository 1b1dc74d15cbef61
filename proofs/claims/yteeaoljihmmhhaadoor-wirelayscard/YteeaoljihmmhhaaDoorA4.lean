/- Of every row of things the bytes are told; each is taken again; of none nothing is told. -/
import Derived.Test.YteeaoljihmmhhaaDoorProg
import Derived.Test.YteeaoljihmmhhaaDoorA3
import Derived.WalkKit
import Derived.LaidEql
import Derived.Stop.Asserts
import Derived.RowKitTokens
import Derived.Test.YteeaoljihmmhhaaDoorA0
import Derived.KernelRfl
import GoSem.ClaimJoined
import Derived.ChangeOld
import Derived.ChangeArms
import Derived.SizedLaws
import Derived.ProofKit
import Derived.OpenShut
import Derived.ShutString
import Derived.Carry
import Derived.RowKit
import Derived.Test.YteeaoljihmmhhaaDoorRows
import Derived.Test.YteeaoljihmmhhaaDoorCards
import Derived.Test.YteeaoljihmmhhaaDoorTie
import Derived.SevenTiedAt
import Derived.ChangeSame
import Derived.ChangeVars
import Derived.JoinedOf
import Derived.LaidLaws
import Derived.LaidHandle
import Derived.Stop.Joined
set_option linter.unusedVariables false
set_option linter.unusedSimpArgs false
noncomputable section
namespace Go.Proofs.YteeaoljihmmhhaaDoor
open Go.RowKit Go.Extern.Stop Go.Stop Go.Extern Go.Y
open Go.Eng (RepT)
def ids : Ids := ⟨67, 98, 101, 0, 0, [(⟨0, 0, none⟩, .iface 121 (.agg #[.pointer (some ⟨1, 27, none⟩)]))]⟩
theorem typeOfE (v : Value) (w : World) : (ReflectliteType.typeOf #[.iface 67 v]).run Tryd.prog w = .ok (.iface 121 (.agg #[.pointer (some ⟨1, 67, none⟩)])) w := by kernel_rfl
theorem typeOfP (v : Value) (w : World) : (ReflectliteType.typeOf #[.iface 98 v]).run Tryd.prog w = .ok (.iface 121 (.agg #[.pointer (some ⟨1, 98, none⟩)])) w := by kernel_rfl
theorem mAssign (h : Value) (w : World) : (Go.method 264 121 (.agg #[h]) "AssignableTo").run Tryd.prog w = .ok (82, .agg #[h]) w := by kernel_rfl
theorem asEE (w : World) : (ReflectliteType.relation "AssignableTo" ReflectliteType.assignableTo #[.agg #[.pointer (some ⟨1, 67, none⟩)], .iface 121 (.agg #[.pointer (some ⟨1, 67, none⟩)])]).run Tryd.prog w = .ok (.bool true) w := by kernel_rfl
theorem asPE (w : World) : (ReflectliteType.relation "AssignableTo" ReflectliteType.assignableTo #[.agg #[.pointer (some ⟨1, 98, none⟩)], .iface 121 (.agg #[.pointer (some ⟨1, 67, none⟩)])]).run Tryd.prog w = .ok (.bool false) w := by kernel_rfl
theorem asEP (w : World) : (ReflectliteType.relation "AssignableTo" ReflectliteType.assignableTo #[.agg #[.pointer (some ⟨1, 67, none⟩)], .iface 121 (.agg #[.pointer (some ⟨1, 98, none⟩)])]).run Tryd.prog w = .ok (.bool false) w := by kernel_rfl
theorem asPP (w : World) : (ReflectliteType.relation "AssignableTo" ReflectliteType.assignableTo #[.agg #[.pointer (some ⟨1, 98, none⟩)], .iface 121 (.agg #[.pointer (some ⟨1, 98, none⟩)])]).run Tryd.prog w = .ok (.bool true) w := by kernel_rfl
theorem noAsE (v : Value) (xT : TypeId) (w : World) : (Instr.typeAssert (.iface 67 v) xT 125 true).run Tryd.prog w = .ok (.tuple #[.nilIface, .bool false]) w := run_typeAssert_lacksB Tryd.underlying125 (by kernel_rfl) (by kernel_rfl) v xT w
theorem noAsP (v : Value) (xT : TypeId) (w : World) : (Instr.typeAssert (.iface 98 v) xT 125 true).run Tryd.prog w = .ok (.tuple #[.nilIface, .bool false]) w := run_typeAssert_lacksB Tryd.underlying125 (by kernel_rfl) (by kernel_rfl) v xT w
theorem noUnE (v : Value) (xT : TypeId) (w : World) : (Instr.typeAssert (.iface 67 v) xT 128 true).run Tryd.prog w = .ok (.tuple #[.nilIface, .bool false]) w := run_typeAssert_lacksB Tryd.underlying128 (by kernel_rfl) (by kernel_rfl) v xT w
theorem noUnsE (v : Value) (xT : TypeId) (w : World) : (Instr.typeAssert (.iface 67 v) xT 129 true).run Tryd.prog w = .ok (.tuple #[.nilIface, .bool false]) w := run_typeAssert_lacksB Tryd.underlying129 (by kernel_rfl) (by kernel_rfl) v xT w
theorem hasUnP (v : Value) (xT : TypeId) (w : World) : (Instr.typeAssert (.iface 98 v) xT 128 true).run Tryd.prog w = .ok (.tuple #[.iface 98 v, .bool true]) w := run_typeAssert_hasB Tryd.underlying128 (by kernel_rfl) v xT w
theorem mUnwrap (v : Value) (w : World) : (Go.method 264 98 v "Unwrap").run Tryd.prog w = .ok (77, v) w := by kernel_rfl
theorem valueOfE (n : Int) (w : World) : (ReflectliteValue.unpack (.iface 67 (.int .i64 n))).run Tryd.prog w
    = .ok (.agg #[.pointer (some ⟨1, 67, none⟩), .pointer (some ⟨w.heap.size, 0, none⟩), .int .u64 130]) (w.alloc (.cells #[.int .i64 n] 67)) := by kernel_rfl
theorem valueOfP (e : Addr) (w : World) : (ReflectliteValue.unpack (.iface 98 (.pointer (some e)))).run Tryd.prog w
    = .ok (.agg #[.pointer (some ⟨1, 98, none⟩), .pointer (some ⟨w.heap.size, 0, none⟩), .int .u64 150]) (w.alloc (.cells #[.pointer (some e)] 98)) := by kernel_rfl
theorem mKind (h : Value) (w : World) : (Go.method 264 121 (.agg #[h]) "Kind").run Tryd.prog w = .ok (72, h) w := by kernel_rfl
theorem mElem (h : Value) (w : World) : (Go.method 264 121 (.agg #[h]) "Elem").run Tryd.prog w = .ok (84, .agg #[h]) w := by kernel_rfl
theorem mImpl (h : Value) (w : World) : (Go.method 264 121 (.agg #[h]) "Implements").run Tryd.prog w = .ok (85, .agg #[h]) w := by kernel_rfl
theorem kindEt (w : World) : ((ReflectliteType.abiMethod fun t => (fun a : Nat => Value.int IntKind.u8 (a : Int)) <$> Rtype.kind t) #[.pointer (some ⟨1, 67, none⟩)]).run Tryd.prog w = .ok (.int .u8 2) w := by kernel_rfl
theorem kindPt (w : World) : ((ReflectliteType.abiMethod fun t => (fun a : Nat => Value.int IntKind.u8 (a : Int)) <$> Rtype.kind t) #[.pointer (some ⟨1, 98, none⟩)]).run Tryd.prog w = .ok (.int .u8 22) w := by kernel_rfl
theorem implE (w : World) : (ReflectliteType.relation "Implements" ReflectliteType.implements_ #[.agg #[.pointer (some ⟨1, 67, none⟩)], .iface 121 (.agg #[.pointer (some ⟨1, 27, none⟩)])]).run Tryd.prog w = .ok (.bool true) w := by kernel_rfl
theorem implP (w : World) : (ReflectliteType.relation "Implements" ReflectliteType.implements_ #[.agg #[.pointer (some ⟨1, 98, none⟩)], .iface 121 (.agg #[.pointer (some ⟨1, 27, none⟩)])]).run Tryd.prog w = .ok (.bool true) w := by kernel_rfl
theorem rlm (z : Sem Value) (f : TypeId → Addr → Nat → Nat → Sem Value) (v : Value) :
    ReflectliteValue.method z f #[v] = (do match ← ReflectliteValue.parts v with | none => z | some (t, a, fl) => f t a fl (fl % 32)) := rfl
theorem rls (v x : Value) : ReflectliteValue.set #[v, x] = (do
    let (some (dst, a, fl), some (src, b, _)) := (← ReflectliteValue.parts v, ← ReflectliteValue.parts x)
      | unsupported (.noEntry "extern/(internal/reflectlite.Value).Set.zeroValue")
    if fl / ReflectliteValue.flagAddr % 2 == 0 then unsupported (.noEntry "extern/(internal/reflectlite.Value).Set.unaddressable")
    let val ← loadVar src b
    if ← Rtype.directlyAssignable dst src then storeVar dst a val
    else if ← Rtype.implements dst src then
      if (← Rtype.kind src) == 20 then
        match val with
        | .nilIface => unsupported (.noEntry "extern/reflectlite: a nil value of one interface type handed on as a value of another")
        | _ => storeVar dst a val
      else storeVar dst a (.iface src val)
    else panicString ("reflectlite.Set: value of type " ++ (← Rtype.spelt src) ++ " is not assignable to type " ++ (← Rtype.spelt dst))
    pure (.tuple #[])) := rfl
theorem rep_at {w : World} {F : Nat → Prop} {n : Int} {e : Err} {v : Value} (h : RepT Tryd.prog w F (trE ids (.at n e)) v) :
    ∃ pb po u, v = .iface 98 (.pointer (some ⟨pb, po, none⟩)) ∧ F pb ∧ w.cell? ⟨pb, po, none⟩ = some (.int .i64 n) ∧ w.cell? ⟨pb, po + 1, none⟩ = some u ∧ RepT Tryd.prog w F (trE ids e) u := by
  cases h with
  | ifc _ _ v h =>
    cases h with
    | p _ _ b off us hF hs hc hr =>
      refine ⟨b, off, us 1, rfl, hF, ?_, hc 1 _ rfl, hr 1 _ rfl⟩
      have h0 := hc 0 _ rfl
      have h1 := hr 0 _ rfl
      generalize us 0 = u0 at h0 h1
      cases h1
      exact h0
theorem rep_no {w : World} {F : Nat → Prop} {n : Int} {v : Value} (h : RepT Tryd.prog w F (trE ids (.no n)) v) : v = .iface 67 (.int .i64 n) := by
  cases h with
  | ifc _ _ v h => cases h; rfl
theorem rep_nil {w : World} {F : Nat → Prop} {v : Value} (h : RepT Tryd.prog w F (trE ids .nil) v) : v = .nilIface := by cases h; rfl
theorem rep_head {w : World} {F : Nat → Prop} {e : Err} {v : Value} (he : errOk e = true) (h : RepT Tryd.prog w F (trE ids e) v) : v = .nilIface ∧ e = .nil ∨ ∃ t x, v = .iface t x ∧ e ≠ .nil := by
  cases e with
  | nil => exact .inl ⟨rep_nil h, rfl⟩
  | no n => exact .inr ⟨_, _, rep_no h, fun e => by cases e⟩
  | txt s => cases he
  | «at» n e => obtain ⟨pb, po, u, rfl, _⟩ := rep_at h; exact .inr ⟨_, _, rfl, fun e => by cases e⟩
theorem valueOfE_ (t : Addr) (w : World) : (ReflectliteValue.unpack (.iface 97 (.pointer (some t)))).run Tryd.prog w
    = .ok (.agg #[.pointer (some ⟨1, 97, none⟩), .pointer (some ⟨w.heap.size, 0, none⟩), .int .u64 150]) (w.alloc (.cells #[.pointer (some t)] 97)) := by kernel_rfl
theorem typeE_ (a : Addr) (w : World) : (ReflectliteValue.methodAny (ReflectliteValue.valueError "reflectlite.Value.Type" 0) (fun t _ _ _ => ReflectliteType.toType t) #[.agg #[.pointer (some ⟨1, 97, none⟩), .pointer (some a), .int .u64 150]]).run Tryd.prog w
    = .ok (.iface 121 (.agg #[.pointer (some ⟨1, 97, none⟩)])) w := by kernel_rfl
theorem kindE_ (w : World) : ((ReflectliteType.abiMethod fun t => (fun a : Nat => Value.int IntKind.u8 (a : Int)) <$> Rtype.kind t) #[.pointer (some ⟨1, 97, none⟩)]).run Tryd.prog w = .ok (.int .u8 22) w := by kernel_rfl
theorem elemTE_ (w : World) : (ReflectliteType.method ReflectliteType.elem #[.agg #[.pointer (some ⟨1, 97, none⟩)]]).run Tryd.prog w = .ok (.iface 121 (.agg #[.pointer (some ⟨1, 67, none⟩)])) w := by kernel_rfl
theorem partsE_ (a : Addr) (w : World) : (ReflectliteValue.parts (.agg #[.pointer (some ⟨1, 97, none⟩), .pointer (some a), .int .u64 150])).run Tryd.prog w = .ok (some (97, a, 150)) w := by kernel_rfl
theorem elemOfE_ (w : World) : (Rtype.elem? 97).run Tryd.prog w = .ok (some 67) w := by kernel_rfl
theorem mkE_ (p : Addr) (w : World) : (ReflectliteValue.mk 67 p ReflectliteValue.flagAddr).run Tryd.prog w = .ok (.agg #[.pointer (some ⟨1, 67, none⟩), .pointer (some p), .int .u64 386]) w := by kernel_rfl
theorem elemVE (a p : Addr) (W : World) (ha : W.cell? a = some (.pointer (some p))) :
    (ReflectliteValue.method (ReflectliteValue.valueError "reflectlite.Value.Elem" 0) ReflectliteValue.elem #[.agg #[.pointer (some ⟨1, 97, none⟩), .pointer (some a), .int .u64 150]]).run Tryd.prog W
      = .ok (.agg #[.pointer (some ⟨1, 67, none⟩), .pointer (some p), .int .u64 386]) W := by
  rw [rlm]
  simp only [Sem.run_bind, partsE_, Result.andThen]
  simp [ReflectliteValue.elem, loadVar, isAgg, underlying, Tryd.underlying97, ha, Result.andThen, elemOfE_, mkE_]
theorem isNilE (a p : Addr) (W : World) (ha : W.cell? a = some (.pointer (some p))) :
    (ReflectliteValue.method (ReflectliteValue.valueError "reflectlite.Value.IsNil" 0) ReflectliteValue.isNil #[.agg #[.pointer (some ⟨1, 97, none⟩), .pointer (some a), .int .u64 150]]).run Tryd.prog W = .ok (.bool false) W := by
  rw [rlm]
  simp only [Sem.run_bind, partsE_, Result.andThen]
  simp [ReflectliteValue.isNil, loadVar, isAgg, underlying, Tryd.underlying97, ha, Result.andThen]
theorem partsAE (a : Addr) (w : World) : (ReflectliteValue.parts (.agg #[.pointer (some ⟨1, 67, none⟩), .pointer (some a), .int .u64 386])).run Tryd.prog w = .ok (some (67, a, 386)) w := by kernel_rfl
theorem partsVE (a : Addr) (w : World) : (ReflectliteValue.parts (.agg #[.pointer (some ⟨1, 67, none⟩), .pointer (some a), .int .u64 130])).run Tryd.prog w = .ok (some (67, a, 130)) w := by kernel_rfl
theorem directE (w : World) : (Rtype.directlyAssignable 67 67).run Tryd.prog w = .ok true w := by kernel_rfl
theorem sizeE (w : World) : (sizeOf 67).run Tryd.prog w = .ok 1 w := by kernel_rfl
theorem setE (ta b : Addr) (n : Int) (old : Value) (W : World) (hb : W.cell? b = some (.int .i64 n)) (ht : W.cell? ta = some old) (hf : W.frozen? ta = false) :
    (ReflectliteValue.set #[.agg #[.pointer (some ⟨1, 67, none⟩), .pointer (some ta), .int .u64 386], .agg #[.pointer (some ⟨1, 67, none⟩), .pointer (some b), .int .u64 130]]).run Tryd.prog W
      = .ok (.tuple #[]) (W.setCell ta (.int .i64 n)) := by
  rw [rls]
  simp only [Sem.run_bind, partsAE, partsVE, Result.andThen]
  simp [ReflectliteValue.flagAddr, loadVar, isAgg, underlying, Tryd.underlying67, hb, Result.andThen, directE, storeVar, sizeE, Value.cells, storeCells, Addr.add]
  rw [run_store Tryd.prog W ta _ _ (by rfl)]
  simp [ht, hf]
theorem valueOfP_ (t : Addr) (w : World) : (ReflectliteValue.unpack (.iface 99 (.pointer (some t)))).run Tryd.prog w
    = .ok (.agg #[.pointer (some ⟨1, 99, none⟩), .pointer (some ⟨w.heap.size, 0, none⟩), .int .u64 150]) (w.alloc (.cells #[.pointer (some t)] 99)) := by kernel_rfl
theorem typeP_ (a : Addr) (w : World) : (ReflectliteValue.methodAny (ReflectliteValue.valueError "reflectlite.Value.Type" 0) (fun t _ _ _ => ReflectliteType.toType t) #[.agg #[.pointer (some ⟨1, 99, none⟩), .pointer (some a), .int .u64 150]]).run Tryd.prog w
    = .ok (.iface 121 (.agg #[.pointer (some ⟨1, 99, none⟩)])) w := by kernel_rfl
theorem kindP_ (w : World) : ((ReflectliteType.abiMethod fun t => (fun a : Nat => Value.int IntKind.u8 (a : Int)) <$> Rtype.kind t) #[.pointer (some ⟨1, 99, none⟩)]).run Tryd.prog w = .ok (.int .u8 22) w := by kernel_rfl
theorem elemTP_ (w : World) : (ReflectliteType.method ReflectliteType.elem #[.agg #[.pointer (some ⟨1, 99, none⟩)]]).run Tryd.prog w = .ok (.iface 121 (.agg #[.pointer (some ⟨1, 98, none⟩)])) w := by kernel_rfl
theorem partsP_ (a : Addr) (w : World) : (ReflectliteValue.parts (.agg #[.pointer (some ⟨1, 99, none⟩), .pointer (some a), .int .u64 150])).run Tryd.prog w = .ok (some (99, a, 150)) w := by kernel_rfl
theorem elemOfP_ (w : World) : (Rtype.elem? 99).run Tryd.prog w = .ok (some 98) w := by kernel_rfl
theorem mkP_ (p : Addr) (w : World) : (ReflectliteValue.mk 98 p ReflectliteValue.flagAddr).run Tryd.prog w = .ok (.agg #[.pointer (some ⟨1, 98, none⟩), .pointer (some p), .int .u64 406]) w := by kernel_rfl
theorem elemVP (a p : Addr) (W : World) (ha : W.cell? a = some (.pointer (some p))) :
    (ReflectliteValue.method (ReflectliteValue.valueError "reflectlite.Value.Elem" 0) ReflectliteValue.elem #[.agg #[.pointer (some ⟨1, 99, none⟩), .pointer (some a), .int .u64 150]]).run Tryd.prog W
      = .ok (.agg #[.pointer (some ⟨1, 98, none⟩), .pointer (some p), .int .u64 406]) W := by
  rw [rlm]
  simp only [Sem.run_bind, partsP_, Result.andThen]
  simp [ReflectliteValue.elem, loadVar, isAgg, underlying, Tryd.underlying99, ha, Result.andThen, elemOfP_, mkP_]
theorem isNilP (a p : Addr) (W : World) (ha : W.cell? a = some (.pointer (some p))) :
    (ReflectliteValue.method (ReflectliteValue.valueError "reflectlite.Value.IsNil" 0) ReflectliteValue.isNil #[.agg #[.pointer (some ⟨1, 99, none⟩), .pointer (some a), .int .u64 150]]).run Tryd.prog W = .ok (.bool false) W := by
  rw [rlm]
  simp only [Sem.run_bind, partsP_, Result.andThen]
  simp [ReflectliteValue.isNil, loadVar, isAgg, underlying, Tryd.underlying99, ha, Result.andThen]
theorem partsAP (a : Addr) (w : World) : (ReflectliteValue.parts (.agg #[.pointer (some ⟨1, 98, none⟩), .pointer (some a), .int .u64 406])).run Tryd.prog w = .ok (some (98, a, 406)) w := by kernel_rfl
theorem partsVP (a : Addr) (w : World) : (ReflectliteValue.parts (.agg #[.pointer (some ⟨1, 98, none⟩), .pointer (some a), .int .u64 150])).run Tryd.prog w = .ok (some (98, a, 150)) w := by kernel_rfl
theorem directP (w : World) : (Rtype.directlyAssignable 98 98).run Tryd.prog w = .ok true w := by kernel_rfl
theorem sizeP (w : World) : (sizeOf 98).run Tryd.prog w = .ok 1 w := by kernel_rfl
theorem setP (ta b : Addr) (n : Addr) (old : Value) (W : World) (hb : W.cell? b = some (.pointer (some n))) (ht : W.cell? ta = some old) (hf : W.frozen? ta = false) :
    (ReflectliteValue.set #[.agg #[.pointer (some ⟨1, 98, none⟩), .pointer (some ta), .int .u64 406], .agg #[.pointer (some ⟨1, 98, none⟩), .pointer (some b), .int .u64 150]]).run Tryd.prog W
      = .ok (.tuple #[]) (W.setCell ta (.pointer (some n))) := by
  rw [rls]
  simp only [Sem.run_bind, partsAP, partsVP, Result.andThen]
  simp [ReflectliteValue.flagAddr, loadVar, isAgg, underlying, Tryd.underlying98, hb, Result.andThen, directP, storeVar, sizeP, Value.cells, storeCells, Addr.add]
  rw [run_store Tryd.prog W ta _ _ (by rfl)]
  simp [ht, hf]
set_option maxHeartbeats 40000000 in
theorem as_hit (n : Int) (w0 : World) (F : Nat → Prop) (t a : Addr) (old : Value) (ha : w0.cell? a = some (.pointer (some t))) (ht : w0.cell? t = some old) (hf : w0.frozen? t = false)
    (e : Err) (v : Value) (he : errOk e = true) (hnil : e ≠ .nil) (hprem : eNum e = some n) (hv : RepT Tryd.prog w0 F (trE ids e) v) :
    Calls Tryd.prog 53 #[v, .iface 97 (.pointer (some t)), .agg #[.pointer (some ⟨1, 97, none⟩), .pointer (some a), .int .u64 150], .iface 121 (.agg #[.pointer (some ⟨1, 67, none⟩)])] w0 fun ev w' => ev = .returned (.bool true) ∧ w' = (((w0.alloc (.cells #[.pointer (some ⟨1, 97, none⟩), .pointer (some a), .int .u64 150] 109))).alloc (.cells #[.int .i64 n] 67)).setCell t (.int .i64 n) := by
  have hTo := @run_callFunc_extern Tryd.prog 54 _ ReflectliteType.typeOf Tryd.func54 (by kernel_rfl) (by kernel_rfl) (by kernel_rfl) (by kernel_rfl)
  have hAs := @run_callFunc_extern Tryd.prog 82 _ (ReflectliteType.relation "AssignableTo" ReflectliteType.assignableTo) Tryd.func82 (by kernel_rfl) (by kernel_rfl) (by kernel_rfl) (by kernel_rfl)
  have hVo := @run_callFunc_extern Tryd.prog 50 _ (fun args => ReflectliteValue.unpack (args.getD 0 (.tuple #[]))) Tryd.func50 (by kernel_rfl) (by kernel_rfl) (by kernel_rfl) (by kernel_rfl)
  have hVe := @run_callFunc_extern Tryd.prog 56 _ (ReflectliteValue.method (ReflectliteValue.valueError "reflectlite.Value.Elem" 0) ReflectliteValue.elem) Tryd.func56 (by kernel_rfl) (by kernel_rfl) (by kernel_rfl) (by kernel_rfl)
  have hVs := @run_callFunc_extern Tryd.prog 57 _ ReflectliteValue.set Tryd.func57 (by kernel_rfl) (by kernel_rfl) (by kernel_rfl) (by kernel_rfl)
  have tO := typeOfE
  have tP := typeOfP
  have mA := mAssign
  have a1 := asEE
  have a2 := asPE
  have a3 := asEP
  have a4 := asPP
  have nA := noAsP
  have nB := noAsE
  have nU := noUnE
  have nV := noUnsE
  have hU := hasUnP
  have mU := mUnwrap
  have vE := valueOfE
  have vP := valueOfP
  have htl : t.block < w0.heap.size := World.block_lt_of_cell? w0 t ht
  have hal : a.block < w0.heap.size := World.block_lt_of_cell? w0 a ha
  have el := elemVE a t (w0.alloc (.cells #[.pointer (some ⟨1, 97, none⟩), .pointer (some a), .int .u64 150] 109)) (by rw [World.cell?_alloc_lt _ _ a hal]; exact ha)
  have st := setE t ⟨w0.heap.size + 1, 0, none⟩ n old (((w0.alloc (.cells #[.pointer (some ⟨1, 97, none⟩), .pointer (some a), .int .u64 150] 109))).alloc (.cells #[.int .i64 n] 67))
    (by rw [World.cell?_alloc_at _ _ _ _ (by simp)]; rfl)
    (by rw [World.cell?_alloc_lt _ _ t (by simp <;> omega), World.cell?_alloc_lt _ _ t htl]; exact ht)
    (by rw [World.frozen?_alloc_old _ _ t (by simp <;> omega), World.frozen?_alloc_old _ _ t (Nat.ne_of_lt htl)]; exact hf)
  go_enter Tryd.func53, Tryd.ntmps53
  go_wp2
  refine wp_loop_rounds (eDep e + 1) ?_
  refine (?key : ∀ (e : Err), errOk e = true → e ≠ .nil → eNum e = some n → ∀ (v : Value), RepT Tryd.prog w0 F (trE ids e) v → ∀ y1 y2 y4 y5 y7 y9 y10 y11 y12 y13 y14 y15 y16 y17 y18 y19 y20 y21 y22 y23 y24 y25 y26 y27 y28 y29 y30 y31 y32 y33 y34 y35 y36 y37 y38 y39 y40 y41 y42 y43 y44 y45 y46 y47 y48 y49 y50 y51 y52 y53 y54 y55 y56 y57 y58 y59 y60 y61 : Value, Code.rounds Tryd.prog _ _ (eDep e + 1) ⟨#[v, y1, y2, .iface 121 (.agg #[.pointer (some ⟨1, 67, none⟩)]), y4, y5, .pointer (some ⟨w0.heap.size, 0, none⟩), y7, .bool false, y9, y10, y11, y12, y13, y14, y15, y16, y17, y18, y19, y20, y21, y22, y23, y24, y25, y26, y27, y28, y29, y30, y31, y32, y33, y34, y35, y36, y37, y38, y39, y40, y41, y42, y43, y44, y45, y46, y47, y48, y49, y50, y51, y52, y53, y54, y55, y56, y57, y58, y59, y60, y61], []⟩ (w0.alloc (.cells #[.pointer (some ⟨1, 97, none⟩), .pointer (some a), .int .u64 150] 109))) e he hnil hprem v hv _ _ _ _ _ _ _ _ _ _ _ _ _ _ _ _ _ _ _ _ _ _ _ _ _ _ _ _ _ _ _ _ _ _ _ _ _ _ _ _ _ _ _ _ _ _ _ _ _ _ _ _ _ _ _ _ _ _
  intro e
  induction e with
  | nil => intro _ hne; exact absurd rfl hne
  | txt s => intro he; cases he
  | no m =>
    intro _ _ hn v hv y1 y2 y4 y5 y7 y9 y10 y11 y12 y13 y14 y15 y16 y17 y18 y19 y20 y21 y22 y23 y24 y25 y26 y27 y28 y29 y30 y31 y32 y33 y34 y35 y36 y37 y38 y39 y40 y41 y42 y43 y44 y45 y46 y47 y48 y49 y50 y51 y52 y53 y54 y55 y56 y57 y58 y59 y60 y61
    obtain rfl : m = n := Option.some.inj hn
    obtain rfl := rep_no hv
    rw [show eDep (.no m) + 1 = 0 + 1 from rfl, rounds_succ]
    go_wp2
    go_ret
    exact ⟨rfl, rfl⟩
  | «at» m e ih =>
    intro he _ hn v hv y1 y2 y4 y5 y7 y9 y10 y11 y12 y13 y14 y15 y16 y17 y18 y19 y20 y21 y22 y23 y24 y25 y26 y27 y28 y29 y30 y31 y32 y33 y34 y35 y36 y37 y38 y39 y40 y41 y42 y43 y44 y45 y46 y47 y48 y49 y50 y51 y52 y53 y54 y55 y56 y57 y58 y59 y60 y61
    obtain ⟨pb, po, u, rfl, _, h0, h1, hu⟩ := rep_at hv
    have hpl : pb < w0.heap.size := World.block_lt_of_cell? w0 _ h1
    have h1' : (w0.alloc (.cells #[.pointer (some ⟨1, 97, none⟩), .pointer (some a), .int .u64 150] 109)).cell? ⟨pb, po + 1, none⟩ = some u := by rw [World.cell?_alloc_lt _ _ ⟨pb, po + 1, none⟩ hpl]; exact h1
    have hne : e ≠ .nil := fun h => by subst h; cases hn
    have ih := ih he hne hn u hu
    obtain ⟨tt, x, rfl⟩ : ∃ tt x, u = .iface tt x := by
      rcases rep_head (e := e) he hu with ⟨_, h⟩ | ⟨tt, x, h, _⟩
      · exact absurd h hne
      · exact ⟨tt, x, h⟩
    rw [show eDep (.at m e) + 1 = (eDep e + 1) + 1 from rfl, rounds_succ]
    go_wp2
set_option maxHeartbeats 40000000 in
theorem as_miss (w0 : World) (F : Nat → Prop) (t a : Addr) (old : Value) (ha : w0.cell? a = some (.pointer (some t))) (ht : w0.cell? t = some old) (hf : w0.frozen? t = false)
    (e : Err) (v : Value) (he : errOk e = true) (hnil : e ≠ .nil) (hprem : eNum e = none) (hv : RepT Tryd.prog w0 F (trE ids e) v) :
    Calls Tryd.prog 53 #[v, .iface 97 (.pointer (some t)), .agg #[.pointer (some ⟨1, 97, none⟩), .pointer (some a), .int .u64 150], .iface 121 (.agg #[.pointer (some ⟨1, 67, none⟩)])] w0 fun ev w' => ev = .returned (.bool false) ∧ w' = w0.alloc (.cells #[.pointer (some ⟨1, 97, none⟩), .pointer (some a), .int .u64 150] 109) := by
  have hTo := @run_callFunc_extern Tryd.prog 54 _ ReflectliteType.typeOf Tryd.func54 (by kernel_rfl) (by kernel_rfl) (by kernel_rfl) (by kernel_rfl)
  have hAs := @run_callFunc_extern Tryd.prog 82 _ (ReflectliteType.relation "AssignableTo" ReflectliteType.assignableTo) Tryd.func82 (by kernel_rfl) (by kernel_rfl) (by kernel_rfl) (by kernel_rfl)
  have hVo := @run_callFunc_extern Tryd.prog 50 _ (fun args => ReflectliteValue.unpack (args.getD 0 (.tuple #[]))) Tryd.func50 (by kernel_rfl) (by kernel_rfl) (by kernel_rfl) (by kernel_rfl)
  have hVe := @run_callFunc_extern Tryd.prog 56 _ (ReflectliteValue.method (ReflectliteValue.valueError "reflectlite.Value.Elem" 0) ReflectliteValue.elem) Tryd.func56 (by kernel_rfl) (by kernel_rfl) (by kernel_rfl) (by kernel_rfl)
  have hVs := @run_callFunc_extern Tryd.prog 57 _ ReflectliteValue.set Tryd.func57 (by kernel_rfl) (by kernel_rfl) (by kernel_rfl) (by kernel_rfl)
  have tO := typeOfE
  have tP := typeOfP
  have mA := mAssign
  have a1 := asEE
  have a2 := asPE
  have a3 := asEP
  have a4 := asPP
  have nA := noAsP
  have nB := noAsE
  have nU := noUnE
  have nV := noUnsE
  have hU := hasUnP
  have mU := mUnwrap
  have vE := valueOfE
  have vP := valueOfP
  have htl : t.block < w0.heap.size := World.block_lt_of_cell? w0 t ht
  have hal : a.block < w0.heap.size := World.block_lt_of_cell? w0 a ha
  go_enter Tryd.func53, Tryd.ntmps53
  go_wp2
  refine wp_loop_rounds (eDep e + 1) ?_
  refine (?key : ∀ (e : Err), errOk e = true → e ≠ .nil → eNum e = none → ∀ (v : Value), RepT Tryd.prog w0 F (trE ids e) v → ∀ y1 y2 y4 y5 y7 y9 y10 y11 y12 y13 y14 y15 y16 y17 y18 y19 y20 y21 y22 y23 y24 y25 y26 y27 y28 y29 y30 y31 y32 y33 y34 y35 y36 y37 y38 y39 y40 y41 y42 y43 y44 y45 y46 y47 y48 y49 y50 y51 y52 y53 y54 y55 y56 y57 y58 y59 y60 y61 : Value, Code.rounds Tryd.prog _ _ (eDep e + 1) ⟨#[v, y1, y2, .iface 121 (.agg #[.pointer (some ⟨1, 67, none⟩)]), y4, y5, .pointer (some ⟨w0.heap.size, 0, none⟩), y7, .bool false, y9, y10, y11, y12, y13, y14, y15, y16, y17, y18, y19, y20, y21, y22, y23, y24, y25, y26, y27, y28, y29, y30, y31, y32, y33, y34, y35, y36, y37, y38, y39, y40, y41, y42, y43, y44, y45, y46, y47, y48, y49, y50, y51, y52, y53, y54, y55, y56, y57, y58, y59, y60, y61], []⟩ (w0.alloc (.cells #[.pointer (some ⟨1, 97, none⟩), .pointer (some a), .int .u64 150] 109))) e he hnil hprem v hv _ _ _ _ _ _ _ _ _ _ _ _ _ _ _ _ _ _ _ _ _ _ _ _ _ _ _ _ _ _ _ _ _ _ _ _ _ _ _ _ _ _ _ _ _ _ _ _ _ _ _ _ _ _ _ _ _ _
  intro e
  induction e with
  | nil => intro _ hne; exact absurd rfl hne
  | txt s => intro he; cases he
  | no m => intro _ _ hn; cases hn
  | «at» m e ih =>
    intro he _ hn v hv y1 y2 y4 y5 y7 y9 y10 y11 y12 y13 y14 y15 y16 y17 y18 y19 y20 y21 y22 y23 y24 y25 y26 y27 y28 y29 y30 y31 y32 y33 y34 y35 y36 y37 y38 y39 y40 y41 y42 y43 y44 y45 y46 y47 y48 y49 y50 y51 y52 y53 y54 y55 y56 y57 y58 y59 y60 y61
    obtain ⟨pb, po, u, rfl, _, h0, h1, hu⟩ := rep_at hv
    have hpl : pb < w0.heap.size := World.block_lt_of_cell? w0 _ h1
    have h1' : (w0.alloc (.cells #[.pointer (some ⟨1, 97, none⟩), .pointer (some a), .int .u64 150] 109)).cell? ⟨pb, po + 1, none⟩ = some u := by rw [World.cell?_alloc_lt _ _ ⟨pb, po + 1, none⟩ hpl]; exact h1
    by_cases hne : e = .nil
    · subst hne
      obtain rfl := rep_nil hu
      rw [show eDep (.at m .nil) + 1 = (eDep .nil + 1) + 1 from rfl, rounds_succ]
      go_wp2
      go_ret
      exact ⟨rfl, rfl⟩
    · have ih := ih he hne hn u hu
      obtain ⟨tt, x, rfl⟩ : ∃ tt x, u = .iface tt x := by
        rcases rep_head (e := e) he hu with ⟨_, h⟩ | ⟨tt, x, h, _⟩
        · exact absurd h hne
        · exact ⟨tt, x, h⟩
      rw [show eDep (.at m e) + 1 = (eDep e + 1) + 1 from rfl, rounds_succ]
      go_wp2
set_option maxHeartbeats 40000000 in
theorem asP_hit (w0 : World) (t a : Addr) (old : Value) (ha : w0.cell? a = some (.pointer (some t))) (ht : w0.cell? t = some old) (hf : w0.frozen? t = false) (pa : Addr) :
    Calls Tryd.prog 53 #[.iface 98 (.pointer (some pa)), .iface 99 (.pointer (some t)), .agg #[.pointer (some ⟨1, 99, none⟩), .pointer (some a), .int .u64 150], .iface 121 (.agg #[.pointer (some ⟨1, 98, none⟩)])] w0 fun ev w' => ev = .returned (.bool true) ∧ w' = (((w0.alloc (.cells #[.pointer (some ⟨1, 99, none⟩), .pointer (some a), .int .u64 150] 109))).alloc (.cells #[.pointer (some pa)] 98)).setCell t (.pointer (some pa)) := by
  have hTo := @run_callFunc_extern Tryd.prog 54 _ ReflectliteType.typeOf Tryd.func54 (by kernel_rfl) (by kernel_rfl) (by kernel_rfl) (by kernel_rfl)
  have hAs := @run_callFunc_extern Tryd.prog 82 _ (ReflectliteType.relation "AssignableTo" ReflectliteType.assignableTo) Tryd.func82 (by kernel_rfl) (by kernel_rfl) (by kernel_rfl) (by kernel_rfl)
  have hVo := @run_callFunc_extern Tryd.prog 50 _ (fun args => ReflectliteValue.unpack (args.getD 0 (.tuple #[]))) Tryd.func50 (by kernel_rfl) (by kernel_rfl) (by kernel_rfl) (by kernel_rfl)
  have hVe := @run_callFunc_extern Tryd.prog 56 _ (ReflectliteValue.method (ReflectliteValue.valueError "reflectlite.Value.Elem" 0) ReflectliteValue.elem) Tryd.func56 (by kernel_rfl) (by kernel_rfl) (by kernel_rfl) (by kernel_rfl)
  have hVs := @run_callFunc_extern Tryd.prog 57 _ ReflectliteValue.set Tryd.func57 (by kernel_rfl) (by kernel_rfl) (by kernel_rfl) (by kernel_rfl)
  have tO := typeOfE
  have tP := typeOfP
  have mA := mAssign
  have a1 := asEE
  have a2 := asPE
  have a3 := asEP
  have a4 := asPP
  have nA := noAsP
  have nB := noAsE
  have nU := noUnE
  have nV := noUnsE
  have hU := hasUnP
  have mU := mUnwrap
  have vE := valueOfE
  have vP := valueOfP
  have htl : t.block < w0.heap.size := World.block_lt_of_cell? w0 t ht
  have hal : a.block < w0.heap.size := World.block_lt_of_cell? w0 a ha
  have el := elemVP a t (w0.alloc (.cells #[.pointer (some ⟨1, 99, none⟩), .pointer (some a), .int .u64 150] 109)) (by rw [World.cell?_alloc_lt _ _ a hal]; exact ha)
  have st := setP t ⟨w0.heap.size + 1, 0, none⟩ pa old (((w0.alloc (.cells #[.pointer (some ⟨1, 99, none⟩), .pointer (some a), .int .u64 150] 109))).alloc (.cells #[.pointer (some pa)] 98))
    (by rw [World.cell?_alloc_at _ _ _ _ (by simp)]; rfl)
    (by rw [World.cell?_alloc_lt _ _ t (by simp <;> omega), World.cell?_alloc_lt _ _ t htl]; exact ht)
    (by rw [World.frozen?_alloc_old _ _ t (by simp <;> omega), World.frozen?_alloc_old _ _ t (Nat.ne_of_lt htl)]; exact hf)
  go_enter Tryd.func53, Tryd.ntmps53
  go_wp2
  refine wp_loop_rounds 1 ?_
  rw [rounds_succ]
  go_wp2
  go_ret
  exact ⟨rfl, rfl⟩
set_option maxHeartbeats 40000000 in
theorem asP_miss (w0 : World) (t a : Addr) (old : Value) (ha : w0.cell? a = some (.pointer (some t))) (ht : w0.cell? t = some old) (hf : w0.frozen? t = false) (n : Int) :
    Calls Tryd.prog 53 #[.iface 67 (.int .i64 n), .iface 99 (.pointer (some t)), .agg #[.pointer (some ⟨1, 99, none⟩), .pointer (some a), .int .u64 150], .iface 121 (.agg #[.pointer (some ⟨1, 98, none⟩)])] w0 fun ev w' => ev = .returned (.bool false) ∧ w' = w0.alloc (.cells #[.pointer (some ⟨1, 99, none⟩), .pointer (some a), .int .u64 150] 109) := by
  have hTo := @run_callFunc_extern Tryd.prog 54 _ ReflectliteType.typeOf Tryd.func54 (by kernel_rfl) (by kernel_rfl) (by kernel_rfl) (by kernel_rfl)
  have hAs := @run_callFunc_extern Tryd.prog 82 _ (ReflectliteType.relation "AssignableTo" ReflectliteType.assignableTo) Tryd.func82 (by kernel_rfl) (by kernel_rfl) (by kernel_rfl) (by kernel_rfl)
  have hVo := @run_callFunc_extern Tryd.prog 50 _ (fun args => ReflectliteValue.unpack (args.getD 0 (.tuple #[]))) Tryd.func50 (by kernel_rfl) (by kernel_rfl) (by kernel_rfl) (by kernel_rfl)
  have hVe := @run_callFunc_extern Tryd.prog 56 _ (ReflectliteValue.method (ReflectliteValue.valueError "reflectlite.Value.Elem" 0) ReflectliteValue.elem) Tryd.func56 (by kernel_rfl) (by kernel_rfl) (by kernel_rfl) (by kernel_rfl)
  have hVs := @run_callFunc_extern Tryd.prog 57 _ ReflectliteValue.set Tryd.func57 (by kernel_rfl) (by kernel_rfl) (by kernel_rfl) (by kernel_rfl)
  have tO := typeOfE
  have tP := typeOfP
  have mA := mAssign
  have a1 := asEE
  have a2 := asPE
  have a3 := asEP
  have a4 := asPP
  have nA := noAsP
  have nB := noAsE
  have nU := noUnE
  have nV := noUnsE
  have hU := hasUnP
  have mU := mUnwrap
  have vE := valueOfE
  have vP := valueOfP
  have htl : t.block < w0.heap.size := World.block_lt_of_cell? w0 t ht
  have hal : a.block < w0.heap.size := World.block_lt_of_cell? w0 a ha
  go_enter Tryd.func53, Tryd.ntmps53
  go_wp2
  refine wp_loop_rounds 1 ?_
  rw [rounds_succ]
  go_wp2
  go_ret
  exact ⟨rfl, rfl⟩
end Go.Proofs.YteeaoljihmmhhaaDoor
noncomputable section
namespace Go.Proofs.YteeaoljihmmhhaaDoor
open Go.RowKit Go.Extern.Stop Go.Stop Go.Extern Go.Y
open Go.Eng (RepT)
theorem As_nil (t : Value) (w : World) : Calls Tryd.prog 43 #[.nilIface, t] w fun e w' => e = .returned (.bool false) ∧ w' = w := by
  go_enter Tryd.func43, Tryd.ntmps43
  go_wp2
  go_ret
  exact ⟨rfl, rfl⟩
set_option maxHeartbeats 40000000 in
theorem AsE_hit (w : World) (t : Addr) (old : Value) (hg : w.cell? ⟨0, 0, none⟩ = some (.iface 121 (.agg #[.pointer (some ⟨1, 27, none⟩)]))) (ht : w.cell? t = some old) (hf : w.frozen? t = false) (n : Int) (F : Nat → Prop) (hF : ∀ b, F b → b < w.heap.size) (e : Err) (v : Value) (he : errOk e = true) (hnil : e ≠ .nil) (hv : RepT Tryd.prog w F (trE ids e) v) (hn : eNum e = some n) :
    Calls Tryd.prog 43 #[v, .iface 97 (.pointer (some t))] w fun ev w' => ev = .returned (.bool true) ∧ GrownX t.block w w' ∧ w'.cell? t = some (.int .i64 n) ∧ w'.frozen? t = false := by
  have hVo := @run_callFunc_extern Tryd.prog 50 _ (fun args => ReflectliteValue.unpack (args.getD 0 (.tuple #[]))) Tryd.func50 (by kernel_rfl) (by kernel_rfl) (by kernel_rfl) (by kernel_rfl)
  have hVt := @run_callFunc_extern Tryd.prog 51 _ (ReflectliteValue.methodAny (ReflectliteValue.valueError "reflectlite.Value.Type" 0) (fun t _ _ _ => ReflectliteType.toType t)) Tryd.func51 (by kernel_rfl) (by kernel_rfl) (by kernel_rfl) (by kernel_rfl)
  have hVn := @run_callFunc_extern Tryd.prog 52 _ (ReflectliteValue.method (ReflectliteValue.valueError "reflectlite.Value.IsNil" 0) ReflectliteValue.isNil) Tryd.func52 (by kernel_rfl) (by kernel_rfl) (by kernel_rfl) (by kernel_rfl)
  have hTk := @run_callFunc_extern Tryd.prog 72 _ (ReflectliteType.abiMethod fun t => do pure (.int .u8 (← Rtype.kind t))) Tryd.func72 (by kernel_rfl) (by kernel_rfl) (by kernel_rfl) (by kernel_rfl)
  have hRe := @run_callFunc_extern Tryd.prog 84 _ (ReflectliteType.method ReflectliteType.elem) Tryd.func84 (by kernel_rfl) (by kernel_rfl) (by kernel_rfl) (by kernel_rfl)
  have hRi := @run_callFunc_extern Tryd.prog 85 _ (ReflectliteType.relation "Implements" ReflectliteType.implements_) Tryd.func85 (by kernel_rfl) (by kernel_rfl) (by kernel_rfl) (by kernel_rfl)
  have mK := mKind
  have mE := mElem
  have mI := mImpl
  have f1 := valueOfE_
  have f2 := typeE_
  have f3 := kindE_
  have f4 := kindEt
  have f5 := elemTE_
  have f6 := implE
  obtain ⟨tt, x, rfl⟩ : ∃ tt x, v = .iface tt x := by
    rcases rep_head he hv with ⟨_, h⟩ | ⟨tt, x, h, _⟩
    · exact absurd h hnil
    · exact ⟨tt, x, h⟩
  have hgl : (0 : Nat) < w.heap.size := World.block_lt_of_cell? w _ hg
  have htl : t.block < w.heap.size := World.block_lt_of_cell? w t ht
  have n8 := isNilE ⟨w.heap.size, 0, none⟩ t ((w.alloc (.cells #[.pointer (some t)] 97)).alloc (.cells #[.pointer (some ⟨1, 97, none⟩), .pointer (some ⟨w.heap.size, 0, none⟩), .int .u64 150] 109)) (by rw [World.cell?_alloc_lt _ _ ⟨w.heap.size, 0, none⟩ (by simp)]; simp)
  have hg2 : (((w.alloc (.cells #[.pointer (some t)] 97)).alloc (.cells #[.pointer (some ⟨1, 97, none⟩), .pointer (some ⟨w.heap.size, 0, none⟩), .int .u64 150] 109))).cell? ⟨0, 0, none⟩ = some (.iface 121 (.agg #[.pointer (some ⟨1, 27, none⟩)])) := by
    rw [World.cell?_alloc_lt _ _ ⟨0, 0, none⟩ (by simp <;> omega), World.cell?_alloc_lt _ _ ⟨0, 0, none⟩ hgl]; exact hg
  have ht2 : (((w.alloc (.cells #[.pointer (some t)] 97)).alloc (.cells #[.pointer (some ⟨1, 97, none⟩), .pointer (some ⟨w.heap.size, 0, none⟩), .int .u64 150] 109))).cell? t = some old := by
    rw [World.cell?_alloc_lt _ _ t (by simp <;> omega), World.cell?_alloc_lt _ _ t htl]; exact ht
  have hf2 : (((w.alloc (.cells #[.pointer (some t)] 97)).alloc (.cells #[.pointer (some ⟨1, 97, none⟩), .pointer (some ⟨w.heap.size, 0, none⟩), .int .u64 150] 109))).frozen? t = false := by
    rw [World.frozen?_alloc_old _ _ t (by simp <;> omega), World.frozen?_alloc_old _ _ t (Nat.ne_of_lt htl)]; exact hf
  have ha2 : (((w.alloc (.cells #[.pointer (some t)] 97)).alloc (.cells #[.pointer (some ⟨1, 97, none⟩), .pointer (some ⟨w.heap.size, 0, none⟩), .int .u64 150] 109))).cell? ⟨w.heap.size, 0, none⟩ = some (.pointer (some t)) := by
    rw [World.cell?_alloc_lt _ _ ⟨w.heap.size, 0, none⟩ (by simp)]; simp
  have key := as_hit n ((w.alloc (.cells #[.pointer (some t)] 97)).alloc (.cells #[.pointer (some ⟨1, 97, none⟩), .pointer (some ⟨w.heap.size, 0, none⟩), .int .u64 150] 109)) F t ⟨w.heap.size, 0, none⟩ old ha2 ht2 hf2 e _ he hnil hn (hv.mono (F' := F) (fun b hb hl => by rw [Go.RowKit.Below.heap_alloc _ _ b (by simp <;> omega), Go.RowKit.Below.heap_alloc _ _ b hl]) (fun b hb => hb))
  go_enter Tryd.func43, Tryd.ntmps43
  go_wp2_with (first | (go_at_call 53; refine key.mono ?_; rintro e w' ⟨rfl, rfl⟩))
  go_ret
  refine ⟨rfl, (((((GrownX.refl t.block w).alloc _).alloc _).alloc _).alloc _).set t _ rfl, ?_, ?_⟩
  rotate_left
  · rw [World.frozen?_setCell, World.frozen?_alloc_old _ _ t (by simp <;> omega), World.frozen?_alloc_old _ _ t (by simp <;> omega)]; exact hf2
  refine World.cell?_setCell_same _ t _ (u := old) ?_
  rw [World.cell?_alloc_lt _ _ t (by simp <;> omega), World.cell?_alloc_lt _ _ t (by simp <;> omega)]; exact ht2
set_option maxHeartbeats 40000000 in
theorem AsE_miss (w : World) (t : Addr) (old : Value) (hg : w.cell? ⟨0, 0, none⟩ = some (.iface 121 (.agg #[.pointer (some ⟨1, 27, none⟩)]))) (ht : w.cell? t = some old) (hf : w.frozen? t = false) (F : Nat → Prop) (hF : ∀ b, F b → b < w.heap.size) (e : Err) (v : Value) (he : errOk e = true) (hnil : e ≠ .nil) (hv : RepT Tryd.prog w F (trE ids e) v) (hn : eNum e = none) :
    Calls Tryd.prog 43 #[v, .iface 97 (.pointer (some t))] w fun ev w' => ev = .returned (.bool false) ∧ GrownX t.block w w' ∧ w'.cell? t = some (old) ∧ w'.frozen? t = false := by
  have hVo := @run_callFunc_extern Tryd.prog 50 _ (fun args => ReflectliteValue.unpack (args.getD 0 (.tuple #[]))) Tryd.func50 (by kernel_rfl) (by kernel_rfl) (by kernel_rfl) (by kernel_rfl)
  have hVt := @run_callFunc_extern Tryd.prog 51 _ (ReflectliteValue.methodAny (ReflectliteValue.valueError "reflectlite.Value.Type" 0) (fun t _ _ _ => ReflectliteType.toType t)) Tryd.func51 (by kernel_rfl) (by kernel_rfl) (by kernel_rfl) (by kernel_rfl)
  have hVn := @run_callFunc_extern Tryd.prog 52 _ (ReflectliteValue.method (ReflectliteValue.valueError "reflectlite.Value.IsNil" 0) ReflectliteValue.isNil) Tryd.func52 (by kernel_rfl) (by kernel_rfl) (by kernel_rfl) (by kernel_rfl)
  have hTk := @run_callFunc_extern Tryd.prog 72 _ (ReflectliteType.abiMethod fun t => do pure (.int .u8 (← Rtype.kind t))) Tryd.func72 (by kernel_rfl) (by kernel_rfl) (by kernel_rfl) (by kernel_rfl)
  have hRe := @run_callFunc_extern Tryd.prog 84 _ (ReflectliteType.method ReflectliteType.elem) Tryd.func84 (by kernel_rfl) (by kernel_rfl) (by kernel_rfl) (by kernel_rfl)
  have hRi := @run_callFunc_extern Tryd.prog 85 _ (ReflectliteType.relation "Implements" ReflectliteType.implements_) Tryd.func85 (by kernel_rfl) (by kernel_rfl) (by kernel_rfl) (by kernel_rfl)
  have mK := mKind
  have mE := mElem
  have mI := mImpl
  have f1 := valueOfE_
  have f2 := typeE_
  have f3 := kindE_
  have f4 := kindEt
  have f5 := elemTE_
  have f6 := implE
  obtain ⟨tt, x, rfl⟩ : ∃ tt x, v = .iface tt x := by
    rcases rep_head he hv with ⟨_, h⟩ | ⟨tt, x, h, _⟩
    · exact absurd h hnil
    · exact ⟨tt, x, h⟩
  have hgl : (0 : Nat) < w.heap.size := World.block_lt_of_cell? w _ hg
  have htl : t.block < w.heap.size := World.block_lt_of_cell? w t ht
  have n8 := isNilE ⟨w.heap.size, 0, none⟩ t ((w.alloc (.cells #[.pointer (some t)] 97)).alloc (.cells #[.pointer (some ⟨1, 97, none⟩), .pointer (some ⟨w.heap.size, 0, none⟩), .int .u64 150] 109)) (by rw [World.cell?_alloc_lt _ _ ⟨w.heap.size, 0, none⟩ (by simp)]; simp)
  have hg2 : (((w.alloc (.cells #[.pointer (some t)] 97)).alloc (.cells #[.pointer (some ⟨1, 97, none⟩), .pointer (some ⟨w.heap.size, 0, none⟩), .int .u64 150] 109))).cell? ⟨0, 0, none⟩ = some (.iface 121 (.agg #[.pointer (some ⟨1, 27, none⟩)])) := by
    rw [World.cell?_alloc_lt _ _ ⟨0, 0, none⟩ (by simp <;> omega), World.cell?_alloc_lt _ _ ⟨0, 0, none⟩ hgl]; exact hg
  have ht2 : (((w.alloc (.cells #[.pointer (some t)] 97)).alloc (.cells #[.pointer (some ⟨1, 97, none⟩), .pointer (some ⟨w.heap.size, 0, none⟩), .int .u64 150] 109))).cell? t = some old := by
    rw [World.cell?_alloc_lt _ _ t (by simp <;> omega), World.cell?_alloc_lt _ _ t htl]; exact ht
  have hf2 : (((w.alloc (.cells #[.pointer (some t)] 97)).alloc (.cells #[.pointer (some ⟨1, 97, none⟩), .pointer (some ⟨w.heap.size, 0, none⟩), .int .u64 150] 109))).frozen? t = false := by
    rw [World.frozen?_alloc_old _ _ t (by simp <;> omega), World.frozen?_alloc_old _ _ t (Nat.ne_of_lt htl)]; exact hf
  have ha2 : (((w.alloc (.cells #[.pointer (some t)] 97)).alloc (.cells #[.pointer (some ⟨1, 97, none⟩), .pointer (some ⟨w.heap.size, 0, none⟩), .int .u64 150] 109))).cell? ⟨w.heap.size, 0, none⟩ = some (.pointer (some t)) := by
    rw [World.cell?_alloc_lt _ _ ⟨w.heap.size, 0, none⟩ (by simp)]; simp
  have key := as_miss ((w.alloc (.cells #[.pointer (some t)] 97)).alloc (.cells #[.pointer (some ⟨1, 97, none⟩), .pointer (some ⟨w.heap.size, 0, none⟩), .int .u64 150] 109)) F t ⟨w.heap.size, 0, none⟩ old ha2 ht2 hf2 e _ he hnil hn (hv.mono (F' := F) (fun b hb hl => by rw [Go.RowKit.Below.heap_alloc _ _ b (by simp <;> omega), Go.RowKit.Below.heap_alloc _ _ b hl]) (fun b hb => hb))
  go_enter Tryd.func43, Tryd.ntmps43
  go_wp2_with (first | (go_at_call 53; refine key.mono ?_; rintro e w' ⟨rfl, rfl⟩))
  go_ret
  refine ⟨rfl, (((GrownX.refl t.block w).alloc _).alloc _).alloc _, ?_, ?_⟩
  rotate_left
  · rw [World.frozen?_alloc_old _ _ t (by simp <;> omega)]; exact hf2
  rw [World.cell?_alloc_lt _ _ t (by simp <;> omega)]; exact ht2
set_option maxHeartbeats 40000000 in
theorem AsP_hit (w : World) (t : Addr) (old : Value) (hg : w.cell? ⟨0, 0, none⟩ = some (.iface 121 (.agg #[.pointer (some ⟨1, 27, none⟩)]))) (ht : w.cell? t = some old) (hf : w.frozen? t = false) (pa : Addr) :
    Calls Tryd.prog 43 #[.iface 98 (.pointer (some pa)), .iface 99 (.pointer (some t))] w fun ev w' => ev = .returned (.bool true) ∧ GrownX t.block w w' ∧ w'.cell? t = some (.pointer (some pa)) ∧ w'.frozen? t = false := by
  have hVo := @run_callFunc_extern Tryd.prog 50 _ (fun args => ReflectliteValue.unpack (args.getD 0 (.tuple #[]))) Tryd.func50 (by kernel_rfl) (by kernel_rfl) (by kernel_rfl) (by kernel_rfl)
  have hVt := @run_callFunc_extern Tryd.prog 51 _ (ReflectliteValue.methodAny (ReflectliteValue.valueError "reflectlite.Value.Type" 0) (fun t _ _ _ => ReflectliteType.toType t)) Tryd.func51 (by kernel_rfl) (by kernel_rfl) (by kernel_rfl) (by kernel_rfl)
  have hVn := @run_callFunc_extern Tryd.prog 52 _ (ReflectliteValue.method (ReflectliteValue.valueError "reflectlite.Value.IsNil" 0) ReflectliteValue.isNil) Tryd.func52 (by kernel_rfl) (by kernel_rfl) (by kernel_rfl) (by kernel_rfl)
  have hTk := @run_callFunc_extern Tryd.prog 72 _ (ReflectliteType.abiMethod fun t => do pure (.int .u8 (← Rtype.kind t))) Tryd.func72 (by kernel_rfl) (by kernel_rfl) (by kernel_rfl) (by kernel_rfl)
  have hRe := @run_callFunc_extern Tryd.prog 84 _ (ReflectliteType.method ReflectliteType.elem) Tryd.func84 (by kernel_rfl) (by kernel_rfl) (by kernel_rfl) (by kernel_rfl)
  have hRi := @run_callFunc_extern Tryd.prog 85 _ (ReflectliteType.relation "Implements" ReflectliteType.implements_) Tryd.func85 (by kernel_rfl) (by kernel_rfl) (by kernel_rfl) (by kernel_rfl)
  have mK := mKind
  have mE := mElem
  have mI := mImpl
  have f1 := valueOfP_
  have f2 := typeP_
  have f3 := kindP_
  have f4 := kindPt
  have f5 := elemTP_
  have f6 := implP
  have hgl : (0 : Nat) < w.heap.size := World.block_lt_of_cell? w _ hg
  have htl : t.block < w.heap.size := World.block_lt_of_cell? w t ht
  have n8 := isNilP ⟨w.heap.size, 0, none⟩ t ((w.alloc (.cells #[.pointer (some t)] 99)).alloc (.cells #[.pointer (some ⟨1, 99, none⟩), .pointer (some ⟨w.heap.size, 0, none⟩), .int .u64 150] 109)) (by rw [World.cell?_alloc_lt _ _ ⟨w.heap.size, 0, none⟩ (by simp)]; simp)
  have hg2 : (((w.alloc (.cells #[.pointer (some t)] 99)).alloc (.cells #[.pointer (some ⟨1, 99, none⟩), .pointer (some ⟨w.heap.size, 0, none⟩), .int .u64 150] 109))).cell? ⟨0, 0, none⟩ = some (.iface 121 (.agg #[.pointer (some ⟨1, 27, none⟩)])) := by
    rw [World.cell?_alloc_lt _ _ ⟨0, 0, none⟩ (by simp <;> omega), World.cell?_alloc_lt _ _ ⟨0, 0, none⟩ hgl]; exact hg
  have ht2 : (((w.alloc (.cells #[.pointer (some t)] 99)).alloc (.cells #[.pointer (some ⟨1, 99, none⟩), .pointer (some ⟨w.heap.size, 0, none⟩), .int .u64 150] 109))).cell? t = some old := by
    rw [World.cell?_alloc_lt _ _ t (by simp <;> omega), World.cell?_alloc_lt _ _ t htl]; exact ht
  have hf2 : (((w.alloc (.cells #[.pointer (some t)] 99)).alloc (.cells #[.pointer (some ⟨1, 99, none⟩), .pointer (some ⟨w.heap.size, 0, none⟩), .int .u64 150] 109))).frozen? t = false := by
    rw [World.frozen?_alloc_old _ _ t (by simp <;> omega), World.frozen?_alloc_old _ _ t (Nat.ne_of_lt htl)]; exact hf
  have ha2 : (((w.alloc (.cells #[.pointer (some t)] 99)).alloc (.cells #[.pointer (some ⟨1, 99, none⟩), .pointer (some ⟨w.heap.size, 0, none⟩), .int .u64 150] 109))).cell? ⟨w.heap.size, 0, none⟩ = some (.pointer (some t)) := by
    rw [World.cell?_alloc_lt _ _ ⟨w.heap.size, 0, none⟩ (by simp)]; simp
  have key := asP_hit ((w.alloc (.cells #[.pointer (some t)] 99)).alloc (.cells #[.pointer (some ⟨1, 99, none⟩), .pointer (some ⟨w.heap.size, 0, none⟩), .int .u64 150] 109)) t ⟨w.heap.size, 0, none⟩ old ha2 ht2 hf2 pa
  go_enter Tryd.func43, Tryd.ntmps43
  go_wp2_with (first | (go_at_call 53; refine key.mono ?_; rintro e w' ⟨rfl, rfl⟩))
  go_ret
  refine ⟨rfl, (((((GrownX.refl t.block w).alloc _).alloc _).alloc _).alloc _).set t _ rfl, ?_, ?_⟩
  rotate_left
  · rw [World.frozen?_setCell, World.frozen?_alloc_old _ _ t (by simp <;> omega), World.frozen?_alloc_old _ _ t (by simp <;> omega)]; exact hf2
  refine World.cell?_setCell_same _ t _ (u := old) ?_
  rw [World.cell?_alloc_lt _ _ t (by simp <;> omega), World.cell?_alloc_lt _ _ t (by simp <;> omega)]; exact ht2
set_option maxHeartbeats 40000000 in
theorem AsP_miss (w : World) (t : Addr) (old : Value) (hg : w.cell? ⟨0, 0, none⟩ = some (.iface 121 (.agg #[.pointer (some ⟨1, 27, none⟩)]))) (ht : w.cell? t = some old) (hf : w.frozen? t = false) (n : Int) :
    Calls Tryd.prog 43 #[.iface 67 (.int .i64 n), .iface 99 (.pointer (some t))] w fun ev w' => ev = .returned (.bool false) ∧ GrownX t.block w w' ∧ w'.cell? t = some (old) ∧ w'.frozen? t = false := by
  have hVo := @run_callFunc_extern Tryd.prog 50 _ (fun args => ReflectliteValue.unpack (args.getD 0 (.tuple #[]))) Tryd.func50 (by kernel_rfl) (by kernel_rfl) (by kernel_rfl) (by kernel_rfl)
  have hVt := @run_callFunc_extern Tryd.prog 51 _ (ReflectliteValue.methodAny (ReflectliteValue.valueError "reflectlite.Value.Type" 0) (fun t _ _ _ => ReflectliteType.toType t)) Tryd.func51 (by kernel_rfl) (by kernel_rfl) (by kernel_rfl) (by kernel_rfl)
  have hVn := @run_callFunc_extern Tryd.prog 52 _ (ReflectliteValue.method (ReflectliteValue.valueError "reflectlite.Value.IsNil" 0) ReflectliteValue.isNil) Tryd.func52 (by kernel_rfl) (by kernel_rfl) (by kernel_rfl) (by kernel_rfl)
  have hTk := @run_callFunc_extern Tryd.prog 72 _ (ReflectliteType.abiMethod fun t => do pure (.int .u8 (← Rtype.kind t))) Tryd.func72 (by kernel_rfl) (by kernel_rfl) (by kernel_rfl) (by kernel_rfl)
  have hRe := @run_callFunc_extern Tryd.prog 84 _ (ReflectliteType.method ReflectliteType.elem) Tryd.func84 (by kernel_rfl) (by kernel_rfl) (by kernel_rfl) (by kernel_rfl)
  have hRi := @run_callFunc_extern Tryd.prog 85 _ (ReflectliteType.relation "Implements" ReflectliteType.implements_) Tryd.func85 (by kernel_rfl) (by kernel_rfl) (by kernel_rfl) (by kernel_rfl)
  have mK := mKind
  have mE := mElem
  have mI := mImpl
  have f1 := valueOfP_
  have f2 := typeP_
  have f3 := kindP_
  have f4 := kindPt
  have f5 := elemTP_
  have f6 := implP
  have hgl : (0 : Nat) < w.heap.size := World.block_lt_of_cell? w _ hg
  have htl : t.block < w.heap.size := World.block_lt_of_cell? w t ht
  have n8 := isNilP ⟨w.heap.size, 0, none⟩ t ((w.alloc (.cells #[.pointer (some t)] 99)).alloc (.cells #[.pointer (some ⟨1, 99, none⟩), .pointer (some ⟨w.heap.size, 0, none⟩), .int .u64 150] 109)) (by rw [World.cell?_alloc_lt _ _ ⟨w.heap.size, 0, none⟩ (by simp)]; simp)
  have hg2 : (((w.alloc (.cells #[.pointer (some t)] 99)).alloc (.cells #[.pointer (some ⟨1, 99, none⟩), .pointer (some ⟨w.heap.size, 0, none⟩), .int .u64 150] 109))).cell? ⟨0, 0, none⟩ = some (.iface 121 (.agg #[.pointer (some ⟨1, 27, none⟩)])) := by
    rw [World.cell?_alloc_lt _ _ ⟨0, 0, none⟩ (by simp <;> omega), World.cell?_alloc_lt _ _ ⟨0, 0, none⟩ hgl]; exact hg
  have ht2 : (((w.alloc (.cells #[.pointer (some t)] 99)).alloc (.cells #[.pointer (some ⟨1, 99, none⟩), .pointer (some ⟨w.heap.size, 0, none⟩), .int .u64 150] 109))).cell? t = some old := by
    rw [World.cell?_alloc_lt _ _ t (by simp <;> omega), World.cell?_alloc_lt _ _ t htl]; exact ht
  have hf2 : (((w.alloc (.cells #[.pointer (some t)] 99)).alloc (.cells #[.pointer (some ⟨1, 99, none⟩), .pointer (some ⟨w.heap.size, 0, none⟩), .int .u64 150] 109))).frozen? t = false := by
    rw [World.frozen?_alloc_old _ _ t (by simp <;> omega), World.frozen?_alloc_old _ _ t (Nat.ne_of_lt htl)]; exact hf
  have ha2 : (((w.alloc (.cells #[.pointer (some t)] 99)).alloc (.cells #[.pointer (some ⟨1, 99, none⟩), .pointer (some ⟨w.heap.size, 0, none⟩), .int .u64 150] 109))).cell? ⟨w.heap.size, 0, none⟩ = some (.pointer (some t)) := by
    rw [World.cell?_alloc_lt _ _ ⟨w.heap.size, 0, none⟩ (by simp)]; simp
  have key := asP_miss ((w.alloc (.cells #[.pointer (some t)] 99)).alloc (.cells #[.pointer (some ⟨1, 99, none⟩), .pointer (some ⟨w.heap.size, 0, none⟩), .int .u64 150] 109)) t ⟨w.heap.size, 0, none⟩ old ha2 ht2 hf2 n
  go_enter Tryd.func43, Tryd.ntmps43
  go_wp2_with (first | (go_at_call 53; refine key.mono ?_; rintro e w' ⟨rfl, rfl⟩))
  go_ret
  refine ⟨rfl, (((GrownX.refl t.block w).alloc _).alloc _).alloc _, ?_, ?_⟩
  rotate_left
  · rw [World.frozen?_alloc_old _ _ t (by simp <;> omega)]; exact hf2
  rw [World.cell?_alloc_lt _ _ t (by simp <;> omega)]; exact ht2
end Go.Proofs.YteeaoljihmmhhaaDoor
namespace Go.Y
open Go.Eng (T RepT RepM SRep Kept Base G SameOn VRep)
variable {P : Program} {I : Ids}
def leafOut (B : Ty) : St Ty := ⟨[(0, .lf B)], [], []⟩
theorem FnOk.grown {φ : FnP} {f : FuncId} {ts : List Ty} {B : Ty} {F : (tupTy ts).den → Option B.den} (hfn : ∃ fn, P.funcs[f]? = some fn ∧ (fn.name == "runtime.NumGoroutine") = false ∧ fn.body.isNone = false)
    (run : ∀ x r, F x = some r → ∀ vs, (tupL vs).as (tupTy ts) = some x → vs.map (·.ty) = ts → ∀ (w : World) (Fr : Nat → Prop) (us : Array Value), GlobW I w → (∀ b, Fr b → b < w.heap.size) → us.size = vs.length →
      (∀ (j : Nat) v, vs[j]? = some v → ∃ u, us[j]? = some u ∧ RepT P w Fr (trL I φ v) u) →
      Calls P f us w fun e w' => ∃ u F', e = .returned u ∧ Grown w w' Fr F' ∧ RepT P w' F' (trL I φ ⟨B, r⟩) u) :
    FnOk P I φ f ⟨lfState ts, leafOut B, false, [], ⟨[], [], [], []⟩, none⟩ ⟨tupTy ts, B, F⟩ := by
  refine FnOk.mk0 rfl hfn rfl (fun x r hF vs hx hty β w g us hinv hus hrep => ?_)
  have hlf : ∀ ts : List Ty, leafs (lfState ts) = ts := by
    intro ts
    have : ∀ (n : Nat) (ts : List Ty), leafs.go1 (lfState.zipL n ts) = ts := by
      intro n ts
      induction ts generalizing n with
      | nil => rfl
      | cons t r ih => simp only [lfState.zipL, leafs.go1, leafsA, ih]; rfl
    show leafs.go1 (lfState.zipL 0 ts) ++ leafs.go2 [] = _
    rw [this]; simp [leafs.go2]
  have hty : vs.map (·.ty) = ts := hty.trans (hlf ts)
  subst hty
  have hfill : fill (lfState (vs.map (·.ty))) vs = ⟨zipN 0 (vs.map .lf), [], []⟩ := fill_lfState vs
  have hinv : Inv P I φ β (fill (lfState (vs.map (·.ty))) vs) g w := hinv
  have hus : us.size = (lfState (vs.map (·.ty))).env.length := hus
  have hrep : ∀ (j : Nat) x, get (fill (lfState (vs.map (·.ty))) vs).env j = some x → ∃ u, us[j]? = some u ∧ ARep P I φ (fill (lfState (vs.map (·.ty))) vs) g w x u := hrep
  rw [hfill] at hinv hrep
  refine (run x r hF vs hx rfl w g.F us hinv.globW hinv.f (by rw [hus]; simp [lfState, zipL_len]) (fun j v hj => ?_)).mono fun e w' ⟨u, F', he, hg, hr⟩ => ?_
  · obtain ⟨u, hu, h⟩ := hrep j (.lf v) (by
      simp only [zipN_get, Nat.zero_le, if_true, Nat.sub_zero, List.getElem?_map, hj, Option.map_some])
    exact ⟨u, hu, arep_lf h⟩
  · obtain ⟨h1, h2⟩ := inv_grown' hinv hg
    refine ⟨u, he, { g with F := F' }, [⟨B, r⟩], fun c => rfl, ?_, ?_, ?_⟩
    · exact h2.env [(0, .lf ⟨B, r⟩)] []
    · intro y hy
      have hy : some (AV.lf ⟨B, r⟩) = some y := hy
      cases hy
      exact .lf _ _ hr
    · intro i p z u' hi
      exact absurd hi (by simp)
where
  inv_grown' {φ : FnP} {β : Base} {st : St L} {g : G} {w w' : World} {F' : Nat → Prop} (h : Inv P I φ β st g w) (hg : Grown w w' g.F F') : Pass P I φ st g w st { g with F := F' } w' ∧ Inv P I φ β st { g with F := F' } w' := inv_grown h hg
theorem rep_ints {φ : FnP} {w : World} {F : Nat → Prop} {e : TypeId} {l : List Int} {u : Value} (h : RepT P w F (trL I φ ⟨.sl e (.int .i64), l⟩) u) :
    (l = [] ∧ ∃ base cap, u = .slice base 0 cap) ∨ ∃ b off cap, u = .slice (some ⟨b, off, none⟩) l.length cap ∧ l.length ≤ cap ∧ (l ≠ [] → F b) ∧ ∀ (j : Nat) x, l[j]? = some x → w.cell? ⟨b, off + j, none⟩ = some (.int .i64 x) := by
  have h : RepT P w F (.sl e false (l.map fun x => one (.int .i64) (trc I φ (.int .i64) x))) u := h
  generalize hx : (l.map fun x => one (.int .i64) (trc I φ (.int .i64) x)) = xs at h
  cases h with
  | nsl => exact .inl ⟨List.map_eq_nil_iff.1 hx, none, 0, rfl⟩
  | esl _ _ b cap => exact .inl ⟨List.map_eq_nil_iff.1 hx, some b, cap, rfl⟩
  | sl _ _ _ b off cap us hF hs hl hc hr =>
    subst hx
    rw [List.length_map] at hl
    refine .inr ⟨b, off, cap, by rw [List.length_map], hl, fun hne => hF (by simpa using hne), fun j x hj => ?_⟩
    have hj' : (Go.Eng.flat (l.map fun x => one (.int .i64) (trc I φ (.int .i64) x)))[j]? = some (.i .i64 x) := by rw [flat_ints]; simp [hj]
    rw [hc j _ hj']
    have := hr j _ hj'
    generalize us j = u at this
    cases this; rfl
theorem give_ints {φ : FnP} {w : World} {F : Nat → Prop} {base : Nat} {e : TypeId} {l : List Int} {u : Value} (hc : P.cellsOf e = 1) (ha : Go.Eng.aggOf P e = false) (h : w.ownsRow base e 1 u l.length (l.map (Value.int .i64))) :
    RepT P w (fun b => F b ∨ u.ownBlock = some b) (trL I φ ⟨.sl e (.int .i64), l⟩) u := by
  show RepT P w _ (.sl e false (l.map fun x => one (.int .i64) (trc I φ (.int .i64) x))) u
  have hfit : ∀ x ∈ l.map (fun x => one (.int .i64) (trc I φ (.int .i64) x)), Go.Eng.Fits P e x := by
    intro x hx
    obtain ⟨n, _, rfl⟩ := List.mem_map.1 hx
    exact ⟨hc.symm, ha.symm⟩
  rcases h.2 with ⟨hv, hn⟩ | ⟨g, cap, cur, hv, hb, hgg, hle, hmx, hsz, hcur⟩
  · have : l = [] := List.eq_nil_of_length_eq_zero hn
    subst this; subst hv
    exact .nsl _ _
  · subst hv
    have hcell : ∀ (j : Nat) x, l[j]? = some x → w.cell? ⟨g, j, none⟩ = some (.int .i64 x) := by
      intro j x hj
      have := h.cells (g := g) rfl j (.int .i64 x) (by simp [hj])
      rwa [show (⟨g, 0, none⟩ : Addr).add j = ⟨g, j, none⟩ by unfold Addr.add; split <;> simp_all] at this
    have := RepT.sl (P := P) (w := w) (F := fun b => F b ∨ (Value.slice (some ⟨g, 0, none⟩) l.length cap).ownBlock = some b) e false (l.map fun x => one (.int .i64) (trc I φ (.int .i64) x)) g 0 cap (fun j => .int .i64 (l.getD j 0)) (fun _ => .inr rfl) hfit (by rw [List.length_map]; exact hle)
      (fun j t hj => by
        rw [flat_ints, List.getElem?_map] at hj
        cases hl : l[j]? with
        | none => rw [hl] at hj; cases hj
        | some x =>
          rw [Nat.zero_add, hcell j x hl, List.getD_eq_getElem?_getD, hl]; rfl)
      (fun j t hj => by
        rw [flat_ints, List.getElem?_map] at hj
        cases hl : l[j]? with
        | none => rw [hl] at hj; cases hj
        | some x =>
          rw [hl] at hj
          have hj : some (T.i .i64 x) = some t := hj
          cases hj
          rw [List.getD_eq_getElem?_getD, hl]
          exact .i _ _)
    rwa [List.length_map] at this
theorem GrownX.grown {w w' : World} (h : GrownX w.heap.size w w') {F F' : Nat → Prop} (h1 : ∀ b, F b → F' b) (h2 : ∀ b, F' b → F b ∨ (w.heap.size ≤ b ∧ b < w'.heap.size)) : Grown w w' F F' :=
  ⟨h.os, h.tape, h.output, h.size, fun b hb => h.block b hb (by omega), h1, h2⟩
theorem GrownX.same {w w' : World} (h : GrownX w.heap.size w w') {F : Nat → Prop} (hF : ∀ b, F b → b < w.heap.size) : SameOn F w w' := fun b hb hl => h.block b hl (by have := hF b hb; omega)
end Go.Y
noncomputable section
namespace Go.Proofs.YteeaoljihmmhhaaDoor
open Go.RowKit Go.Extern.Stop Go.Stop Go.Extern Go.Y
open Go.Eng (RepT T)
set_option maxHeartbeats 40000000 in
theorem Kind_call (w : World) (F : Nat → Prop) (hF : ∀ b, F b → b < w.heap.size) (hg : w.cell? ⟨0, 0, none⟩ = some (.iface 121 (.agg #[.pointer (some ⟨1, 27, none⟩)]))) (e : Err) (v : Value) (he : errOk e = true) (hv : RepT Tryd.prog w F (trE ids e) v) :
    Calls Tryd.prog 28 #[v] w fun ev w' => GrownX w.heap.size w w' ∧ ∃ k, zKind e = some k ∧ ev = .returned (.int .i64 k) := by
  by_cases hnil : e = .nil
  · subst hnil
    obtain rfl := rep_nil hv
    go_enter Tryd.func28, Tryd.ntmps28
    go_wp2
    go_ret
    exact ⟨GrownX.refl _ _, 0, rfl, rfl⟩
  · have hgl : (0 : Nat) < w.heap.size := World.block_lt_of_cell? w _ hg
    have hg1 : (w.alloc (.cells #[.int .i64 0] 67)).cell? ⟨0, 0, none⟩ = some (.iface 121 (.agg #[.pointer (some ⟨1, 27, none⟩)])) := by rw [World.cell?_alloc_lt _ _ ⟨0, 0, none⟩ hgl]; exact hg
    have ht1 : (w.alloc (.cells #[.int .i64 0] 67)).cell? ⟨w.heap.size, 0, none⟩ = some (.int .i64 0) := by simp
    have hf1 : (w.alloc (.cells #[.int .i64 0] 67)).frozen? ⟨w.heap.size, 0, none⟩ = false := by simp
    have hv1 : RepT Tryd.prog (w.alloc (.cells #[.int .i64 0] 67)) F (trE ids e) v := hv.mono (F' := F) (fun b hb hl => Go.RowKit.Below.heap_alloc _ _ b hl) (fun b hb => hb)
    have hF1 : ∀ b, F b → b < (w.alloc (.cells #[.int .i64 0] 67)).heap.size := fun b hb => by have := hF b hb; simp <;> omega
    have hgr : ∀ w', GrownX w.heap.size (w.alloc (.cells #[.int .i64 0] 67)) w' → GrownX w.heap.size w w' := fun w' h =>
      ⟨h.os, h.tape, h.output, by have := h.size; simp at this; omega, fun b hb hne => by rw [h.block b (by simp <;> omega) hne]; exact Go.RowKit.Below.heap_alloc _ _ b hb⟩
    obtain ⟨tt, x, rfl⟩ : ∃ tt x, v = .iface tt x := by
      rcases rep_head he hv with ⟨_, h⟩ | ⟨tt, x, h, _⟩
      · exact absurd h hnil
      · exact ⟨tt, x, h⟩
    cases hn : eNum e with
    | some n =>
      have key := AsE_hit (w.alloc (.cells #[.int .i64 0] 67)) ⟨w.heap.size, 0, none⟩ _ hg1 ht1 hf1 n F hF1 e _ he hnil hv1 hn
      go_enter Tryd.func28, Tryd.ntmps28
      go_wp2_with (first | (go_at_call 43; refine key.mono ?_; rintro ev w' ⟨rfl, hgx, hcc, hff⟩))
      go_ret
      refine ⟨hgr _ hgx, n, ?_, rfl⟩
      unfold zKind
      rw [he]
      cases e with
      | nil => exact absurd rfl hnil
      | txt s => cases he
      | no m => simp only; rw [hn]
      | «at» m e => simp only; rw [hn]
    | none =>
      have key := AsE_miss (w.alloc (.cells #[.int .i64 0] 67)) ⟨w.heap.size, 0, none⟩ _ hg1 ht1 hf1 F hF1 e _ he hnil hv1 hn
      go_enter Tryd.func28, Tryd.ntmps28
      go_wp2_with (first | (go_at_call 43; refine key.mono ?_; rintro ev w' ⟨rfl, hgx, hcc, hff⟩))
      go_ret
      refine ⟨hgr _ hgx, 21, ?_, rfl⟩
      unfold zKind
      rw [he]
      cases e with
      | nil => exact absurd rfl hnil
      | txt s => cases he
      | no m => cases hn
      | «at» m e => simp only; rw [hn]
theorem glob (w : World) (h : GlobW ids w) : w.cell? ⟨0, 0, none⟩ = some (.iface 121 (.agg #[.pointer (some ⟨1, 27, none⟩)])) := h _ (List.mem_singleton.2 rfl)
def b28 : BF Tryd.prog ids := ⟨28, ⟨lfState [.err], leafOut (.int .i64), false, [], ⟨[], [], [], []⟩, none⟩, .err, .int .i64, fun _ => zKind, fun _ => FnOk.grown (ts := [.err]) (B := .int .i64) (F := zKind) ⟨_, Tryd.func28, by kernel_rfl, by kernel_rfl⟩ (fun (x : Err) (r : Int) hF vs hx hty w Fr us hgw hFr hus hrep => by
  have h1 : vs.length = 1 := by have := congrArg List.length hty; rwa [List.length_map] at this
  obtain ⟨v, rfl⟩ := List.length_eq_one_iff.1 h1
  have hv := as_some (show v.as .err = some x from hx)
  subst hv
  obtain ⟨u, hu, hr⟩ := hrep 0 _ rfl
  have hus2 : us = #[u] := by
    apply Array.ext_getElem?
    intro j
    match j with
    | 0 => rw [hu]; rfl
    | j + 1 => rw [Array.getElem?_eq_none (by rw [hus]; simp), Array.getElem?_eq_none (by simp)]
  subst hus2
  have he : errOk x = true := by
    cases hb : errOk x with
    | true => rfl
    | false => unfold zKind at hF; rw [hb] at hF; cases hF
  refine (Kind_call w Fr hFr (glob w hgw) x u he hr).mono fun ev w' ⟨hgx, k, hk, hev⟩ => ?_
  rw [hF, Option.some.injEq] at hk
  subst hk
  exact ⟨_, Fr, hev, hgx.grown (fun b hb => hb) (fun b hb => .inl hb), .i _ _⟩)⟩
theorem eAt_cons (e : Err) (l : List Int) (k : Nat) (x : Int) (h : l[k]? = some x) : (l.drop k).foldr Err.at e = .at x ((l.drop (k + 1)).foldr Err.at e) := by
  have hk := (List.getElem?_eq_some_iff.1 h).1
  rw [List.drop_eq_getElem_cons hk, List.foldr_cons]
  rw [List.getElem?_eq_getElem hk, Option.some.injEq] at h
  rw [h]
theorem errOk_foldr {e : Err} (he : errOk e = true) : ∀ l : List Int, errOk (l.foldr Err.at e) = true
  | [] => he
  | _ :: r => errOk_foldr he r
theorem foldr_nil {e : Err} (he : e ≠ .nil) : ∀ l : List Int, l.foldr Err.at e ≠ .nil
  | [] => he
  | _ :: _ => fun h => by cases h
set_option maxHeartbeats 40000000 in
theorem At_call (w : World) (F : Nat → Prop) (hF : ∀ b, F b → b < w.heap.size) (e : Err) (v : Value) (hv : RepT Tryd.prog w F (trE ids e) v) (he : errOk e = true) (hnil : e ≠ .nil) (l : List Int) (b off cap : Nat) (hFb : l ≠ [] → F b) (hle : l.length ≤ cap)
    (hcell : ∀ (j : Nat) x, l[j]? = some x → w.cell? ⟨b, off + j, none⟩ = some (.int .i64 x)) (hlen : l.length ≤ 4611686018427387904) :
    Calls Tryd.prog 49 #[v, .slice (some ⟨b, off, none⟩) l.length cap] w fun ev w' => ∃ u F', ev = .returned u ∧ Grown w w' F F' ∧ RepT Tryd.prog w' F' (trE ids (l.foldr Err.at e)) u := by
  obtain ⟨tt, x, rfl⟩ : ∃ tt x, v = .iface tt x := by
    rcases rep_head he hv with ⟨_, h⟩ | ⟨tt, x, h, _⟩
    · exact absurd h hnil
    · exact ⟨tt, x, h⟩
  go_enter Tryd.func49, Tryd.ntmps49
  go_wp2
  refine wp_loop_rounds (l.length + 1) ?_
  refine (?key : ∀ (k : Nat), k ≤ l.length → ∀ (w' : World) (F' : Nat → Prop) (v : Value), Go.Y.Grown w w' F F' → RepT Tryd.prog w' F' (trE ids ((l.drop k).foldr Err.at e)) v → ∀ y2 y3 y4 y6 y7 y8 y9 y10 y11 y12 y13 y14 y15 y16 y17 y18 y19 y20 y21 y22 y23 : Value, Code.rounds Tryd.prog _ _ (k + 1) ⟨#[v, .slice (some ⟨b, off, none⟩) l.length cap, y2, y3, y4, .int .i64 ((k : Int) - 1), y6, y7, y8, y9, y10, y11, y12, y13, y14, y15, y16, y17, y18, y19, y20, y21, y22, y23], []⟩ w') l.length (Nat.le_refl _) w F _ ⟨rfl, rfl, rfl, Nat.le_refl _, fun _ _ => rfl, fun _ h => h, fun _ h => .inl h⟩ (by rw [List.drop_length]; exact hv) _ _ _ _ _ _ _ _ _ _ _ _ _ _ _ _ _ _ _ _ _
  intro k
  induction k with
  | zero =>
    intro _ w' F' v hgr hv y2 y3 y4 y6 y7 y8 y9 y10 y11 y12 y13 y14 y15 y16 y17 y18 y19 y20 y21 y22 y23
    rw [rounds_succ]
    go_wp2
    go_ret
    exact ⟨_, F', rfl, hgr, hv⟩
  | succ k ih =>
    intro hk w' F' v hgr hv y2 y3 y4 y6 y7 y8 y9 y10 y11 y12 y13 y14 y15 y16 y17 y18 y19 y20 y21 y22 y23
    have hkl : k < l.length := by omega
    have hx : l[k]? = some l[k] := List.getElem?_eq_getElem hkl
    have hc := hcell k _ hx
    have hbl : b < w.heap.size := World.block_lt_of_cell? w _ hc
    have hc' : w'.cell? ⟨b, off + k, none⟩ = some (.int .i64 l[k]) := by rw [World.cell?_of_block (hgr.block b hbl)]; exact hc
    obtain ⟨tt, x, rfl⟩ : ∃ tt x, v = .iface tt x := by
      rcases rep_head (errOk_foldr he (l.drop (k + 1))) hv with ⟨_, h⟩ | ⟨tt, x, h, _⟩
      · exact absurd h (foldr_nil hnil _)
      · exact ⟨tt, x, h⟩
    rw [show (((k + 1 : Nat) : Int) - 1) = (k : Int) by omega]
    rw [rounds_succ]
    go_wp2
    refine ih (by omega) (w'.alloc (.cells #[.int .i64 l[k], .iface tt x] 101)) (fun c => F' c ∨ c = w'.heap.size) _ ⟨hgr.os, hgr.tape, hgr.output, Nat.le_trans hgr.size (by simp), fun c hc => by rw [← hgr.block c hc]; exact Go.RowKit.Below.heap_alloc _ _ c (Nat.lt_of_lt_of_le hc hgr.size), fun c hc => .inl (hgr.more c hc), fun c hc => ?_⟩ ?_ _ _ _ _ _ _ _ _ _ _ _ _ _ _ _ _ _ _ _ _ _
    · rcases hc with hc | rfl
      · rcases hgr.new c hc with h | h
        · exact .inl h
        · exact .inr ⟨h.1, by simp <;> omega⟩
      · exact .inr ⟨hgr.size, by simp⟩
    · rw [eAt_cons e l k _ hx]
      have hF' : ∀ c, F' c → c < w'.heap.size := fun c hc => by
        rcases hgr.new c hc with h | h
        · exact Nat.lt_of_lt_of_le (hF c h) hgr.size
        · exact h.2
      have hv2 := hv.mono (w' := w'.alloc (.cells #[.int .i64 l[k], .iface tt x] 101)) (F' := fun c => F' c ∨ c = w'.heap.size) (fun c _ hl => Go.RowKit.Below.heap_alloc _ _ c hl) (fun c hc => .inl hc)
      refine .ifc _ _ _ (.p _ _ w'.heap.size 0 (fun j => if j = 0 then .int .i64 l[k] else .iface tt x) (.inr rfl) ⟨by kernel_rfl, by kernel_rfl⟩ (fun j t hj => ?_) (fun j t hj => ?_))
      · match j with
        | 0 => simp
        | 1 => simp
        | j + 2 => simp [T.cells] at hj
      · match j with
        | 0 => simp [T.cells] at hj; subst hj; exact .i _ _
        | 1 => simp [T.cells] at hj; subst hj; exact hv2
        | j + 2 => simp [T.cells] at hj
set_option maxHeartbeats 4000000 in
theorem At_none (w : World) (tt : TypeId) (x : Value) (base : Option Addr) (cap : Nat) : Calls Tryd.prog 49 #[.iface tt x, .slice base 0 cap] w fun ev w' => ev = .returned (.iface tt x) ∧ w' = w := by
  go_enter Tryd.func49, Tryd.ntmps49
  go_wp2
  refine wp_loop_rounds 1 ?_
  rw [rounds_succ]
  go_wp2
  go_ret
  exact ⟨rfl, rfl⟩
set_option maxHeartbeats 4000000 in
theorem At_nil (w : World) (us : Value) : Calls Tryd.prog 49 #[.nilIface, us] w fun ev w' => ev = .returned .nilIface ∧ w' = w := by
  go_enter Tryd.func49, Tryd.ntmps49
  go_wp2
  go_ret
  exact ⟨rfl, rfl⟩
theorem two_args {us : Array Value} {u0 u1 : Value} (h0 : us[0]? = some u0) (h1 : us[1]? = some u1) (hs : us.size = 2) : us = #[u0, u1] := by
  apply Array.ext_getElem?
  intro j
  match j with
  | 0 => rw [h0]; rfl
  | 1 => rw [h1]; rfl
  | j + 2 => rw [Array.getElem?_eq_none (by omega), Array.getElem?_eq_none (by simp)]
def b49 : BF Tryd.prog ids := ⟨49, ⟨lfState [.err, .sl 3 (.int .i64)], leafOut .err, false, [], ⟨[], [], [], []⟩, none⟩, .pair .err (.sl 3 (.int .i64)), .err, fun _ x => zAt x.1 x.2, fun _ => FnOk.grown (ts := [.err, .sl 3 (.int .i64)]) (B := .err) (F := fun x => zAt x.1 x.2) ⟨_, Tryd.func49, by kernel_rfl, by kernel_rfl⟩ (fun (x : Err × List Int) (r : Err) hF vs hx hty w Fr us hgw hFr hus hrep => by
  have h2 : vs.length = 2 := by have := congrArg List.length hty; rwa [List.length_map] at this
  obtain ⟨v, v', rfl⟩ : ∃ a b, vs = [a, b] := (match vs, h2 with | [a, b], _ => ⟨a, b, rfl⟩)
  have hty' : v.ty = .err ∧ v'.ty = .sl 3 (.int .i64) := by simpa using hty
  obtain ⟨vt, vv⟩ := v
  obtain ⟨vt', vv'⟩ := v'
  obtain ⟨h3, h4⟩ := hty'
  simp only at h3 h4
  subst h3; subst h4
  have hx := as_some hx
  have hx : (⟨.pair .err (.sl 3 (.int .i64)), (vv, vv')⟩ : L) = ⟨.pair .err (.sl 3 (.int .i64)), x⟩ := hx
  have hx : (vv, vv') = x := eq_of_heq (L.mk.inj hx).2
  subst hx
  obtain ⟨u, hu, hr⟩ := hrep 0 _ rfl
  obtain ⟨u', hu', hr'⟩ := hrep 1 _ rfl
  obtain rfl := two_args hu hu' hus
  have hF : zAt vv vv' = some r := hF
  unfold zAt at hF
  cases he : errOk vv with
  | false => rw [he] at hF; cases hF
  | true =>
    cases hl : decide ((vv' : List Int).length ≤ 4611686018427387904) with
    | false => rw [he, hl] at hF; cases hF
    | true =>
      rw [he, hl] at hF
      have hF : some (eAt vv vv') = some r := hF
      obtain rfl := Option.some.inj hF
      have hl := of_decide_eq_true hl
      have hr : RepT Tryd.prog w Fr (trE ids vv) u := hr
      by_cases hnil : vv = .nil
      · subst hnil
        obtain rfl := rep_nil hr
        exact (At_nil w u').mono fun ev w' ⟨h1, h2⟩ => by
          subst h2
          exact ⟨_, Fr, h1, ⟨rfl, rfl, rfl, Nat.le_refl _, fun _ _ => rfl, fun _ h => h, fun _ h => .inl h⟩, .ni⟩
      · have heq : eAt vv vv' = (vv' : List Int).foldr Err.at vv := by
          cases vv with
          | nil => exact absurd rfl hnil
          | no n => rfl
          | «at» n e => rfl
          | txt s => rfl
        rw [heq]
        obtain ⟨tt, y, rfl⟩ : ∃ tt x, u = .iface tt x := by
          rcases rep_head he hr with ⟨_, h⟩ | ⟨tt, x, h, _⟩
          · exact absurd h hnil
          · exact ⟨tt, x, h⟩
        rcases rep_ints hr' with ⟨hl0, base, cap, rfl⟩ | ⟨b, off, cap, rfl, h1, h2, h3⟩
        · have hl0 : (vv' : List Int) = [] := hl0
          rw [hl0]
          exact (At_none w tt y base cap).mono fun ev w' ⟨h1, h2⟩ => by
            subst h2
            exact ⟨_, Fr, h1, ⟨rfl, rfl, rfl, Nat.le_refl _, fun _ _ => rfl, fun _ h => h, fun _ h => .inl h⟩, hr⟩
        · exact At_call w Fr hFr vv _ hr he hnil vv' b off cap h2 h1 h3 hl)⟩
end Go.Proofs.YteeaoljihmmhhaaDoor
noncomputable section
namespace Go.Proofs.YteeaoljihmmhhaaDoor
open Go.RowKit Go.Extern.Stop Go.Stop Go.Extern Go.Y
open Go.Eng (RepT T)
theorem cell1_new (w : World) (x : Value) (t : TypeId) : ∀ (j : Nat) u, ([x] : List Value)[j]? = some u → (w.alloc (.cells #[x] t)).cell? ((⟨w.heap.size, 0, none⟩ : Addr).add j) = some u := by
  intro j u h
  match j with
  | 0 => simp at h; subst h; simp [Addr.add]
  | j + 1 => simp at h
theorem infoInt : (Tryd.prog.info? 3).map (fun i => (i.zero, i.size, i.bytes)) = some (some (.int .i64 0), 1, 8) := by kernel_rfl
theorem cellsInt : Tryd.prog.cellsOf 3 = 1 := by kernel_rfl
theorem aggInt : Go.Eng.aggOf Tryd.prog 3 = false := by kernel_rfl
set_option maxHeartbeats 40000000 in
theorem Path_call (w : World) (F : Nat → Prop) (hF : ∀ b, F b → b < w.heap.size) (hg : w.cell? ⟨0, 0, none⟩ = some (.iface 121 (.agg #[.pointer (some ⟨1, 27, none⟩)]))) (e : Err) (v : Value) (hv : RepT Tryd.prog w F (trE ids e) v) (he : errOk e = true) (hlen : (ePath e).length ≤ 1000000) :
    Calls Tryd.prog 30 #[v] w fun ev w' => ∃ u F', ev = .returned u ∧ Grown w w' F F' ∧ RepT Tryd.prog w' F' (trL ids (phi Tryd.prog ids) ⟨.sl 3 (.int .i64), ePath e⟩) u := by
  obtain ⟨i0, hi, hz⟩ := Option.map_eq_some_iff.1 infoInt
  obtain ⟨hz0, hz1, hz2⟩ : i0.zero = some (.int .i64 0) ∧ i0.size = 1 ∧ i0.bytes = 8 := by simpa using hz
  have hgl : (0 : Nat) < w.heap.size := World.block_lt_of_cell? w _ hg
  go_enter Tryd.func30, Tryd.ntmps30
  go_wp2
  refine wp_loop_rounds (eDep e + 1) ?_
  refine (?key : ∀ (e' : Err) (v : Value) (W : World) (o pv : Value) (xs : List Int), errOk e' = true → RepT Tryd.prog w F (trE ids e') v → xs ++ ePath e' = ePath e → GrownX w.heap.size w W → w.heap.size < W.heap.size → W.cell? ⟨w.heap.size, 0, none⟩ = some pv → W.frozen? ⟨w.heap.size, 0, none⟩ = false → W.ownsRow (w.heap.size + 1) 3 1 o xs.length (xs.map (Value.int .i64)) →
    ∀ y1 y2 y5 y6 y7 y8 y9 y10 y11 y12 y13 y14 y15 y16 y17 y18 y19 : Value, Code.rounds Tryd.prog _ _ (eDep e' + 1) ⟨#[v, y1, y2, o, .pointer (some ⟨w.heap.size, 0, none⟩), y5, y6, y7, y8, y9, y10, y11, y12, y13, y14, y15, y16, y17, y18, y19], []⟩ W) e v _ _ (.pointer none) [] he hv rfl ((GrownX.refl _ w).alloc _) (by simp) (by simp) (by simp) (World.ownsRow_nil _ _ _ _) _ _ _ _ _ _ _ _ _ _ _ _ _ _ _ _ _
  intro e'
  have hfin : ∀ (W : World) (o : Value) (xs : List Int), GrownX w.heap.size w W → W.ownsRow (w.heap.size + 1) 3 1 o xs.length (xs.map (Value.int .i64)) → ∃ F', Grown w W F F' ∧ RepT Tryd.prog W F' (trL ids (phi Tryd.prog ids) ⟨.sl 3 (.int .i64), xs⟩) o := fun W o xs hgx hown =>
    ⟨fun b => F b ∨ o.ownBlock = some b, hgx.grown (fun b hb => .inl hb) (fun b hb => hb.imp id fun h => by have := hown.lt b h; omega), give_ints cellsInt aggInt hown⟩
  have hmiss : ∀ (v : Value) (W : World) (o pv : Value) (xs : List Int), (v = .nilIface ∨ ∃ n, v = .iface 67 (.int .i64 n)) → xs = ePath e → GrownX w.heap.size w W → w.heap.size < W.heap.size → W.cell? ⟨w.heap.size, 0, none⟩ = some pv → W.frozen? ⟨w.heap.size, 0, none⟩ = false → W.ownsRow (w.heap.size + 1) 3 1 o xs.length (xs.map (Value.int .i64)) →
    ∃ W', (Calls Tryd.prog 43 #[v, .iface 99 (.pointer (some ⟨w.heap.size, 0, none⟩))] W fun ev w' => ev = .returned (.bool false) ∧ GrownX w.heap.size w w' ∧ w'.ownsRow (w.heap.size + 1) 3 1 o xs.length (xs.map (Value.int .i64))) ∧ W' = W := by
    intro v W o pv xs hvv hxs hgx hlt hc hf hown
    refine ⟨W, ?_, rfl⟩
    rcases hvv with rfl | ⟨n, rfl⟩
    · exact (As_nil _ W).mono fun ev w' ⟨h1, h2⟩ => by subst h2; exact ⟨h1, hgx, hown⟩
    · have hgW : W.cell? ⟨0, 0, none⟩ = some (.iface 121 (.agg #[.pointer (some ⟨1, 27, none⟩)])) := hgx.cell hg (by simp; omega)
      refine (AsP_miss W ⟨w.heap.size, 0, none⟩ pv hgW hc hf n).mono fun ev w' ⟨h1, h2, h3, h4⟩ => ⟨h1, ⟨h2.os.trans hgx.os, h2.tape.trans hgx.tape, h2.output.trans hgx.output, Nat.le_trans hgx.size h2.size, fun b hb hne => (h2.block b (by omega) hne).trans (hgx.block b hb hne)⟩, ?_⟩
      exact hown.kept (row := some w.heap.size) ⟨h2.os, h2.tape, h2.output, h2.size, fun k hk hne => h2.block k hk fun e => hne (by rw [e])⟩ (by
        cases ho : o.ownBlock with
        | none => exact .inl rfl
        | some b => exact .inr fun h => by have := (hown.lt b ho).1; cases h; omega)
  induction e' with
  | nil =>
    intro v W o pv xs _ hv hxs hgx hlt hc hf hown y1 y2 y5 y6 y7 y8 y9 y10 y11 y12 y13 y14 y15 y16 y17 y18 y19
    obtain ⟨_, key, _⟩ := hmiss v W o pv xs (.inl (rep_nil hv)) (by simpa [ePath] using hxs) hgx hlt hc hf hown
    rw [show eDep .nil + 1 = 0 + 1 from rfl, rounds_succ]
    go_wp2_with (first | (go_at_call 43; refine key.mono ?_; rintro ev w' ⟨rfl, hgx', hown'⟩))
    go_ret
    obtain ⟨F', hF1, hF2⟩ := hfin w' o xs hgx' hown'
    rw [show xs = ePath e by simpa [ePath] using hxs] at hF2
    exact ⟨_, F', rfl, hF1, hF2⟩
  | txt s => intro v W o pv xs he; cases he
  | no n =>
    intro v W o pv xs _ hv hxs hgx hlt hc hf hown y1 y2 y5 y6 y7 y8 y9 y10 y11 y12 y13 y14 y15 y16 y17 y18 y19
    obtain ⟨_, key, _⟩ := hmiss v W o pv xs (.inr ⟨n, rep_no hv⟩) (by simpa [ePath] using hxs) hgx hlt hc hf hown
    rw [show eDep (.no n) + 1 = 0 + 1 from rfl, rounds_succ]
    go_wp2_with (first | (go_at_call 43; refine key.mono ?_; rintro ev w' ⟨rfl, hgx', hown'⟩))
    go_ret
    obtain ⟨F', hF1, hF2⟩ := hfin w' o xs hgx' hown'
    rw [show xs = ePath e by simpa [ePath] using hxs] at hF2
    exact ⟨_, F', rfl, hF1, hF2⟩
  | «at» n e' ih =>
    intro v W o pv xs he' hv hxs hgx hlt hc hf hown y1 y2 y5 y6 y7 y8 y9 y10 y11 y12 y13 y14 y15 y16 y17 y18 y19
    obtain ⟨pb, po, u, rfl, hFb, h0, h1, hu⟩ := rep_at hv
    have hpb := hF pb hFb
    have hgW : W.cell? ⟨0, 0, none⟩ = some (.iface 121 (.agg #[.pointer (some ⟨1, 27, none⟩)])) := hgx.cell hg (by simp; omega)
    have key := AsP_hit W ⟨w.heap.size, 0, none⟩ pv hgW hc hf ⟨pb, po, none⟩
    have hxl : (xs ++ [n]) ++ ePath e' = ePath e := by rw [← hxs]; simp [ePath]
    have hxl2 : xs.length + 1 ≤ 1000000 := by have := congrArg List.length hxl; simp at this; omega
    have hne1 : some w.heap.size ≠ o.ownBlock := fun h => by have := (hown.lt _ h.symm).1; omega
    have hne2 : some pb ≠ o.ownBlock := fun h => by have := (hown.lt _ h.symm).1; omega
    rw [show eDep (.at n e') + 1 = (eDep e' + 1) + 1 from rfl, rounds_succ]
    go_wp2_with (first
      | (go_at_call 43; refine key.mono ?_; rintro ev w2 ⟨rfl, hg2, hc2, hf2⟩
         have hgx2 : GrownX w.heap.size w w2 := ⟨hg2.os.trans hgx.os, hg2.tape.trans hgx.tape, hg2.output.trans hgx.output, Nat.le_trans hgx.size hg2.size, fun b hb hne => (hg2.block b (by omega) hne).trans (hgx.block b hb hne)⟩
         have hs2 := hg2.size
         have hown2 : w2.ownsRow (w.heap.size + 1) 3 1 o xs.length (xs.map (Value.int .i64)) := hown.kept (row := some w.heap.size) ⟨hg2.os, hg2.tape, hg2.output, hg2.size, fun k hk hne => hg2.block k hk fun e => hne (by rw [e])⟩ (by
           cases ho : o.ownBlock with
           | none => exact .inl rfl
           | some b => exact .inr fun h => by have := (hown.lt b ho).1; cases h; omega)
         have h02 : w2.cell? ⟨pb, po, none⟩ = some (.int .i64 n) := hgx2.cell h0 (by simp; omega)
         have h12 : w2.cell? ⟨pb, po + 1, none⟩ = some u := hgx2.cell h1 (by simp; omega))
      | (at_builtin; refine wpList_append_own _ rfl _ _ 70 rfl (w.heap.size + 1) 3 i0 (.int .i64 0) 1 8 Tryd.underlying70 hi hz0 hz1 hz2 rfl (by decide) _ _ _ rfl (hown2.alloc _) ⟨w2.heap.size, 0, none⟩ 1 1 [.int .i64 n] rfl rfl (cell1_new _ _ _) (fun x hx => by simp at hx; subst hx; rfl) (by unfold maxLen; omega) (by omega) (by simp; omega) ?_; intro v' w3 hown' hgrow3 hnil3
         have ht3 : w3.cell? ⟨w.heap.size, 0, none⟩ = some (.pointer (some ⟨pb, po, none⟩)) := hgrow3.cell (by rw [World.cell?_alloc_lt _ _ ⟨w.heap.size, 0, none⟩ (by simp; omega)]; exact hc2) hne1
         have h13 : w3.cell? ⟨pb, po + 1, none⟩ = some u := hgrow3.cell (by rw [World.cell?_alloc_lt _ _ ⟨pb, po + 1, none⟩ (by simp; omega)]; exact h12) hne2
         have hf3 : w3.frozen? ⟨w.heap.size, 0, none⟩ = false := by
           rw [World.frozen?_of_block (hgrow3.block w.heap.size (by simp; omega) hne1), World.frozen?_alloc_old _ _ ⟨w.heap.size, 0, none⟩ (by simp; omega)]; exact hf2))
    have hgx3 : GrownX w.heap.size w w3 := ⟨hgrow3.os.trans hgx2.os, hgrow3.tape.trans hgx2.tape, hgrow3.output.trans hgx2.output, Nat.le_trans hgx2.size (Nat.le_trans (by simp) hgrow3.size), fun b hb hne => by
      have hnb : some b ≠ o.ownBlock := fun h => by have := (hown.lt _ h.symm).1; omega
      rw [hgrow3.block b (by simp; omega) hnb, ← hgx2.block b hb hne]
      exact Go.RowKit.Below.heap_alloc _ _ b (by omega)⟩
    have hs3 := hgrow3.size
    refine ih u w3 v' _ (xs ++ [n]) he' hu hxl hgx3 (by simp at hs3; omega) ht3 hf3 (by simpa using hown') _ _ _ _ _ _ _ _ _ _ _ _ _ _ _ _ _
theorem one_arg {us : Array Value} {u : Value} (hu : us[0]? = some u) (hs : us.size = 1) : us = #[u] := by
  apply Array.ext_getElem?
  intro j
  match j with
  | 0 => rw [hu]; rfl
  | j + 1 => rw [Array.getElem?_eq_none (by omega), Array.getElem?_eq_none (by simp)]
def b30 : BF Tryd.prog ids := ⟨30, ⟨lfState [.err], leafOut (.sl 3 (.int .i64)), false, [], ⟨[], [], [], []⟩, none⟩, .err, .sl 3 (.int .i64), fun _ => zPath, fun _ => FnOk.grown (ts := [.err]) (B := .sl 3 (.int .i64)) (F := zPath) ⟨_, Tryd.func30, by kernel_rfl, by kernel_rfl⟩ (fun (x : Err) (r : List Int) hF vs hx hty w Fr us hgw hFr hus hrep => by
  obtain ⟨v, rfl⟩ : ∃ a, vs = [a] := (match vs, (congrArg List.length hty) with | [a], _ => ⟨a, rfl⟩)
  have hv := as_some (show v.as .err = some x from hx)
  subst hv
  obtain ⟨u, hu, hr⟩ := hrep 0 _ rfl
  obtain rfl := one_arg hu hus
  unfold zPath at hF
  cases he : errOk x with
  | false => rw [he] at hF; cases hF
  | true =>
    cases hl : decide ((ePath x).length ≤ 1000000) with
    | false => rw [he, hl] at hF; cases hF
    | true =>
      rw [he, hl] at hF
      obtain rfl := Option.some.inj hF
      exact Path_call w Fr hFr (glob w hgw) x u hr he (of_decide_eq_true hl))⟩
end Go.Proofs.YteeaoljihmmhhaaDoor
noncomputable section
namespace Go.Proofs.YteeaoljihmmhhaaDoor
open Go.RowKit Go.Extern.Stop Go.Stop Go.Extern Go.Y
open Go.Eng (RepT T)
theorem eq_ints (w : World) (a k : Int) : (binOp .eql 27 (.iface 67 (.int .i64 a)) (.iface 67 (.int .i64 k))).run Tryd.prog w = .ok (.bool (a == k)) w := by
  obtain ⟨i, hi, hc⟩ := Option.map_eq_some_iff.1 (show (Tryd.prog.info? 67).map (·.comparable) = some true by kernel_rfl)
  have h : ∀ d, (Op.equalIn (d + 2) 27 (.iface 67 (.int .i64 a)) (.iface 67 (.int .i64 k))).run Tryd.prog w = .ok (a == k) w := by
    intro d
    simp [Op.equalIn, run_underlying Tryd.underlying27, run_underlying Tryd.underlying67, typeInfo, hi, hc]
  simp only [binOp]
  simp [Op.equal, Op.maxDepth, h 9998]
theorem typeOfE' (v : Value) (w : World) : (ReflectliteType.typeOf #[.iface 67 v]).run Tryd.prog w = .ok (.iface 121 (.agg #[.pointer (some ⟨1, 67, none⟩)])) w := typeOfE v w
theorem compE (w : World) : ((ReflectliteType.method fun t => do Rtype.noPackHeld "Comparable" t; pure (.bool (← typeInfo t).comparable)) #[.agg #[.pointer (some ⟨1, 67, none⟩)]]).run Tryd.prog w = .ok (.bool true) w := by kernel_rfl
theorem compE2 (w : World) : ((ReflectliteType.method fun t => do Rtype.noPackHeld "Comparable" t; (fun a => Value.bool a.comparable) <$> typeInfo t) #[.agg #[.pointer (some ⟨1, 67, none⟩)]]).run Tryd.prog w = .ok (.bool true) w := by kernel_rfl
theorem mComp (v : Value) (w : World) : (Go.method 264 121 v "Comparable").run Tryd.prog w = .ok (83, v) w := by kernel_rfl
theorem noIsE (v : Value) (xT : TypeId) (w : World) : (Instr.typeAssert (.iface 67 v) xT 132 true).run Tryd.prog w = .ok (.tuple #[.nilIface, .bool false]) w := run_typeAssert_lacksB Tryd.underlying132 (by kernel_rfl) (by kernel_rfl) v xT w
theorem noIsP (v : Value) (xT : TypeId) (w : World) : (Instr.typeAssert (.iface 98 v) xT 132 true).run Tryd.prog w = .ok (.tuple #[.nilIface, .bool false]) w := run_typeAssert_lacksB Tryd.underlying132 (by kernel_rfl) (by kernel_rfl) v xT w
set_option maxHeartbeats 40000000 in
theorem is_call (w : World) (F : Nat → Prop) (e : Err) (v : Value) (k : Int) (he : errOk e = true) (hnil : e ≠ .nil) (hv : RepT Tryd.prog w F (trE ids e) v) :
    Calls Tryd.prog 55 #[v, .iface 67 (.int .i64 k), .bool true] w fun ev w' => ev = .returned (.bool (decide (eNum e = some k))) ∧ w' = w := by
  have nA := noIsE
  have nB := noIsP
  have nU := noUnE
  have nV := noUnsE
  have hU := hasUnP
  have mU := mUnwrap
  have hq := fun a => eq_ints w a k
  have hty := fun x => run_eql_iface_types (P := Tryd.prog) 98 67 x (.int .i64 k) Tryd.underlying27 (by decide) w
  generalize hb : decide (eNum e = some k) = b
  go_enter Tryd.func55, Tryd.ntmps55
  go_wp2
  refine wp_loop_rounds (eDep e + 1) ?_
  refine (?key : ∀ (e : Err), errOk e = true → e ≠ .nil → decide (eNum e = some k) = b → ∀ (v : Value), RepT Tryd.prog w F (trE ids e) v → ∀ y3 y4 y5 y7 y8 y9 y10 y11 y12 y13 y14 y15 y16 y17 y18 y19 y20 y21 y22 y23 y24 y25 y26 y27 y28 y29 y30 y31 y32 y33 y34 y35 y36 y37 y38 y39 y40 y41 y42 y43 y44 y45 y46 y47 y48 y49 y50 y51 y52 y53 : Value, Code.rounds Tryd.prog _ _ (eDep e + 1) ⟨#[v, .iface 67 (.int .i64 k), .bool true, y3, y4, y5, .bool false, y7, y8, y9, y10, y11, y12, y13, y14, y15, y16, y17, y18, y19, y20, y21, y22, y23, y24, y25, y26, y27, y28, y29, y30, y31, y32, y33, y34, y35, y36, y37, y38, y39, y40, y41, y42, y43, y44, y45, y46, y47, y48, y49, y50, y51, y52, y53], []⟩ w) e he hnil hb v hv _ _ _ _ _ _ _ _ _ _ _ _ _ _ _ _ _ _ _ _ _ _ _ _ _ _ _ _ _ _ _ _ _ _ _ _ _ _ _ _ _ _ _ _ _ _ _ _ _ _
  intro e
  induction e with
  | nil => intro _ hne; exact absurd rfl hne
  | txt s => intro he; cases he
  | no m =>
    intro _ _ hb v hv y3 y4 y5 y7 y8 y9 y10 y11 y12 y13 y14 y15 y16 y17 y18 y19 y20 y21 y22 y23 y24 y25 y26 y27 y28 y29 y30 y31 y32 y33 y34 y35 y36 y37 y38 y39 y40 y41 y42 y43 y44 y45 y46 y47 y48 y49 y50 y51 y52 y53
    obtain rfl := rep_no hv
    have hq := hq m
    rw [show eDep (.no m) + 1 = 0 + 1 from rfl, rounds_succ]
    by_cases hm : m = k
    · have hmk : (m == k) = true := by simpa using hm
      rw [hmk] at hq
      have hb : true = b := by rw [← hb]; simp [eNum, hm]
      subst hb
      go_wp2
      go_ret
      exact ⟨rfl, rfl⟩
    · have hmk : (m == k) = false := by simpa using hm
      rw [hmk] at hq
      have hb : false = b := by rw [← hb]; simp [eNum, hm]
      subst hb
      go_wp2
      go_ret
      exact ⟨rfl, rfl⟩
  | «at» m e ih =>
    intro he _ hb v hv y3 y4 y5 y7 y8 y9 y10 y11 y12 y13 y14 y15 y16 y17 y18 y19 y20 y21 y22 y23 y24 y25 y26 y27 y28 y29 y30 y31 y32 y33 y34 y35 y36 y37 y38 y39 y40 y41 y42 y43 y44 y45 y46 y47 y48 y49 y50 y51 y52 y53
    obtain ⟨pb, po, u, rfl, _, h0, h1, hu⟩ := rep_at hv
    have hty := hty (.pointer (some ⟨pb, po, none⟩))
    by_cases hne : e = .nil
    · subst hne
      obtain rfl := rep_nil hu
      have hb : false = b := by rw [← hb]; rfl
      subst hb
      rw [show eDep (.at m .nil) + 1 = (eDep .nil + 1) + 1 from rfl, rounds_succ]
      go_wp2
      go_ret
      exact ⟨rfl, rfl⟩
    · have ih := ih he hne hb u hu
      obtain ⟨tt, x, rfl⟩ : ∃ tt x, u = .iface tt x := by
        rcases rep_head (e := e) he hu with ⟨_, h⟩ | ⟨tt, x, h, _⟩
        · exact absurd h hne
        · exact ⟨tt, x, h⟩
      rw [show eDep (.at m e) + 1 = (eDep e + 1) + 1 from rfl, rounds_succ]
      go_wp2
set_option maxHeartbeats 4000000 in
theorem Is_call (w : World) (F : Nat → Prop) (e : Err) (v : Value) (k : Int) (he : errOk e = true) (hv : RepT Tryd.prog w F (trE ids e) v) :
    Calls Tryd.prog 48 #[v, .iface 67 (.int .i64 k)] w fun ev w' => ev = .returned (.bool (decide (eNum e = some k))) ∧ w' = w := by
  have hTo := @run_callFunc_extern Tryd.prog 54 _ ReflectliteType.typeOf Tryd.func54 (by kernel_rfl) (by kernel_rfl) (by kernel_rfl) (by kernel_rfl)
  have hCo := @run_callFunc_extern Tryd.prog 83 _ (ReflectliteType.method fun t => do Rtype.noPackHeld "Comparable" t; pure (.bool (← typeInfo t).comparable)) Tryd.func83 (by kernel_rfl) (by kernel_rfl) (by kernel_rfl) (by kernel_rfl)
  have tT := typeOfE'
  have cT := compE
  have cT2 := compE2
  have mR := mComp
  by_cases hnil : e = .nil
  · subst hnil
    obtain rfl := rep_nil hv
    have hn := run_eql_iface_nil_left (P := Tryd.prog) w 67 (.int .i64 k) Tryd.underlying27
    rw [show decide (eNum .nil = some k) = false from rfl]
    go_enter Tryd.func48, Tryd.ntmps48
    go_wp2
    go_ret
    exact ⟨rfl, rfl⟩
  · have key := is_call w F e v k he hnil hv
    obtain ⟨tt, x, rfl⟩ : ∃ tt x, v = .iface tt x := by
      rcases rep_head he hv with ⟨_, h⟩ | ⟨tt, x, h, _⟩
      · exact absurd h hnil
      · exact ⟨tt, x, h⟩
    go_enter Tryd.func48, Tryd.ntmps48
    go_wp2_with (first | (go_at_call 55; refine key.mono ?_; rintro ev w' ⟨rfl, rfl⟩))
    go_ret
    exact ⟨rfl, rfl⟩
set_option maxHeartbeats 4000000 in
theorem fIs_call (w : World) (F : Nat → Prop) (e : Err) (v : Value) (k : Int) (he : errOk e = true) (hv : RepT Tryd.prog w F (trE ids e) v) :
    Calls Tryd.prog 37 #[v, .int .i64 k] w fun ev w' => ev = .returned (.bool (!decide (k = 0) && decide (eNum e = some k))) ∧ w' = w := by
  have key := Is_call w F e v k he hv
  by_cases hk : k = 0
  · subst hk
    have hk : (0 : Int) = 0 := rfl
    go_enter Tryd.func37, Tryd.ntmps37
    go_wp2
    go_ret
    exact ⟨by simp [hk], rfl⟩
  · rw [decide_eq_false hk, Bool.not_false, Bool.true_and]
    go_enter Tryd.func37, Tryd.ntmps37
    go_wp2_with (first | (go_at_call 48; refine key.mono ?_; rintro ev w' ⟨rfl, rfl⟩))
    go_ret
    exact ⟨by simp [hk], rfl⟩
def b37 : BF Tryd.prog ids := ⟨37, ⟨lfState [.err, .int .i64], leafOut .bool, false, [], ⟨[], [], [], []⟩, none⟩, .pair .err (.int .i64), .bool, fun _ x => zIs x.1 x.2, fun _ => FnOk.grown (ts := [.err, .int .i64]) (B := .bool) (F := fun x => zIs x.1 x.2) ⟨_, Tryd.func37, by kernel_rfl, by kernel_rfl⟩ (fun (x : Err × Int) (r : Bool) hF vs hx hty w Fr us hgw hFr hus hrep => by
  have h2 : vs.length = 2 := by have := congrArg List.length hty; rwa [List.length_map] at this
  obtain ⟨v, v', rfl⟩ : ∃ a b, vs = [a, b] := (match vs, h2 with | [a, b], _ => ⟨a, b, rfl⟩)
  have hty' : v.ty = .err ∧ v'.ty = .int .i64 := by simpa using hty
  obtain ⟨vt, vv⟩ := v
  obtain ⟨vt', vv'⟩ := v'
  obtain ⟨h3, h4⟩ := hty'
  simp only at h3 h4
  subst h3; subst h4
  have hx := as_some hx
  have hx : (⟨.pair .err (.int .i64), (vv, vv')⟩ : L) = ⟨.pair .err (.int .i64), x⟩ := hx
  have hx : (vv, vv') = x := eq_of_heq (L.mk.inj hx).2
  subst hx
  obtain ⟨u, hu, hr⟩ := hrep 0 _ rfl
  obtain ⟨u', hu', hr'⟩ := hrep 1 _ rfl
  obtain rfl := two_args hu hu' hus
  have hr : RepT Tryd.prog w Fr (trE ids vv) u := hr
  have hr' : RepT Tryd.prog w Fr (.i .i64 vv') u' := hr'
  obtain rfl : u' = .int .i64 vv' := by cases hr'; rfl
  have hF : zIs vv vv' = some r := hF
  unfold zIs at hF
  cases he : errOk vv with
  | false => rw [he] at hF; cases hF
  | true =>
    rw [he] at hF
    obtain rfl := Option.some.inj hF
    exact (fIs_call w Fr vv u vv' he hr).mono fun ev w' ⟨h1, h2⟩ => by
      subst h2
      exact ⟨_, Fr, h1, ⟨rfl, rfl, rfl, Nat.le_refl _, fun _ _ => rfl, fun _ h => h, fun _ h => .inl h⟩, .b _⟩)⟩
end Go.Proofs.YteeaoljihmmhhaaDoor
set_option maxRecDepth 100000
set_option linter.unusedVariables false
noncomputable section
namespace Go.Y
open Go
abbrev ZP020 : Type := (List Int) × Int
abbrev ZP021 : Type := Int × Int × List Int
def slices_Clone_byte_byte (N : Nat) (s0 : List Int) : Option (List Int) :=
  pNil s0
    (some [])
    (pCk (room 1 (len ([] ++ s0))) <|
    some ([] ++ s0))
def wire_Read (N : Nat) (b0 : List Int) : Option ZP020 :=
  pCall (slices_Clone_byte_byte N b0) fun x0 =>
  some (x0, 0)
def p_wire_Reader_At (N : Nat) (r0_0 : List Int) (r0_1 : Int) : Option (Int × (List Int) × Int) :=
  some (r0_1, r0_0, r0_1)
def p_wire_Reader_At_v1 (N : Nat) (r0 : Option ZP020) : Option (Int) :=
  pIf ((r0).isNone)
    (some 0)
    (none)
def fault_At (N : Nat) (x : Err) (y : List Int) : Option Err := zAt x y
def p_wire_Reader_wrong (N : Nat) (kv1 : Int) (r0_0 : List Int) (r0_1 : Int) : Option (Err × (List Int) × Int) :=
  pCall (p_wire_Reader_At N r0_0 r0_1) fun x0 =>
  pCall (fault_At N (Err.no kv1) [x0.1]) fun x1 =>
  some (x1, x0.2.1, x0.2.2)
def p_wire_Reader_wrong_v1 (N : Nat) (r0 : Option ZP020) (kv1 : Int) : Option (Err) :=
  pCall (p_wire_Reader_At_v1 N r0) fun x0 =>
  pCall (fault_At N (Err.no kv1) [x0]) fun x1 =>
  some x1
def p_wire_Reader_look_l4 (N : Nat) (k0 : (List Int) × Int → Option (Int × Int × Int × (List Int) × Int)) (k1 : Int × Int × Int × (List Int) × Int → Option (Int × Int × Int × (List Int) × Int)) : Nat → Int → Int → Int → (List Int) → Int → Option (Int × Int × Int × (List Int) × Int)
  | 0, _, _, _, _, _ => none
  | n + 1, most1, n7, t10, r0_0, r0_1 =>
    pIf (decide (t10 < 10))
      (pIf (decide ((wr .i64 (r0_1 + t10)) = (len r0_0)))
        (k1 (0, 0, 2, r0_0, r0_1))
        (pIdx r0_0 (wr .i64 (r0_1 + t10)) fun x0 =>
        pLet (pick (decide (t10 = 9)) (decide (1 < x0)) false) fun x1 =>
        pIf x1
          (k1 (0, 0, 3, r0_0, r0_1))
          (pCk (decide (0 ≤ (wr .i64 (7 * t10)))) <|
          pIf (!decide ((band .u8 x0 128) = 0))
            (p_wire_Reader_look_l4 N k0 k1 n most1 (bor .u64 n7 (shlI .u64 (wr .u64 (band .u8 x0 127)) (wr .i64 (7 * t10)))) (wr .i64 (t10 + 1)) r0_0 r0_1)
            (pLet (pick (decide (x0 = 0)) (decide (0 < t10)) false) fun x2 =>
            pIf x2
              (k1 (0, 0, 3, r0_0, r0_1))
              (pIf (decide (most1 < (bor .u64 n7 (shlI .u64 (wr .u64 (band .u8 x0 127)) (wr .i64 (7 * t10))))))
                (k1 (0, 0, 4, r0_0, r0_1))
                (k1 ((bor .u64 n7 (shlI .u64 (wr .u64 (band .u8 x0 127)) (wr .i64 (7 * t10)))), (wr .i64 (t10 + 1)), 0, r0_0, r0_1)))))))
      (k0 (r0_0, r0_1))
def p_wire_Reader_look (N : Nat) (most1 : Int) (r0_0 : List Int) (r0_1 : Int) : Option (Int × Int × Int × (List Int) × Int) :=
  p_wire_Reader_look_l4 N
    (fun x0 => some (0, 0, 3, x0.1, x0.2))
    (fun x0 => some x0) N most1 0 0 r0_0 r0_1
def p_wire_Reader_look_v1_l4 (N : Nat) (k0 : Unit → Option (Int × Int × Int)) (k1 : Int × Int × Int → Option (Int × Int × Int)) : Nat → (Option ZP020) → Int → Int → Int → Option (Int × Int × Int)
  | 0, _, _, _, _ => none
  | n + 1, r0, most1, n7, t10 =>
    pIf (decide (t10 < 10))
      (none)
      (k0 ())
def p_wire_Reader_look_v1 (N : Nat) (r0 : Option ZP020) (most1 : Int) : Option (Int × Int × Int) :=
  p_wire_Reader_look_v1_l4 N
    (fun x0 => some (0, 0, 3))
    (fun x0 => some x0) N r0 most1 0 0
def p_wire_Reader_Uint (N : Nat) (most1 : Int) (r0_0 : List Int) (r0_1 : Int) : Option (Int × Err × (List Int) × Int) :=
  pCall (p_wire_Reader_look N most1 r0_0 r0_1) fun x0 =>
  pIf (!decide (x0.2.2.1 = 0))
    (pCall (p_wire_Reader_wrong N x0.2.2.1 x0.2.2.2.1 x0.2.2.2.2) fun x1 =>
    some (0, x1.1, x1.2.1, x1.2.2))
    (some (x0.1, Err.nil, x0.2.2.2.1, (wr .i64 (x0.2.2.2.2 + x0.2.1))))
def p_wire_Reader_Uint_v1 (N : Nat) (r0 : Option ZP020) (most1 : Int) : Option (Int × Err) :=
  pIf ((r0).isNone)
    (pCall (p_wire_Reader_wrong_v1 N r0 1) fun x0 =>
    some (0, x0))
    (pCall (p_wire_Reader_look_v1 N r0 most1) fun x0 =>
    pIf (!decide (x0.2.2 = 0))
      (pCall (p_wire_Reader_wrong_v1 N r0 x0.2.2) fun x1 =>
      some (0, x1))
      (none))
def p_wire_Reader_Int (N : Nat) (r0_0 : List Int) (r0_1 : Int) : Option (Int × Err × (List Int) × Int) :=
  pCall (p_wire_Reader_Uint N 18446744073709551615 r0_0 r0_1) fun x0 =>
  some ((bxor .i64 (wr .i64 (shrI .u64 x0.1 1)) (wr .i64 (0 - (wr .i64 (band .u64 x0.1 1))))), x0.2.1, x0.2.2.1, x0.2.2.2)
def p_wire_Reader_Int_v1 (N : Nat) (r0 : Option ZP020) : Option (Int × Err) :=
  pCall (p_wire_Reader_Uint_v1 N r0 18446744073709551615) fun x0 =>
  some ((bxor .i64 (wr .i64 (shrI .u64 x0.1 1)) (wr .i64 (0 - (wr .i64 (band .u64 x0.1 1))))), x0.2)
def wire_New (N : Nat) : Option (List Int) :=
  some []
def p_wire_Writer_Byte (N : Nat) (b1 : Int) (w0 : List Int) : Option (List Int) :=
  pCk (room 1 (len (w0 ++ [b1]))) <|
  some (w0 ++ [b1])
def p_wire_Writer_Byte_v1 (N : Nat) (w0 : Option (List Int)) (b1 : Int) : Option (Unit) :=
  pIf (!((w0).isNone))
    (none)
    (some ())
def p_wire_Writer_Uint_l1 (N : Nat) (k0 : Int × List Int → Option (List Int)) : Nat → Int → (List Int) → Option (List Int)
  | 0, _, _ => none
  | n + 1, n1, w0 =>
    pIf (decide (127 < n1))
      (pCall (p_wire_Writer_Byte N (bor .u8 (wr .u8 (band .u64 n1 127)) 128) w0) fun x0 =>
      p_wire_Writer_Uint_l1 N k0 n (shrI .u64 n1 7) x0)
      (k0 (n1, w0))
def p_wire_Writer_Uint (N : Nat) (n1 : Int) (w0 : List Int) : Option (List Int) :=
  p_wire_Writer_Uint_l1 N
    (fun x0 => pCall (p_wire_Writer_Byte N (wr .u8 x0.1) x0.2) fun x1 =>
      some x1) N n1 w0
def p_wire_Writer_Uint_v1_l1 (N : Nat) (k0 : (Option (List Int)) × Int → Option (Unit)) : Nat → (Option (List Int)) → Int → Option (Unit)
  | 0, _, _ => none
  | n + 1, w0, n1 =>
    pIf (decide (127 < n1))
      (pCall (p_wire_Writer_Byte_v1 N w0 (bor .u8 (wr .u8 (band .u64 n1 127)) 128)) fun x0 =>
      p_wire_Writer_Uint_v1_l1 N k0 n w0 (shrI .u64 n1 7))
      (k0 (w0, n1))
def p_wire_Writer_Uint_v1 (N : Nat) (w0 : Option (List Int)) (n1 : Int) : Option (Unit) :=
  p_wire_Writer_Uint_v1_l1 N
    (fun x0 => pCall (p_wire_Writer_Byte_v1 N x0.1 (wr .u8 x0.2)) fun x1 =>
      some ()) N w0 n1
def p_wire_Writer_Int (N : Nat) (n1 : Int) (w0 : List Int) : Option (List Int) :=
  pCall (p_wire_Writer_Uint N (bxor .u64 (shlI .u64 (wr .u64 n1) 1) (wr .u64 (shrI .i64 n1 63))) w0) fun x0 =>
  some x0
def p_wire_Writer_Int_v1 (N : Nat) (w0 : Option (List Int)) (n1 : Int) : Option (Unit) :=
  pCall (p_wire_Writer_Uint_v1 N w0 (bxor .u64 (shlI .u64 (wr .u64 n1) 1) (wr .u64 (shrI .i64 n1 63)))) fun x0 =>
  some ()
def p_wire_Writer_Bytes (N : Nat) (w0 : List Int) : Option ((List Int) × List Int) :=
  pCall (slices_Clone_byte_byte N w0) fun x0 =>
  some (x0, w0)
def p_wire_Writer_Bytes_v1 (N : Nat) (w0 : Option (List Int)) : Option (Unit) :=
  pIf ((w0).isNone)
    (some ())
    (none)
def p_wire_Reader_Left (N : Nat) (r0_0 : List Int) (r0_1 : Int) : Option (Int × (List Int) × Int) :=
  some ((wr .i64 ((len r0_0) - r0_1)), r0_0, r0_1)
def p_wire_Reader_Left_v1 (N : Nat) (r0 : Option ZP020) : Option (Int) :=
  pIf ((r0).isNone)
    (some 0)
    (none)
def p_wire_Reader_End (N : Nat) (r0_0 : List Int) (r0_1 : Int) : Option (Err × (List Int) × Int) :=
  pCall (p_wire_Reader_Left N r0_0 r0_1) fun x0 =>
  pIf (decide (0 < x0.1))
    (pCall (p_wire_Reader_wrong N 3 x0.2.1 x0.2.2) fun x1 =>
    some (x1.1, x1.2.1, x1.2.2))
    (some (Err.nil, x0.2.1, x0.2.2))
def p_wire_Reader_End_v1 (N : Nat) (r0 : Option ZP020) : Option (Err) :=
  pIf ((r0).isNone)
    (pCall (p_wire_Reader_wrong_v1 N r0 1) fun x0 =>
    some x0)
    (pCall (p_wire_Reader_Left_v1 N r0) fun x0 =>
    pIf (decide (0 < x0))
      (pCall (p_wire_Reader_wrong_v1 N r0 3) fun x1 =>
      some x1)
      (some Err.nil))
def fault_Kind (N : Nat) (x : Err) : Option Int := zKind x
def avermentlaw02_lays (N : Nat) : Option (Bool) :=
  pCall (wire_New N) fun x0 =>
  pCall (p_wire_Writer_Uint N 300 x0) fun x1 =>
  pCall (p_wire_Writer_Int N (-1) x1) fun x2 =>
  pCall (p_wire_Writer_Bytes N x2) fun x3 =>
  pCall (wire_Read N x3.1) fun x4 =>
  pCall (p_wire_Reader_Uint N 300 x4.1 x4.2) fun x5 =>
  pCall (p_wire_Reader_Int N x5.2.2.1 x5.2.2.2) fun x6 =>
  pCall (wire_Read N [128, 0]) fun x7 =>
  pCall (p_wire_Reader_Uint N 9 x7.1 x7.2) fun x8 =>
  pCall (p_wire_Writer_Bytes N x3.2) fun x9 =>
  pLet (pick (decide ((toStr x9.1) = [172, 2, 1])) (decide (x5.1 = 300)) false) fun x10 =>
  pLet (pick x10 (errNil x5.2.1) false) fun x11 =>
  pLet (pick x11 (decide (x6.1 = (-1))) false) fun x12 =>
  pLet (pick x12 (errNil x6.2.1) false) fun x13 =>
  pIf x13
    (pCall (p_wire_Reader_End N x6.2.2.1 x6.2.2.2) fun x14 =>
    pLet (pick x13 (errNil x14.1) false) fun x15 =>
    pCallG x15 0 (fault_Kind N x8.2.1) fun x16 =>
    pLet (pick x15 (decide (x16 = 3)) false) fun x17 =>
    some x17)
    (pLet (pick x13 (errNil Err.nil) false) fun x14 =>
    pCallG x14 0 (fault_Kind N x8.2.1) fun x15 =>
    pLet (pick x14 (decide (x15 = 3)) false) fun x16 =>
    some x16)
def avermentlaw02_WireOnce (N : Nat) (b0 : List Int) : Option (Bool) :=
  pCk ((decide (0 ≤ (mnI (len b0) 20))) && (decide ((mnI (len b0) 20) ≤ (len b0)))) <|
  pCk ((decide (0 ≤ 0)) && (decide (0 ≤ (mnI (len b0) 20)))) <|
  pCall (wire_Read N (sub b0 0 (mnI (len b0) 20))) fun x0 =>
  pCall (wire_Read N (sub b0 0 (mnI (len b0) 20))) fun x1 =>
  pCall (p_wire_Reader_Uint N 18446744073709551615 x0.1 x0.2) fun x2 =>
  pCall (p_wire_Reader_Int N x1.1 x1.2) fun x3 =>
  pCall (avermentlaw02_lays N) fun x4 =>
  pLet (pick (!x4) true (!(((errNil x2.2.1) == (errNil x3.2.1))))) fun x5 =>
  pIf x5
    (some false)
    (pIf (!(errNil x2.2.1))
      (pCall (p_wire_Reader_At N x2.2.2.1 x2.2.2.2) fun x6 =>
      pLet (pick (decide (x6.1 = 0)) (decide (x2.1 = 0)) false) fun x7 =>
      pLet (pick x7 (decide (x3.1 = 0)) false) fun x8 =>
      some x8)
      (pCall (wire_New N) fun x6 =>
      pCall (wire_New N) fun x7 =>
      pCall (p_wire_Writer_Uint N x2.1 x6) fun x8 =>
      pCall (p_wire_Writer_Int N x3.1 x7) fun x9 =>
      pCall (p_wire_Writer_Bytes N x8) fun x10 =>
      pCall (p_wire_Reader_At N x2.2.2.1 x2.2.2.2) fun x11 =>
      pCk ((decide (0 ≤ x11.1)) && (decide (x11.1 ≤ (len (sub b0 0 (mnI (len b0) 20)))))) <|
      pCk ((decide (0 ≤ 0)) && (decide (0 ≤ x11.1))) <|
      pIf (decide ((toStr x10.1) = (toStr (sub (sub b0 0 (mnI (len b0) 20)) 0 x11.1))))
        (pCall (p_wire_Writer_Bytes N x9) fun x12 =>
        pIf (decide ((toStr x10.1) = (toStr (sub (sub b0 0 (mnI (len b0) 20)) 0 x11.1))))
          (pCall (p_wire_Reader_At N x3.2.2.1 x3.2.2.2) fun x13 =>
          pCk (!(decide ((toStr x10.1) = (toStr (sub (sub b0 0 (mnI (len b0) 20)) 0 x11.1)))) || ((decide (0 ≤ x13.1)) && (decide (x13.1 ≤ (len (sub b0 0 (mnI (len b0) 20))))))) <|
          pCk (!(decide ((toStr x10.1) = (toStr (sub (sub b0 0 (mnI (len b0) 20)) 0 x11.1)))) || ((decide (0 ≤ 0)) && (decide (0 ≤ x13.1)))) <|
          pLet (pick (decide ((toStr x10.1) = (toStr (sub (sub b0 0 (mnI (len b0) 20)) 0 x11.1)))) (decide ((toStr x12.1) = (toStr (sub (sub b0 0 (mnI (len b0) 20)) 0 x13.1)))) false) fun x14 =>
          some x14)
          (pCk (!(decide ((toStr x10.1) = (toStr (sub (sub b0 0 (mnI (len b0) 20)) 0 x11.1)))) || ((decide (0 ≤ 0)) && (decide (0 ≤ (len (sub b0 0 (mnI (len b0) 20))))))) <|
          pCk (!(decide ((toStr x10.1) = (toStr (sub (sub b0 0 (mnI (len b0) 20)) 0 x11.1)))) || ((decide (0 ≤ 0)) && (decide (0 ≤ 0)))) <|
          pLet (pick (decide ((toStr x10.1) = (toStr (sub (sub b0 0 (mnI (len b0) 20)) 0 x11.1)))) (decide ((toStr x12.1) = (toStr (sub (sub b0 0 (mnI (len b0) 20)) 0 0)))) false) fun x13 =>
          some x13))
        (pIf (decide ((toStr x10.1) = (toStr (sub (sub b0 0 (mnI (len b0) 20)) 0 x11.1))))
          (pCall (p_wire_Reader_At N x3.2.2.1 x3.2.2.2) fun x12 =>
          pCk (!(decide ((toStr x10.1) = (toStr (sub (sub b0 0 (mnI (len b0) 20)) 0 x11.1)))) || ((decide (0 ≤ x12.1)) && (decide (x12.1 ≤ (len (sub b0 0 (mnI (len b0) 20))))))) <|
          pCk (!(decide ((toStr x10.1) = (toStr (sub (sub b0 0 (mnI (len b0) 20)) 0 x11.1)))) || ((decide (0 ≤ 0)) && (decide (0 ≤ x12.1)))) <|
          pLet (pick (decide ((toStr x10.1) = (toStr (sub (sub b0 0 (mnI (len b0) 20)) 0 x11.1)))) (decide ((toStr []) = (toStr (sub (sub b0 0 (mnI (len b0) 20)) 0 x12.1)))) false) fun x13 =>
          some x13)
          (pCk (!(decide ((toStr x10.1) = (toStr (sub (sub b0 0 (mnI (len b0) 20)) 0 x11.1)))) || ((decide (0 ≤ 0)) && (decide (0 ≤ (len (sub b0 0 (mnI (len b0) 20))))))) <|
          pCk (!(decide ((toStr x10.1) = (toStr (sub (sub b0 0 (mnI (len b0) 20)) 0 x11.1)))) || ((decide (0 ≤ 0)) && (decide (0 ≤ 0)))) <|
          pLet (pick (decide ((toStr x10.1) = (toStr (sub (sub b0 0 (mnI (len b0) 20)) 0 x11.1)))) (decide ((toStr []) = (toStr (sub (sub b0 0 (mnI (len b0) 20)) 0 0)))) false) fun x12 =>
          some x12))))
def p_wire_Writer_Raw (N : Nat) (w0 : List Int) (b1 : List Int) : Option ((List Int) × List Int) :=
  pCk (room 1 (len (w0 ++ b1))) <|
  some ((w0 ++ b1), b1)
def p_wire_Writer_Raw_v1 (N : Nat) (b1 : List Int) (w0 : List Int) : Option (List Int) :=
  pCk (room 1 (len (w0 ++ b1))) <|
  some (w0 ++ b1)
def p_wire_Writer_Raw_v2 (N : Nat) (w0 : Option (List Int)) (b1 : List Int) : Option (List Int) :=
  pIf (!((w0).isNone))
    (none)
    (some b1)
def p_wire_Writer_Raw_v3 (N : Nat) (w0 : Option (List Int)) (b1 : List Int) : Option (Unit) :=
  pIf (!((w0).isNone))
    (none)
    (some ())
def p_wire_Reader_Raw (N : Nat) (n1 : Int) (r0_0 : List Int) (r0_1 : Int) : Option ((List Int) × Err × (List Int) × Int) :=
  pLet (pick false true (decide (n1 < 0))) fun x0 =>
  pIf x0
    (pCall (p_wire_Reader_wrong N 1 r0_0 r0_1) fun x1 =>
    some ([], x1.1, x1.2.1, x1.2.2))
    (pCall (p_wire_Reader_Left N r0_0 r0_1) fun x1 =>
    pIf (decide (x1.1 < n1))
      (pCall (p_wire_Reader_wrong N 2 x1.2.1 x1.2.2) fun x2 =>
      some ([], x2.1, x2.2.1, x2.2.2))
      (pCk ((decide (0 ≤ (wr .i64 (x1.2.2 + n1)))) && (decide ((wr .i64 (x1.2.2 + n1)) ≤ (len x1.2.1)))) <|
      pCk ((decide (0 ≤ (wr .i64 ((wr .i64 (x1.2.2 + n1)) - n1)))) && (decide ((wr .i64 ((wr .i64 (x1.2.2 + n1)) - n1)) ≤ (wr .i64 (x1.2.2 + n1))))) <|
      pCall (slices_Clone_byte_byte N (sub x1.2.1 (wr .i64 ((wr .i64 (x1.2.2 + n1)) - n1)) (wr .i64 (x1.2.2 + n1)))) fun x2 =>
      some (x2, Err.nil, x1.2.1, (wr .i64 (x1.2.2 + n1)))))
def p_wire_Reader_Raw_v1 (N : Nat) (r0 : Option ZP020) (n1 : Int) : Option ((List Int) × Err) :=
  pLet (pick ((r0).isNone) true (decide (n1 < 0))) fun x0 =>
  pIf x0
    (pCall (p_wire_Reader_wrong_v1 N r0 1) fun x1 =>
    some ([], x1))
    (pCall (p_wire_Reader_Left_v1 N r0) fun x1 =>
    pIf (decide (x1 < n1))
      (pCall (p_wire_Reader_wrong_v1 N r0 2) fun x2 =>
      some ([], x2))
      (none))
def avermentlaw02_WireApart_l8 (N : Nat) (k0 : (List UInt8) × (List Int) × (List Int) × Int → Option (Bool)) : Nat → (List UInt8) → Int → (List Int) → (List Int) → (List Int) → Int → Option (Bool)
  | 0, _, _, _, _, _, _ => none
  | n + 1, was3, i6, b0, w4, r5_0, r5_1 =>
    pIf (decide (i6 < (len b0)))
      (pCk ((decide (0 ≤ i6)) && (decide (i6 < (len b0)))) <|
      pIdx b0 i6 fun x0 =>
      pCk ((decide (0 ≤ i6)) && (decide (i6 < (len b0)))) <|
      pIdx b0 i6 fun x1 =>
      avermentlaw02_WireApart_l8 N k0 n was3 (wr .i64 (i6 + 1)) (setI b0 i6 (bxor .u8 x0 1)) w4 r5_0 r5_1)
      (k0 (was3, w4, r5_0, r5_1))
def avermentlaw02_WireApart_l16 (N : Nat) (k0 : (List UInt8) × List Int → Option (Bool)) : Nat → (List UInt8) → Int → (List Int) → (List Int) → Option (Bool)
  | 0, _, _, _, _ => none
  | n + 1, was3, i10, w4, xv7 =>
    pIf (decide (i10 < (len xv7)))
      (pCk ((decide (0 ≤ i10)) && (decide (i10 < (len xv7)))) <|
      pIdx xv7 i10 fun x0 =>
      pCk ((decide (0 ≤ i10)) && (decide (i10 < (len xv7)))) <|
      pIdx xv7 i10 fun x1 =>
      avermentlaw02_WireApart_l16 N k0 n was3 (wr .i64 (i10 + 1)) w4 (setI xv7 i10 (bxor .u8 x0 1)))
      (k0 (was3, w4))
def avermentlaw02_WireApart (N : Nat) (b0 : List Int) : Option (Bool) :=
  pCk ((decide (0 ≤ (mnI (len b0) 40))) && (decide ((mnI (len b0) 40) ≤ (len b0)))) <|
  pCk ((decide (0 ≤ 0)) && (decide (0 ≤ (mnI (len b0) 40)))) <|
  pCk (room 1 (len ([] ++ (sub b0 0 (mnI (len b0) 40))))) <|
  pCall (wire_New N) fun x0 =>
  pCall (p_wire_Writer_Raw N x0 ([] ++ (sub b0 0 (mnI (len b0) 40)))) fun x1 =>
  pCall (wire_Read N x1.2) fun x2 =>
  avermentlaw02_WireApart_l8 N
    (fun x3 => pCall (p_wire_Writer_Bytes N x3.2.1) fun x4 =>
      pCall (p_wire_Reader_Raw N (len x3.1) x3.2.2.1 x3.2.2.2) fun x5 =>
      pLet (pick (!(decide ((toStr x4.1) = x3.1))) true (!(errNil x5.2.1))) fun x6 =>
      pLet (pick x6 true (!(decide ((toStr x5.1) = x3.1)))) fun x7 =>
      pIf x7
        (some false)
        (avermentlaw02_WireApart_l16 N
          (fun x8 => pCall (p_wire_Writer_Byte N 7 x8.2) fun x9 =>
            pCall (avermentlaw02_lays N) fun x10 =>
            pIf x10
              (pCall (p_wire_Writer_Bytes N x9) fun x11 =>
              pCk (!x10 || (room 1 (len (x8.1 ++ [7])))) <|
              pLet (pick x10 (decide ((toStr x11.1) = (x8.1 ++ [7]))) false) fun x12 =>
              some x12)
              (pCk (!x10 || (room 1 (len (x8.1 ++ [7])))) <|
              pLet (pick x10 (decide ((toStr []) = (x8.1 ++ [7]))) false) fun x11 =>
              some x11)) N x3.1 0 x4.2 x4.1)) N (toStr ([] ++ (sub b0 0 (mnI (len b0) 40)))) 0 x1.2 x1.1 x2.1 x2.2
def avermentlaw02_none (N : Nat) : Option ((Option (List Int)) × Option ZP020) :=
  some (none, none)
def p_wire_Writer_Section (N : Nat) (b1 : List Int) (w0 : List Int) : Option (List Int) :=
  pCall (p_wire_Writer_Uint N (wr .u64 (len b1)) w0) fun x0 =>
  pCall (p_wire_Writer_Raw_v1 N b1 x0) fun x1 =>
  some x1
def p_wire_Writer_Section_v1 (N : Nat) (w0 : Option (List Int)) (b1 : List Int) : Option (Unit) :=
  pCall (p_wire_Writer_Uint_v1 N w0 (wr .u64 (len b1))) fun x0 =>
  pCall (p_wire_Writer_Raw_v3 N w0 b1) fun x1 =>
  some ()
def p_wire_Reader_Byte (N : Nat) (r0_0 : List Int) (r0_1 : Int) : Option (Int × Err × (List Int) × Int) :=
  pIf (decide (r0_1 = (len r0_0)))
    (pCall (p_wire_Reader_wrong N 2 r0_0 r0_1) fun x0 =>
    some (0, x0.1, x0.2.1, x0.2.2))
    (pIdx r0_0 (wr .i64 ((wr .i64 (r0_1 + 1)) - 1)) fun x0 =>
    some (x0, Err.nil, r0_0, (wr .i64 (r0_1 + 1))))
def p_wire_Reader_Byte_v1 (N : Nat) (r0 : Option ZP020) : Option (Int × Err) :=
  pIf ((r0).isNone)
    (pCall (p_wire_Reader_wrong_v1 N r0 1) fun x0 =>
    some (0, x0))
    (none)
def p_wire_Reader_Section (N : Nat) (r0_0 : List Int) (r0_1 : Int) : Option (Bool × (Err × (List Int) × Int × (List Int) × Int) × (Option ZP020) × Err × (List Int) × Int) :=
  pCall (p_wire_Reader_look N 18446744073709551615 r0_0 r0_1) fun x0 =>
  pIf (!decide (x0.2.2.1 = 0))
    (pCall (p_wire_Reader_wrong N x0.2.2.1 x0.2.2.2.1 x0.2.2.2.2) fun x1 =>
    some (false, (Err.nil, [], 0, [], 0), none, x1.1, x1.2.1, x1.2.2))
    (pCall (p_wire_Reader_Left N x0.2.2.2.1 x0.2.2.2.2) fun x1 =>
    pIf (decide ((wr .u64 (wr .i64 (x1.1 - x0.2.1))) < x0.1))
      (pCall (p_wire_Reader_wrong N 2 x1.2.1 x1.2.2) fun x2 =>
      some (false, (Err.nil, [], 0, [], 0), none, x2.1, x2.2.1, x2.2.2))
      (pCk ((decide (0 ≤ (wr .i64 ((wr .i64 (x1.2.2 + x0.2.1)) + (wr .i64 x0.1))))) && (decide ((wr .i64 ((wr .i64 (x1.2.2 + x0.2.1)) + (wr .i64 x0.1))) ≤ (len x1.2.1)))) <|
      pCk ((decide (0 ≤ 0)) && (decide (0 ≤ (wr .i64 ((wr .i64 (x1.2.2 + x0.2.1)) + (wr .i64 x0.1)))))) <|
      some (true, (Err.nil, (sub x1.2.1 0 (wr .i64 ((wr .i64 (x1.2.2 + x0.2.1)) + (wr .i64 x0.1)))), (wr .i64 (x1.2.2 + x0.2.1)), x1.2.1, (wr .i64 (x1.2.2 + (wr .i64 (x0.2.1 + (wr .i64 x0.1)))))), none, Err.nil, [], 0)))
def p_wire_Reader_Section_v1 (N : Nat) (r0 : Option ZP020) : Option ((Option ZP020) × Err) :=
  pIf ((r0).isNone)
    (pCall (p_wire_Reader_wrong_v1 N r0 1) fun x0 =>
    some (none, x0))
    (pCall (p_wire_Reader_look_v1 N r0 18446744073709551615) fun x0 =>
    pIf (!decide (x0.2.2 = 0))
      (pCall (p_wire_Reader_wrong_v1 N r0 x0.2.2) fun x1 =>
      some (none, x1))
      (pCall (p_wire_Reader_Left_v1 N r0) fun x1 =>
      pIf (decide ((wr .u64 (wr .i64 (x1 - x0.2.1))) < x0.1))
        (pCall (p_wire_Reader_wrong_v1 N r0 2) fun x2 =>
        some (none, x2))
        (none)))
def p_wire_Reader_Copy (N : Nat) (r0_0 : List Int) (r0_1 : Int) : Option ((List Int) × Int × (List Int) × Int) :=
  some (r0_0, r0_1, r0_0, r0_1)
def p_wire_Reader_Copy_v1 (N : Nat) (r0 : Option ZP020) : Option (Option ZP020) :=
  pIf ((r0).isNone)
    (some none)
    (none)
def avermentref02_Uint_b (self : Nat → Int → Option (List Int)) (N : Nat) (n0 : Int) : Option (List Int) :=
    pIf (decide (n0 < 128))
      (some [(wr .u8 n0)])
      (pCall (self N (quoI .u64 n0 128)) fun x0 =>
      pCk (room 1 (len ([(wr .u8 ((wr .u8 (remI n0 128)) + 128))] ++ x0))) <|
      some ([(wr .u8 ((wr .u8 (remI n0 128)) + 128))] ++ x0))
def avermentref02_Uint_f (self : Nat → Int → Option (List Int)) (N : Nat) (x : Int) : Option (List Int) := avermentref02_Uint_b (fun N n0 => self N (n0)) N x
def avermentref02_Uint (N : Nat) (n0 : Int) : Option (List Int) := recF avermentref02_Uint_f N N (n0)
def avermentref02_Zig (N : Nat) (n0 : Int) : Option (Int) :=
  pIf (decide (n0 < 0))
    (some (wr .u64 ((wr .u64 (2 * (wr .u64 (wr .i64 (0 - (wr .i64 (n0 + 1))))))) + 1)))
    (some (wr .u64 (2 * (wr .u64 n0))))
def avermentlaw02_Thing_few (N : Nat) (t0 : Int × Int × List Int) : Option (List Int) :=
  pCk ((decide (0 ≤ (mnI (len t0.2.2) 40))) && (decide ((mnI (len t0.2.2) 40) ≤ (len t0.2.2)))) <|
  pCk ((decide (0 ≤ 0)) && (decide (0 ≤ (mnI (len t0.2.2) 40)))) <|
  pCk (room 1 (len ([] ++ (sub t0.2.2 0 (mnI (len t0.2.2) 40))))) <|
  some ([] ++ (sub t0.2.2 0 (mnI (len t0.2.2) 40)))
def avermentref02_Section (N : Nat) (b0 : List Int) : Option (List Int) :=
  pCall (avermentref02_Uint N (wr .u64 (len b0))) fun x0 =>
  pCk (room 1 (len (x0 ++ b0))) <|
  some (x0 ++ b0)
def avermentlaw02_Thing_lay (N : Nat) (t0 : Int × Int × List Int) (w1 : List Int) : Option ((List Int) × List Int) :=
  pIf (decide (t0.1 = 0))
    (pCall (p_wire_Writer_Byte N (wr .u8 t0.2.1) w1) fun x0 =>
    some ([(wr .u8 t0.2.1)], x0))
    (pIf (decide (t0.1 = 1))
      (pCall (p_wire_Writer_Uint N t0.2.1 w1) fun x0 =>
      pCall (avermentref02_Uint N t0.2.1) fun x1 =>
      some (x1, x0))
      (pIf (decide (t0.1 = 2))
        (pCall (p_wire_Writer_Int N (wr .i64 t0.2.1) w1) fun x0 =>
        pCall (avermentref02_Zig N (wr .i64 t0.2.1)) fun x1 =>
        pCall (avermentref02_Uint N x1) fun x2 =>
        some (x2, x0))
        (pIf (decide (t0.1 = 3))
          (pCall (avermentlaw02_Thing_few N (t0.1, t0.2.1, t0.2.2)) fun x0 =>
          pCall (p_wire_Writer_Raw_v1 N x0 w1) fun x1 =>
          some (x0, x1))
          (pCall (avermentlaw02_Thing_few N (t0.1, t0.2.1, t0.2.2)) fun x0 =>
          pCall (p_wire_Writer_Section N x0 w1) fun x1 =>
          pCall (avermentref02_Section N x0) fun x2 =>
          some (x2, x1)))))
def avermentlaw02_Thing_take (N : Nat) (t0 : Int × Int × List Int) (r1_0 : List Int) (r1_1 : Int) : Option (Bool × (List Int) × Int) :=
  pIf (decide (t0.1 = 0))
    (pCall (p_wire_Reader_Byte N r1_0 r1_1) fun x0 =>
    pLet (pick (errNil x0.2.1) (decide (x0.1 = (wr .u8 t0.2.1))) false) fun x1 =>
    some (x1, x0.2.2.1, x0.2.2.2))
    (pIf (decide (t0.1 = 1))
      (pCall (p_wire_Reader_Uint N t0.2.1 r1_0 r1_1) fun x0 =>
      pLet (pick (errNil x0.2.1) (decide (x0.1 = t0.2.1)) false) fun x1 =>
      some (x1, x0.2.2.1, x0.2.2.2))
      (pIf (decide (t0.1 = 2))
        (pCall (p_wire_Reader_Int N r1_0 r1_1) fun x0 =>
        pLet (pick (errNil x0.2.1) (decide (x0.1 = (wr .i64 t0.2.1))) false) fun x1 =>
        some (x1, x0.2.2.1, x0.2.2.2))
        (pIf (decide (t0.1 = 3))
          (pCall (avermentlaw02_Thing_few N (t0.1, t0.2.1, t0.2.2)) fun x0 =>
          pCall (p_wire_Reader_Raw N (len x0) r1_0 r1_1) fun x1 =>
          pCallG (errNil x1.2.1) [] (avermentlaw02_Thing_few N (t0.1, t0.2.1, t0.2.2)) fun x2 =>
          pLet (pick (errNil x1.2.1) (decide ((toStr x1.1) = (toStr x2))) false) fun x3 =>
          some (x3, x1.2.2.1, x1.2.2.2))
          (pCall (p_wire_Reader_Section N r1_0 r1_1) fun x0 =>
          pIf x0.1
            (pIf (!(errNil x0.2.1.1))
              (some (false, x0.2.1.2.2.2.1, x0.2.1.2.2.2.2))
              (pCall (p_wire_Reader_Left N x0.2.1.2.1 x0.2.1.2.2.1) fun x1 =>
              pCall (p_wire_Reader_Raw N x1.1 x1.2.1 x1.2.2) fun x2 =>
              pCallG (errNil x2.2.1) [] (avermentlaw02_Thing_few N (t0.1, t0.2.1, t0.2.2)) fun x3 =>
              pLet (pick (errNil x2.2.1) (decide ((toStr x2.1) = (toStr x3))) false) fun x4 =>
              pIf x4
                (pCall (p_wire_Reader_End N x2.2.2.1 x2.2.2.2) fun x5 =>
                pLet (pick x4 (errNil x5.1) false) fun x6 =>
                some (x6, x0.2.1.2.2.2.1, x0.2.1.2.2.2.2))
                (pLet (pick x4 (errNil Err.nil) false) fun x5 =>
                some (x5, x0.2.1.2.2.2.1, x0.2.1.2.2.2.2))))
            (pIf (!(errNil x0.2.2.2.1))
              (some (false, x0.2.2.2.2.1, x0.2.2.2.2.2))
              (pCall (p_wire_Reader_Left_v1 N x0.2.2.1) fun x1 =>
              pCall (p_wire_Reader_Raw_v1 N x0.2.2.1 x1) fun x2 =>
              pCallG (errNil x2.2) [] (avermentlaw02_Thing_few N (t0.1, t0.2.1, t0.2.2)) fun x3 =>
              pLet (pick (errNil x2.2) (decide ((toStr x2.1) = (toStr x3))) false) fun x4 =>
              pCallG x4 Err.nil (p_wire_Reader_End_v1 N x0.2.2.1) fun x5 =>
              pLet (pick x4 (errNil x5) false) fun x6 =>
              some (x6, x0.2.2.2.2.1, x0.2.2.2.2.2)))))))
def avermentlaw02_WireLays_l18 (N : Nat) (k0 : (List ZP021) × (List Int) × List Int → Option (Bool)) : Nat → (List ZP021) → Int → (List Int) → (List Int) → Option (Bool)
  | 0, _, _, _, _ => none
  | n + 1, row0, i17, w15, want16 =>
    pLet (pick (decide (i17 < (len row0))) (decide (i17 < 40)) false) fun x0 =>
    pIf x0
      (pIdx row0 i17 fun x1 =>
      pCall (avermentlaw02_Thing_lay N x1 w15) fun x2 =>
      pCk (room 1 (len (want16 ++ x2.1))) <|
      avermentlaw02_WireLays_l18 N k0 n row0 (wr .i64 (i17 + 1)) x2.2 (want16 ++ x2.1))
      (k0 (row0, w15, want16))
def avermentlaw02_WireLays_l25 (N : Nat) (k0 : (List Int) × (List Int) × Int → Option (Bool)) (k1 : Bool → Option (Bool)) : Nat → (List ZP021) → Int → (List Int) → (List Int) → Int → Option (Bool)
  | 0, _, _, _, _, _ => none
  | n + 1, row0, i19, want16, r18_0, r18_1 =>
    pLet (pick (decide (i19 < (len row0))) (decide (i19 < 40)) false) fun x0 =>
    pIf x0
      (pJoin (fun (x1 : (List ZP021) × Int × (List Int) × (List Int) × Int) =>
        avermentlaw02_WireLays_l25 N k0 k1 n x1.1 (wr .i64 (x1.2.1 + 1)) x1.2.2.1 x1.2.2.2.1 x1.2.2.2.2) fun J1 =>
      pCall (p_wire_Reader_Copy N r18_0 r18_1) fun x2 =>
      pIdx row0 i19 fun x3 =>
      pCall (avermentlaw02_Thing_take N x3 x2.1 x2.2.1) fun x4 =>
      pIdxG (!(!x4.1)) (0, 0, []) row0 i19 fun x5 =>
      pIf (!(!x4.1))
        (pCall (avermentlaw02_Thing_take N x5 x2.2.2.1 x2.2.2.2) fun x6 =>
        pLet (pick (!x4.1) true (!x6.1)) fun x7 =>
        pIf (!x7)
          (pCall (p_wire_Reader_At N x4.2.1 x4.2.2) fun x8 =>
          pIf (!x7)
            (pCall (p_wire_Reader_At N x6.2.1 x6.2.2) fun x9 =>
            pLet (pick x7 true (!decide (x8.1 = x9.1))) fun x10 =>
            pIf x10
              (k1 false)
              (J1 (row0, i19, want16, x9.2.1, x9.2.2)))
            (pLet (pick x7 true (!decide (x8.1 = 0))) fun x9 =>
            pIf x9
              (k1 false)
              (J1 (row0, i19, want16, x6.2.1, x6.2.2))))
          (pIf (!x7)
            (pCall (p_wire_Reader_At N x6.2.1 x6.2.2) fun x8 =>
            pLet (pick x7 true (!decide (0 = x8.1))) fun x9 =>
            pIf x9
              (k1 false)
              (J1 (row0, i19, want16, x8.2.1, x8.2.2)))
            (pLet (pick x7 true (!decide (0 = 0))) fun x8 =>
            pIf x8
              (k1 false)
              (J1 (row0, i19, want16, x6.2.1, x6.2.2)))))
        (pLet (pick (!x4.1) true (!false)) fun x6 =>
        pIf (!x6)
          (pCall (p_wire_Reader_At N x4.2.1 x4.2.2) fun x7 =>
          pIf (!x6)
            (pCall (p_wire_Reader_At N x2.2.2.1 x2.2.2.2) fun x8 =>
            pLet (pick x6 true (!decide (x7.1 = x8.1))) fun x9 =>
            pIf x9
              (k1 false)
              (J1 (row0, i19, want16, x8.2.1, x8.2.2)))
            (pLet (pick x6 true (!decide (x7.1 = 0))) fun x8 =>
            pIf x8
              (k1 false)
              (J1 (row0, i19, want16, x2.2.2.1, x2.2.2.2))))
          (pIf (!x6)
            (pCall (p_wire_Reader_At N x2.2.2.1 x2.2.2.2) fun x7 =>
            pLet (pick x6 true (!decide (0 = x7.1))) fun x8 =>
            pIf x8
              (k1 false)
              (J1 (row0, i19, want16, x7.2.1, x7.2.2)))
            (pLet (pick x6 true (!decide (0 = 0))) fun x7 =>
            pIf x7
              (k1 false)
              (J1 (row0, i19, want16, x2.2.2.1, x2.2.2.2))))))
      (k0 (want16, r18_0, r18_1))
def avermentlaw02_WireLays (N : Nat) (row0 : List ZP021) : Option (Bool) :=
  pCall (avermentlaw02_none N) fun x0 =>
  pCall (p_wire_Writer_Byte_v1 N x0.1 1) fun x1 =>
  pCall (p_wire_Writer_Uint_v1 N x0.1 1) fun x2 =>
  pCall (p_wire_Writer_Int_v1 N x0.1 1) fun x3 =>
  pCall (p_wire_Writer_Raw_v3 N x0.1 [1]) fun x4 =>
  pCall (p_wire_Writer_Section_v1 N x0.1 []) fun x5 =>
  pCall (p_wire_Reader_Byte_v1 N x0.2) fun x6 =>
  pCall (p_wire_Reader_Uint_v1 N x0.2 1) fun x7 =>
  pCall (p_wire_Reader_Int_v1 N x0.2) fun x8 =>
  pCall (p_wire_Reader_Raw_v1 N x0.2 0) fun x9 =>
  pCall (p_wire_Reader_Section_v1 N x0.2) fun x10 =>
  pCall (avermentlaw02_lays N) fun x11 =>
  pCallG (!(!x11)) () (p_wire_Writer_Bytes_v1 N x0.1) fun x12 =>
  pLet (pick (!x11) true (!decide ((len ([] : List Int)) = 0))) fun x13 =>
  pCallG (!x13) 0 (fault_Kind N x6.2) fun x14 =>
  pLet (pick x13 true (!decide (x14 = 1))) fun x15 =>
  pCallG (!x15) 0 (fault_Kind N x7.2) fun x16 =>
  pLet (pick x15 true (!decide (x16 = 1))) fun x17 =>
  pCallG (!x17) 0 (fault_Kind N x8.2) fun x18 =>
  pLet (pick x17 true (!decide (x18 = 1))) fun x19 =>
  pCallG (!x19) 0 (fault_Kind N x9.2) fun x20 =>
  pLet (pick x19 true (!decide (x20 = 1))) fun x21 =>
  pCallG (!x21) 0 (fault_Kind N x10.2) fun x22 =>
  pLet (pick x21 true (!decide (x22 = 1))) fun x23 =>
  pCallG (!x23) Err.nil (p_wire_Reader_End_v1 N x0.2) fun x24 =>
  pCallG (!x23) 0 (fault_Kind N x24) fun x25 =>
  pLet (pick x23 true (!decide (x25 = 1))) fun x26 =>
  pCallG (!x26) 0 (p_wire_Reader_Left_v1 N x0.2) fun x27 =>
  pLet (pick x26 true (!decide (x27 = 0))) fun x28 =>
  pCallG (!x28) 0 (p_wire_Reader_At_v1 N x0.2) fun x29 =>
  pLet (pick x28 true (!decide (x29 = 0))) fun x30 =>
  pCallG (!x30) none (p_wire_Reader_Copy_v1 N x0.2) fun x31 =>
  pLet (pick x30 true (!((x31).isNone))) fun x32 =>
  pIf x32
    (some false)
    (pCall (wire_New N) fun x33 =>
    avermentlaw02_WireLays_l18 N
      (fun x34 => pCall (p_wire_Writer_Bytes N x34.2.1) fun x35 =>
        pIf (!(decide ((toStr x35.1) = (toStr x34.2.2))))
          (some false)
          (pCall (wire_Read N x34.2.2) fun x36 =>
          avermentlaw02_WireLays_l25 N
            (fun x37 => pCall (p_wire_Reader_End N x37.2.1 x37.2.2) fun x38 =>
              pIf (errNil x38.1)
                (pCall (p_wire_Reader_Left N x38.2.1 x38.2.2) fun x39 =>
                pLet (pick (errNil x38.1) (decide (x39.1 = 0)) false) fun x40 =>
                pIf x40
                  (pCall (p_wire_Reader_At N x39.2.1 x39.2.2) fun x41 =>
                  pLet (pick x40 (decide (x41.1 = (len x37.1))) false) fun x42 =>
                  some x42)
                  (pLet (pick x40 (decide (0 = (len x37.1))) false) fun x41 =>
                  some x41))
                (pLet (pick (errNil x38.1) (decide (0 = 0)) false) fun x39 =>
                pIf x39
                  (pCall (p_wire_Reader_At N x38.2.1 x38.2.2) fun x40 =>
                  pLet (pick x39 (decide (x40.1 = (len x37.1))) false) fun x41 =>
                  some x41)
                  (pLet (pick x39 (decide (0 = (len x37.1))) false) fun x40 =>
                  some x40)))
            (fun x37 => some x37) N x34.1 0 x34.2.2 x36.1 x36.2)) N row0 0 x33 [])
def fault_Is (N : Nat) (x : Err) (y : Int) : Option Bool := zIs x y
def fault_Path (N : Nat) (x : Err) : Option (List Int) := zPath x
def avermentref01_Same_l5 (N : Nat) (k0 : Unit → Option (Bool)) (k1 : Bool → Option (Bool)) : Nat → (List Int) → (List Int) → Int → Option (Bool)
  | 0, _, _, _ => none
  | n + 1, a0, b1, i5 =>
    pIf (decide (i5 < (len a0)))
      (pIdx a0 i5 fun x0 =>
      pIdx b1 i5 fun x1 =>
      pIf (!decide (x0 = x1))
        (k1 false)
        (avermentref01_Same_l5 N k0 k1 n a0 b1 (wr .i64 (i5 + 1))))
      (k0 ())
def avermentref01_Same (N : Nat) (a0 : List Int) (b1 : List Int) : Option (Bool) :=
  pIf (!decide ((len a0) = (len b1)))
    (some false)
    (avermentref01_Same_l5 N
      (fun x0 => some true)
      (fun x0 => some x0) N a0 b1 0)
def avermentlaw02_WireShort (N : Nat) (n0 : Int) (b1 : List Int) (at2 : Int) : Option (Bool) :=
  pCall (wire_New N) fun x0 =>
  pCall (wire_New N) fun x1 =>
  pCall (p_wire_Writer_Uint N n0 x0) fun x2 =>
  pCk ((decide (0 ≤ (mnI (len b1) 300))) && (decide ((mnI (len b1) 300) ≤ (len b1)))) <|
  pCk ((decide (0 ≤ 0)) && (decide (0 ≤ (mnI (len b1) 300)))) <|
  pCall (p_wire_Writer_Section N (sub b1 0 (mnI (len b1) 300)) x1) fun x3 =>
  pCall (p_wire_Writer_Bytes N x2) fun x4 =>
  pCall (p_wire_Writer_Bytes N x3) fun x5 =>
  pCall (avermentlaw02_lays N) fun x6 =>
  pLet (pick (!x6) true (decide ((len x4.1) = 0))) fun x7 =>
  pLet (pick x7 true (decide ((len x5.1) = 0))) fun x8 =>
  pIf x8
    (some false)
    (pCk (!decide ((wr .u64 (len x4.1)) = 0)) <|
    pCk ((decide (0 ≤ (wr .i64 (remI (wr .u64 at2) (wr .u64 (len x4.1)))))) && (decide ((wr .i64 (remI (wr .u64 at2) (wr .u64 (len x4.1)))) ≤ (len x4.1)))) <|
    pCk ((decide (0 ≤ 0)) && (decide (0 ≤ (wr .i64 (remI (wr .u64 at2) (wr .u64 (len x4.1))))))) <|
    pCall (wire_Read N (sub x4.1 0 (wr .i64 (remI (wr .u64 at2) (wr .u64 (len x4.1)))))) fun x9 =>
    pCall (p_wire_Reader_Uint N n0 x9.1 x9.2) fun x10 =>
    pCk (!decide ((wr .u64 (len x5.1)) = 0)) <|
    pCk ((decide (0 ≤ (wr .i64 (remI (wr .u64 at2) (wr .u64 (len x5.1)))))) && (decide ((wr .i64 (remI (wr .u64 at2) (wr .u64 (len x5.1)))) ≤ (len x5.1)))) <|
    pCk ((decide (0 ≤ 0)) && (decide (0 ≤ (wr .i64 (remI (wr .u64 at2) (wr .u64 (len x5.1))))))) <|
    pCall (wire_Read N (sub x5.1 0 (wr .i64 (remI (wr .u64 at2) (wr .u64 (len x5.1)))))) fun x11 =>
    pCall (p_wire_Reader_Section N x11.1 x11.2) fun x12 =>
    pIf x12.1
      (pCall (fault_Is N x10.2.1 2) fun x13 =>
      pCallG x13 false (fault_Is N x12.2.1.1 2) fun x14 =>
      pLet (pick x13 x14 false) fun x15 =>
      pCallG x15 [] (fault_Path N x10.2.1) fun x16 =>
      pCallG x15 false (avermentref01_Same N x16 [0]) fun x17 =>
      pLet (pick x15 x17 false) fun x18 =>
      some x18)
      (pCall (fault_Is N x10.2.1 2) fun x13 =>
      pCallG x13 false (fault_Is N x12.2.2.2.1 2) fun x14 =>
      pLet (pick x13 x14 false) fun x15 =>
      pCallG x15 [] (fault_Path N x10.2.1) fun x16 =>
      pCallG x15 false (avermentref01_Same N x16 [0]) fun x17 =>
      pLet (pick x15 x17 false) fun x18 =>
      some x18))
end Go.Y
set_option maxRecDepth 100000
set_option linter.unusedVariables false
noncomputable section
namespace Go.Proofs.YteeaoljihmmhhaaDoor
open Go.Y Go Go.Shelf
@[reducible] def Y0 : Ty := .int .u8
@[reducible] def Y1 : Ty := .int .i64
@[reducible] def Y2 : Ty := .int .u64
@[reducible] def Y3 : Ty := .sl 5 Y0
@[reducible] def Y4 : Ty := .sl 3 Y1
@[reducible] def Y5 : Ty := .st Y3
@[reducible] def Y6 : Ty := .pair Y1 Y1
@[reducible] def Y7 : Ty := .ptr 92 Y5
@[reducible] def Y8 : Ty := .pair Y3 Y1
@[reducible] def Y9 : Ty := .pair Y2 Y3
@[reducible] def Y10 : Ty := .st Y8
@[reducible] def Y11 : Ty := .pair Y3 Y3
@[reducible] def Y12 : Ty := .pair .err Y8
@[reducible] def Y13 : Ty := .pair Y2 Y6
@[reducible] def Y14 : Ty := .ptr 86 Y10
@[reducible] def Y15 : Ty := .pair Y7 Y2
@[reducible] def Y16 : Ty := .pair Y1 Y9
@[reducible] def Y17 : Ty := .pair Y1 Y8
@[reducible] def Y18 : Ty := .st Y16
@[reducible] def Y19 : Ty := .pair Y3 Y8
@[reducible] def Y20 : Ty := .sl 78 Y18
@[reducible] def Y21 : Ty := .pair Y1 Y17
@[reducible] def Y22 : Ty := .pair .str Y19
@[reducible] def Y23 : Ty := .pair Y3 Y17
@[reducible] def Y24 : Ty := .pair Y2 Y21
@[reducible] def Y25 : Ty := .pair Y20 Y11
@[reducible] def R0 : Root Ty := rs [(oc 1 Y3)]
@[reducible] def R1 : Root Ty := rv 92 [(oc 1 Y3)]
@[reducible] def R2 : Root Ty := rv 86 [(oc 1 Y3), (oc 0 Y1)]
@[reducible] def R3 : Root Ty := rv 86 [(oc 0 Y3), (oc 0 Y1)]
theorem mix : Tryd.prog.follows .mixedOrders = true := by kernel_rfl
noncomputable def TT : List (Nat × TI) := [(2, ⟨Y1, 1, false, 8, 0, [], true, true⟩), (3, ⟨Y1, 1, false, 8, 0, [], true, true⟩), (4, ⟨.bool, 1, false, 1, 0, [], true, true⟩), (5, ⟨Y0, 1, false, 1, 0, [], true, true⟩), (9, ⟨.str, 1, false, 16, 0, [], true, true⟩), (22, ⟨Y3, 1, false, 24, 5, [], false, true⟩), (23, ⟨Y14, 1, false, 8, 86, [], false, true⟩), (25, ⟨Y2, 1, false, 8, 0, [], true, true⟩), (27, ⟨.err, 1, false, 16, 0, [], false, true⟩), (34, ⟨Y7, 1, false, 8, 92, [], false, true⟩), (67, ⟨Y1, 1, false, 8, 1, [], true, true⟩), (70, ⟨Y4, 1, false, 24, 3, [], false, true⟩), (73, ⟨Y20, 1, false, 24, 78, [], false, true⟩), (78, ⟨Y18, 3, true, 40, 0, [(0, 3), (1, 25), (2, 22)], false, true⟩), (86, ⟨Y10, 2, true, 32, 0, [(0, 22), (1, 3)], false, true⟩), (90, ⟨Y2, 1, false, 8, 0, [], true, true⟩), (92, ⟨Y5, 1, true, 24, 0, [(0, 22)], false, true⟩)]
theorem tt_ok : ∀ tb : Tabs, tb.tt = TT → TabOk Tryd.prog ids tb := TabOk.tt (by kernel_rfl)
noncomputable def q38 : FD Tryd.prog ids := ⟨38, Tryd.f38, [], [], TT, [], ⟨[], [], [], ⟨⟨[0], [0], [], []⟩, ⟨[(0, (ar 1000 0))], [], [(1000, R0)]⟩⟩, none⟩, (lfState [Y3]), [], j0, [Y3], Y3, fun N x => slices_Clone_byte_byte N x, []⟩
noncomputable def b38 : BF Tryd.prog ids := q38.bf mix Tryd.func38 tt_ok (fun N => by kernel_rfl) (fun N x => by kernel_rfl) fun N => .nil
noncomputable def q8 : FD Tryd.prog ids := ⟨8, Tryd.f8, [b38], [], TT, [], ⟨[], [], [], ⟨(jl [0]), ⟨[(0, (pt 1000))], [], [(1000, R2)]⟩⟩, none⟩, (lfState [Y3]), [], j0, [Y3], Y8, fun N x => wire_Read N x, []⟩
noncomputable def b8 : BF Tryd.prog ids := q8.bf mix Tryd.func8 tt_ok (fun N => by kernel_rfl) (fun N x => by kernel_rfl) fun N => .nil
noncomputable def q12 : FD Tryd.prog ids := ⟨12, Tryd.f12, [], [], TT, [], ⟨[], [], [], ⟨(jl [0, 1]), ⟨[(0, (.lf Y1)), (1, (pt 1001))], [], [(1001, R3)]⟩⟩, none⟩, ⟨[(0, (pt 1000))], [], [(1000, R3)]⟩, [0], ⟨[0], [], [], [(1000, 0, 0), (1000, 1, 0)]⟩, [Y3, Y1], Y17, fun N x => p_wire_Reader_At N x.1 x.2, []⟩
noncomputable def b12 : BF Tryd.prog ids := q12.bf mix Tryd.func12 tt_ok (fun N => by kernel_rfl) (fun N x => by kernel_rfl) fun N => .nil
noncomputable def q100012 : FD Tryd.prog ids := ⟨100012, Tryd.f12, [], [], TT, [], (hl [Y1]), (lfState [Y14]), [], j0, [Y14], Y1, fun N x => p_wire_Reader_At_v1 N x, []⟩
noncomputable def b100012 : BF Tryd.prog ids := q100012.bf mix Tryd.func12 tt_ok (fun N => by kernel_rfl) (fun N x => by kernel_rfl) fun N => .nil
noncomputable def q39 : FD Tryd.prog ids := ⟨39, Tryd.f39, [b12, b100012, b49], [], TT, [9], ⟨[], [], [], ⟨(jl [0, 1]), ⟨[(0, (.lf .err)), (1, (pt 1001))], [], [(1001, R3)]⟩⟩, none⟩, ⟨[(0, (pt 1000)), (1, (.lf Y1))], [], [(1000, R3)]⟩, [0], ⟨[0, 1], [], [], [(1000, 0, 0), (1000, 1, 0)]⟩, [Y1, Y3, Y1], Y12, fun N x => p_wire_Reader_wrong N x.1 x.2.1 x.2.2, []⟩
noncomputable def b39 : BF Tryd.prog ids := q39.bf mix Tryd.func39 tt_ok (fun N => by kernel_rfl) (fun N x => by kernel_rfl) fun N => .nil
noncomputable def q100039 : FD Tryd.prog ids := ⟨100039, Tryd.f39, [b12, b100012, b49], [], TT, [9], (hl [.err]), (lfState [Y14, Y1]), [], j0, [Y14, Y1], .err, fun N x => p_wire_Reader_wrong_v1 N x.1 x.2, []⟩
noncomputable def b100039 : BF Tryd.prog ids := q100039.bf mix Tryd.func39 tt_ok (fun N => by kernel_rfl) (fun N x => by kernel_rfl) fun N => .nil
noncomputable def q40 : FD Tryd.prog ids := ⟨40, Tryd.f40, [], [], TT, [], ⟨[], [], [(4, ⟨(jl [0, 10, 1, 7]), ⟨[(0, (pt 1000)), (1, (.lf Y2)), (7, (.lf Y2)), (10, (.lf Y1))], [], [(1000, R3)]⟩, [(0, ⟨(jl [0]), ⟨[(0, (pt 1000))], [], [(1000, R3)]⟩⟩)]⟩)], ⟨(jl [0, 1, 2, 3]), ⟨[(0, (.lf Y2)), (1, (.lf Y1)), (2, (.lf Y1)), (3, (pt 1003))], [], [(1003, R3)]⟩⟩, none⟩, ⟨[(0, (pt 1000)), (1, (.lf Y2))], [], [(1000, R3)]⟩, [0], ⟨[0, 1], [], [], [(1000, 0, 0), (1000, 1, 0)]⟩, [Y2, Y3, Y1], Y24, fun N x => p_wire_Reader_look N x.1 x.2.1 x.2.2, [⟨4, [Y2, Y2, Y1, Y3, Y1], [Y8, Y24], fun N n x ks => p_wire_Reader_look_l4 N (fun y => kget ks 0 ⟨Y8, y⟩) (fun y => kget ks 1 ⟨Y24, y⟩) n x.1 x.2.1 x.2.2.1 x.2.2.2.1 x.2.2.2.2⟩]⟩
noncomputable def b40 : BF Tryd.prog ids := q40.bf mix Tryd.func40 tt_ok (fun N => by kernel_rfl) (fun N x => by kernel_rfl) fun N => .cons ⟨by kernel_rfl, fun _ _ => by kernel_rfl, fun _ _ _ => by kernel_rfl⟩ .nil
noncomputable def q100040 : FD Tryd.prog ids := ⟨100040, Tryd.f40, [], [], TT, [], ⟨[], [], [(4, ⟨(jl [10, 1, 7, 0]), ⟨[(0, (.lf Y14)), (1, (.lf Y2)), (7, (.lf Y2)), (10, (.lf Y1))], [], []⟩, [(0, (lfS []))]⟩)], (lfS [Y2, Y1, Y1]), none⟩, (lfState [Y14, Y2]), [], j0, [Y14, Y2], Y13, fun N x => p_wire_Reader_look_v1 N x.1 x.2, [⟨4, [Y14, Y2, Y2, Y1], [.unit, Y13], fun N n x ks => p_wire_Reader_look_v1_l4 N (fun y => kget ks 0 ⟨.unit, y⟩) (fun y => kget ks 1 ⟨Y13, y⟩) n x.1 x.2.1 x.2.2.1 x.2.2.2⟩]⟩
noncomputable def b100040 : BF Tryd.prog ids := q100040.bf mix Tryd.func40 tt_ok (fun N => by kernel_rfl) (fun N x => by kernel_rfl) fun N => .cons ⟨by kernel_rfl, fun _ _ => by kernel_rfl, fun _ _ _ => by kernel_rfl⟩ .nil
noncomputable def q9 : FD Tryd.prog ids := ⟨9, Tryd.f9, [b39, b100039, b40, b100040], [], TT, [], ⟨[], [], [], ⟨(jl [0, 1, 2]), ⟨[(0, (.lf Y2)), (1, (.lf .err)), (2, (pt 1002))], [], [(1002, R3)]⟩⟩, none⟩, ⟨[(0, (pt 1000)), (1, (.lf Y2))], [], [(1000, R3)]⟩, [0], ⟨[0, 1], [], [], [(1000, 0, 0), (1000, 1, 0)]⟩, [Y2, Y3, Y1], (.pair Y2 Y12), fun N x => p_wire_Reader_Uint N x.1 x.2.1 x.2.2, []⟩
noncomputable def b9 : BF Tryd.prog ids := q9.bf mix Tryd.func9 tt_ok (fun N => by kernel_rfl) (fun N x => by kernel_rfl) fun N => .nil
noncomputable def q100009 : FD Tryd.prog ids := ⟨100009, Tryd.f9, [b39, b100039, b40, b100040], [], TT, [], (hl [Y2, .err]), (lfState [Y14, Y2]), [], j0, [Y14, Y2], (.pair Y2 .err), fun N x => p_wire_Reader_Uint_v1 N x.1 x.2, []⟩
noncomputable def b100009 : BF Tryd.prog ids := q100009.bf mix Tryd.func9 tt_ok (fun N => by kernel_rfl) (fun N x => by kernel_rfl) fun N => .nil
noncomputable def q10 : FD Tryd.prog ids := ⟨10, Tryd.f10, [b9, b100009], [], TT, [], ⟨[], [], [], ⟨(jl [0, 1, 2]), ⟨[(0, (.lf Y1)), (1, (.lf .err)), (2, (pt 1002))], [], [(1002, R3)]⟩⟩, none⟩, ⟨[(0, (pt 1000))], [], [(1000, R3)]⟩, [0], ⟨[0], [], [], [(1000, 0, 0), (1000, 1, 0)]⟩, [Y3, Y1], (.pair Y1 Y12), fun N x => p_wire_Reader_Int N x.1 x.2, []⟩
noncomputable def b10 : BF Tryd.prog ids := q10.bf mix Tryd.func10 tt_ok (fun N => by kernel_rfl) (fun N x => by kernel_rfl) fun N => .nil
noncomputable def q100010 : FD Tryd.prog ids := ⟨100010, Tryd.f10, [b9, b100009], [], TT, [], (hl [Y1, .err]), (lfState [Y14]), [], j0, [Y14], (.pair Y1 .err), fun N x => p_wire_Reader_Int_v1 N x, []⟩
noncomputable def b100010 : BF Tryd.prog ids := q100010.bf mix Tryd.func10 tt_ok (fun N => by kernel_rfl) (fun N x => by kernel_rfl) fun N => .nil
noncomputable def q13 : FD Tryd.prog ids := ⟨13, Tryd.f13, [], [], TT, [], ⟨[], [], [], ⟨(jl [0]), ⟨[(0, (pt 1000))], [], [(1000, R1)]⟩⟩, none⟩, (lfState []), [], j0, [], Y3, fun N x => wire_New N, []⟩
noncomputable def b13 : BF Tryd.prog ids := q13.bf mix Tryd.func13 tt_ok (fun N => by kernel_rfl) (fun N x => by kernel_rfl) fun N => .nil
noncomputable def q19 : FD Tryd.prog ids := ⟨19, Tryd.f19, [], [], TT, [12], ⟨[], [], [], ⟨(jl [0]), ⟨[(0, (pt 1000))], [], [(1000, R1)]⟩⟩, none⟩, ⟨[(0, (pt 1000)), (1, (.lf Y0))], [], [(1000, R1)]⟩, [0], ⟨[0, 1], [], [], [(1000, 0, 1)]⟩, [Y0, Y3], Y3, fun N x => p_wire_Writer_Byte N x.1 x.2, []⟩
noncomputable def b19 : BF Tryd.prog ids := q19.bf mix Tryd.func19 tt_ok (fun N => by kernel_rfl) (fun N x => by kernel_rfl) fun N => .nil
noncomputable def q100019 : FD Tryd.prog ids := ⟨100019, Tryd.f19, [], [], TT, [12], (hl []), (lfState [Y7, Y0]), [], j0, [Y7, Y0], .unit, fun N x => p_wire_Writer_Byte_v1 N x.1 x.2, []⟩
noncomputable def b100019 : BF Tryd.prog ids := q100019.bf mix Tryd.func19 tt_ok (fun N => by kernel_rfl) (fun N x => by kernel_rfl) fun N => .nil
noncomputable def q14 : FD Tryd.prog ids := ⟨14, Tryd.f14, [b19, b100019], [], TT, [], ⟨[], [], [(1, ⟨(jl [1, 0]), ⟨[(0, (pt 1000)), (1, (.lf Y2))], [], [(1000, R1)]⟩, [(0, ⟨(jl [0, 1]), ⟨[(0, (pt 1000)), (1, (.lf Y2))], [], [(1000, R1)]⟩⟩)]⟩)], ⟨(jl [0]), ⟨[(0, (pt 1000))], [], [(1000, R1)]⟩⟩, none⟩, ⟨[(0, (pt 1000)), (1, (.lf Y2))], [], [(1000, R1)]⟩, [0], ⟨[0, 1], [], [], [(1000, 0, 1)]⟩, [Y2, Y3], Y3, fun N x => p_wire_Writer_Uint N x.1 x.2, [⟨1, [Y2, Y3], [Y9], fun N n x ks => p_wire_Writer_Uint_l1 N (fun y => kget ks 0 ⟨Y9, y⟩) n x.1 x.2⟩]⟩
noncomputable def b14 : BF Tryd.prog ids := q14.bf mix Tryd.func14 tt_ok (fun N => by kernel_rfl) (fun N x => by kernel_rfl) fun N => .cons ⟨by kernel_rfl, fun _ _ => by kernel_rfl, fun _ _ _ => by kernel_rfl⟩ .nil
noncomputable def q100014 : FD Tryd.prog ids := ⟨100014, Tryd.f14, [b19, b100019], [], TT, [], ⟨[], [], [(1, ⟨(jl [1, 0]), ⟨[(0, (.lf Y7)), (1, (.lf Y2))], [], []⟩, [(0, ⟨(jl [1, 0]), ⟨[(0, (.lf Y7)), (1, (.lf Y2))], [], []⟩⟩)]⟩)], (lfS []), none⟩, (lfState [Y7, Y2]), [], j0, [Y7, Y2], .unit, fun N x => p_wire_Writer_Uint_v1 N x.1 x.2, [⟨1, [Y7, Y2], [Y15], fun N n x ks => p_wire_Writer_Uint_v1_l1 N (fun y => kget ks 0 ⟨Y15, y⟩) n x.1 x.2⟩]⟩
noncomputable def b100014 : BF Tryd.prog ids := q100014.bf mix Tryd.func14 tt_ok (fun N => by kernel_rfl) (fun N x => by kernel_rfl) fun N => .cons ⟨by kernel_rfl, fun _ _ => by kernel_rfl, fun _ _ _ => by kernel_rfl⟩ .nil
noncomputable def q15 : FD Tryd.prog ids := ⟨15, Tryd.f15, [b14, b100014], [], TT, [], ⟨[], [], [], ⟨(jl [0]), ⟨[(0, (pt 1000))], [], [(1000, R1)]⟩⟩, none⟩, ⟨[(0, (pt 1000)), (1, (.lf Y1))], [], [(1000, R1)]⟩, [0], ⟨[0, 1], [], [], [(1000, 0, 1)]⟩, [Y1, Y3], Y3, fun N x => p_wire_Writer_Int N x.1 x.2, []⟩
noncomputable def b15 : BF Tryd.prog ids := q15.bf mix Tryd.func15 tt_ok (fun N => by kernel_rfl) (fun N x => by kernel_rfl) fun N => .nil
noncomputable def q100015 : FD Tryd.prog ids := ⟨100015, Tryd.f15, [b14, b100014], [], TT, [], (hl []), (lfState [Y7, Y1]), [], j0, [Y7, Y1], .unit, fun N x => p_wire_Writer_Int_v1 N x.1 x.2, []⟩
noncomputable def b100015 : BF Tryd.prog ids := q100015.bf mix Tryd.func15 tt_ok (fun N => by kernel_rfl) (fun N x => by kernel_rfl) fun N => .nil
noncomputable def q16 : FD Tryd.prog ids := ⟨16, Tryd.f16, [b38], [], TT, [], ⟨[], [], [], ⟨(jl [0, 1]), ⟨[(0, (ar 1000 0)), (1, (pt 1001))], [], [(1000, R0), (1001, R1)]⟩⟩, none⟩, ⟨[(0, (pt 1000))], [], [(1000, R1)]⟩, [0], ⟨[0], [], [], [(1000, 0, 1)]⟩, [Y3], Y11, fun N x => p_wire_Writer_Bytes N x, []⟩
noncomputable def b16 : BF Tryd.prog ids := q16.bf mix Tryd.func16 tt_ok (fun N => by kernel_rfl) (fun N x => by kernel_rfl) fun N => .nil
noncomputable def q100016 : FD Tryd.prog ids := ⟨100016, Tryd.f16, [b38], [], TT, [], ⟨[], [], [], ⟨(jl [0]), ⟨[(0, (.zs 5 Y0))], [], []⟩⟩, none⟩, (lfState [Y7]), [], j0, [Y7], .unit, fun N x => p_wire_Writer_Bytes_v1 N x, []⟩
noncomputable def b100016 : BF Tryd.prog ids := q100016.bf mix Tryd.func16 tt_ok (fun N => by kernel_rfl) (fun N x => by kernel_rfl) fun N => .nil
noncomputable def q31 : FD Tryd.prog ids := ⟨31, Tryd.f31, [], [], TT, [], ⟨[], [], [], ⟨(jl [0, 1]), ⟨[(0, (.lf Y1)), (1, (pt 1001))], [], [(1001, R3)]⟩⟩, none⟩, ⟨[(0, (pt 1000))], [], [(1000, R3)]⟩, [0], ⟨[0], [], [], [(1000, 0, 0), (1000, 1, 0)]⟩, [Y3, Y1], Y17, fun N x => p_wire_Reader_Left N x.1 x.2, []⟩
noncomputable def b31 : BF Tryd.prog ids := q31.bf mix Tryd.func31 tt_ok (fun N => by kernel_rfl) (fun N x => by kernel_rfl) fun N => .nil
noncomputable def q100031 : FD Tryd.prog ids := ⟨100031, Tryd.f31, [], [], TT, [], (hl [Y1]), (lfState [Y14]), [], j0, [Y14], Y1, fun N x => p_wire_Reader_Left_v1 N x, []⟩
noncomputable def b100031 : BF Tryd.prog ids := q100031.bf mix Tryd.func31 tt_ok (fun N => by kernel_rfl) (fun N x => by kernel_rfl) fun N => .nil
noncomputable def q27 : FD Tryd.prog ids := ⟨27, Tryd.f27, [b39, b100039, b31, b100031], [], TT, [], ⟨[], [], [], ⟨(jl [0, 1]), ⟨[(0, (.lf .err)), (1, (pt 1001))], [], [(1001, R3)]⟩⟩, none⟩, ⟨[(0, (pt 1000))], [], [(1000, R3)]⟩, [0], ⟨[0], [], [], [(1000, 0, 0), (1000, 1, 0)]⟩, [Y3, Y1], Y12, fun N x => p_wire_Reader_End N x.1 x.2, []⟩
noncomputable def b27 : BF Tryd.prog ids := q27.bf mix Tryd.func27 tt_ok (fun N => by kernel_rfl) (fun N x => by kernel_rfl) fun N => .nil
noncomputable def q100027 : FD Tryd.prog ids := ⟨100027, Tryd.f27, [b39, b100039, b31, b100031], [], TT, [], (hl [.err]), (lfState [Y14]), [], j0, [Y14], .err, fun N x => p_wire_Reader_End_v1 N x, []⟩
noncomputable def b100027 : BF Tryd.prog ids := q100027.bf mix Tryd.func27 tt_ok (fun N => by kernel_rfl) (fun N x => by kernel_rfl) fun N => .nil
noncomputable def q11 : FD Tryd.prog ids := ⟨11, Tryd.f11, [b8, b9, b100009, b10, b100010, b13, b14, b100014, b15, b100015, b16, b100016, b27, b100027, b28], [], TT, [28], (hl [.bool]), (lfState []), [], j0, [], .bool, fun N x => avermentlaw02_lays N, []⟩
noncomputable def b11 : BF Tryd.prog ids := q11.bf mix Tryd.func11 tt_ok (fun N => by kernel_rfl) (fun N x => by kernel_rfl) fun N => .nil
noncomputable def q3 : FD Tryd.prog ids := ⟨3, Tryd.f3, [b8, b12, b100012, b9, b100009, b10, b100010, b13, b14, b100014, b15, b100015, b16, b100016, b11], [], TT, [], (hl [.bool]), (lfState [Y3]), [], j0, [Y3], .bool, fun N x => avermentlaw02_WireOnce N x, []⟩
noncomputable def b3 : BF Tryd.prog ids := q3.bf mix Tryd.func3 tt_ok (fun N => by kernel_rfl) (fun N x => by kernel_rfl) fun N => .nil
noncomputable def q17 : FD Tryd.prog ids := ⟨17, Tryd.f17, [], [], TT, [], ⟨[], [], [], ⟨(jl [0, 1]), ⟨[(0, (pt 1000)), (1, (ar 1001 0))], [], [(1000, R1), (1001, R0)]⟩⟩, none⟩, ⟨[(0, (pt 1000)), (1, (ar 1001 0))], [], [(1000, R1), (1001, R0)]⟩, [0, 1], ⟨[0, 1], [1], [], [(1000, 0, 1), (1001, 0, 1)]⟩, [Y3, Y3], Y11, fun N x => p_wire_Writer_Raw N x.1 x.2, []⟩
noncomputable def b17 : BF Tryd.prog ids := q17.bf mix Tryd.func17 tt_ok (fun N => by kernel_rfl) (fun N x => by kernel_rfl) fun N => .nil
noncomputable def q100017 : FD Tryd.prog ids := ⟨100017, Tryd.f17, [], [], TT, [], ⟨[], [], [], ⟨(jl [0]), ⟨[(0, (pt 1000))], [], [(1000, R1)]⟩⟩, none⟩, ⟨[(0, (pt 1000)), (1, (.lf Y3))], [], [(1000, R1)]⟩, [0], ⟨[0, 1], [], [], [(1000, 0, 1)]⟩, [Y3, Y3], Y3, fun N x => p_wire_Writer_Raw_v1 N x.1 x.2, []⟩
noncomputable def b100017 : BF Tryd.prog ids := q100017.bf mix Tryd.func17 tt_ok (fun N => by kernel_rfl) (fun N x => by kernel_rfl) fun N => .nil
noncomputable def q200017 : FD Tryd.prog ids := ⟨200017, Tryd.f17, [], [], TT, [], ⟨[], [], [], ⟨(jl [0]), ⟨[(0, (ar 1000 0))], [], [(1000, R0)]⟩⟩, none⟩, ⟨[(0, (.lf Y7)), (1, (ar 1001 0))], [], [(1001, R0)]⟩, [1], ⟨[0, 1], [1], [], [(1001, 0, 1)]⟩, [Y7, Y3], Y3, fun N x => p_wire_Writer_Raw_v2 N x.1 x.2, []⟩
noncomputable def b200017 : BF Tryd.prog ids := q200017.bf mix Tryd.func17 tt_ok (fun N => by kernel_rfl) (fun N x => by kernel_rfl) fun N => .nil
noncomputable def q300017 : FD Tryd.prog ids := ⟨300017, Tryd.f17, [], [], TT, [], (hl []), (lfState [Y7, Y3]), [], j0, [Y7, Y3], .unit, fun N x => p_wire_Writer_Raw_v3 N x.1 x.2, []⟩
noncomputable def b300017 : BF Tryd.prog ids := q300017.bf mix Tryd.func17 tt_ok (fun N => by kernel_rfl) (fun N x => by kernel_rfl) fun N => .nil
noncomputable def q18 : FD Tryd.prog ids := ⟨18, Tryd.f18, [b38, b39, b100039, b31, b100031], [], TT, [], ⟨[], [], [], ⟨(jl [0, 1, 2]), ⟨[(0, (.lf Y3)), (1, (.lf .err)), (2, (pt 1002))], [], [(1002, R3)]⟩⟩, none⟩, ⟨[(0, (pt 1000)), (1, (.lf Y1))], [], [(1000, R3)]⟩, [0], ⟨[0, 1], [], [], [(1000, 0, 0), (1000, 1, 0)]⟩, [Y1, Y3, Y1], (.pair Y3 Y12), fun N x => p_wire_Reader_Raw N x.1 x.2.1 x.2.2, []⟩
noncomputable def b18 : BF Tryd.prog ids := q18.bf mix Tryd.func18 tt_ok (fun N => by kernel_rfl) (fun N x => by kernel_rfl) fun N => .nil
noncomputable def q100018 : FD Tryd.prog ids := ⟨100018, Tryd.f18, [b38, b39, b100039, b31, b100031], [], TT, [], (hl [Y3, .err]), (lfState [Y14, Y1]), [], j0, [Y14, Y1], (.pair Y3 .err), fun N x => p_wire_Reader_Raw_v1 N x.1 x.2, []⟩
noncomputable def b100018 : BF Tryd.prog ids := q100018.bf mix Tryd.func18 tt_ok (fun N => by kernel_rfl) (fun N x => by kernel_rfl) fun N => .nil
noncomputable def q4 : FD Tryd.prog ids := ⟨4, Tryd.f4, [b8, b13, b19, b100019, b16, b100016, b11, b17, b100017, b200017, b300017, b18, b100018], [], TT, [], ⟨[], [], [(16, ⟨(jl [10, 7, 3, 4]), ⟨[(3, (.lf .str)), (4, (pt 1004)), (7, (ar 1007 0)), (10, (.lf Y1))], [], [(1004, R1), (1007, R0)]⟩, [(2, ⟨(jl [3, 4]), ⟨[(3, (.lf .str)), (4, (pt 1004))], [], [(1004, R1)]⟩⟩)]⟩), (8, ⟨(jl [6, 0, 3, 4, 5]), ⟨[(0, (ar 1000 0)), (3, (.lf .str)), (4, (pt 1004)), (5, (pt 1005)), (6, (.lf Y1))], [], [(1000, R0), (1004, R1), (1005, R2)]⟩, [(0, ⟨(jl [3, 4, 5]), ⟨[(3, (.lf .str)), (4, (pt 1004)), (5, (pt 1005))], [], [(1004, R1), (1005, R2)]⟩⟩)]⟩)], (lfS [.bool]), none⟩, (lfState [Y3]), [], j0, [Y3], .bool, fun N x => avermentlaw02_WireApart N x, [⟨8, [.str, Y1, Y3, Y3, Y3, Y1], [Y22], fun N n x ks => avermentlaw02_WireApart_l8 N (fun y => kget ks 0 ⟨Y22, y⟩) n x.1 x.2.1 x.2.2.1 x.2.2.2.1 x.2.2.2.2.1 x.2.2.2.2.2⟩, ⟨16, [.str, Y1, Y3, Y3], [(.pair .str Y3)], fun N n x ks => avermentlaw02_WireApart_l16 N (fun y => kget ks 0 ⟨(.pair .str Y3), y⟩) n x.1 x.2.1 x.2.2.1 x.2.2.2⟩]⟩
noncomputable def b4 : BF Tryd.prog ids := q4.bf mix Tryd.func4 tt_ok (fun N => by kernel_rfl) (fun N x => by kernel_rfl) fun N => .cons ⟨by kernel_rfl, fun _ _ => by kernel_rfl, fun _ _ _ => by kernel_rfl⟩ (.cons ⟨by kernel_rfl, fun _ _ => by kernel_rfl, fun _ _ _ => by kernel_rfl⟩ .nil)
noncomputable def q32 : FD Tryd.prog ids := ⟨32, Tryd.f32, [], [], TT, [], (hl [Y7, Y14]), (lfState []), [], j0, [], (.pair Y7 Y14), fun N x => avermentlaw02_none N, []⟩
noncomputable def b32 : BF Tryd.prog ids := q32.bf mix Tryd.func32 tt_ok (fun N => by kernel_rfl) (fun N x => by kernel_rfl) fun N => .nil
noncomputable def q33 : FD Tryd.prog ids := ⟨33, Tryd.f33, [b14, b100014, b17, b100017, b200017, b300017], [], TT, [], ⟨[], [], [], ⟨(jl [0]), ⟨[(0, (pt 1000))], [], [(1000, R1)]⟩⟩, none⟩, ⟨[(0, (pt 1000)), (1, (.lf Y3))], [], [(1000, R1)]⟩, [0], ⟨[0, 1], [], [], [(1000, 0, 1)]⟩, [Y3, Y3], Y3, fun N x => p_wire_Writer_Section N x.1 x.2, []⟩
noncomputable def b33 : BF Tryd.prog ids := q33.bf mix Tryd.func33 tt_ok (fun N => by kernel_rfl) (fun N x => by kernel_rfl) fun N => .nil
noncomputable def q100033 : FD Tryd.prog ids := ⟨100033, Tryd.f33, [b14, b100014, b17, b100017, b200017, b300017], [], TT, [], (hl []), (lfState [Y7, Y3]), [], j0, [Y7, Y3], .unit, fun N x => p_wire_Writer_Section_v1 N x.1 x.2, []⟩
noncomputable def b100033 : BF Tryd.prog ids := q100033.bf mix Tryd.func33 tt_ok (fun N => by kernel_rfl) (fun N x => by kernel_rfl) fun N => .nil
noncomputable def q20 : FD Tryd.prog ids := ⟨20, Tryd.f20, [b39, b100039], [], TT, [], ⟨[], [], [], ⟨(jl [0, 1, 2]), ⟨[(0, (.lf Y0)), (1, (.lf .err)), (2, (pt 1002))], [], [(1002, R3)]⟩⟩, none⟩, ⟨[(0, (pt 1000))], [], [(1000, R3)]⟩, [0], ⟨[0], [], [], [(1000, 0, 0), (1000, 1, 0)]⟩, [Y3, Y1], (.pair Y0 Y12), fun N x => p_wire_Reader_Byte N x.1 x.2, []⟩
noncomputable def b20 : BF Tryd.prog ids := q20.bf mix Tryd.func20 tt_ok (fun N => by kernel_rfl) (fun N x => by kernel_rfl) fun N => .nil
noncomputable def q100020 : FD Tryd.prog ids := ⟨100020, Tryd.f20, [b39, b100039], [], TT, [], (hl [Y0, .err]), (lfState [Y14]), [], j0, [Y14], (.pair Y0 .err), fun N x => p_wire_Reader_Byte_v1 N x, []⟩
noncomputable def b100020 : BF Tryd.prog ids := q100020.bf mix Tryd.func20 tt_ok (fun N => by kernel_rfl) (fun N x => by kernel_rfl) fun N => .nil
noncomputable def q25 : FD Tryd.prog ids := ⟨25, Tryd.f25, [b39, b100039, b40, b100040, b31, b100031], [], TT, [], ⟨[], [], [], ⟨(jl [0, 1, 2]), ⟨[(0, (pt 1000)), (1, (.lf .err)), (2, (pt 1002))], [], [(1000, R3), (1002, R3)]⟩⟩, (some ⟨(jl [0, 1, 2]), ⟨[(0, (.lf Y14)), (1, (.lf .err)), (2, (pt 1002))], [], [(1002, R3)]⟩⟩)⟩, ⟨[(0, (pt 1000))], [], [(1000, R3)]⟩, [0], ⟨[0], [], [], [(1000, 0, 0), (1000, 1, 0)]⟩, [Y3, Y1], (.pair .bool (.pair (.pair .err Y23) (.pair Y14 Y12))), fun N x => p_wire_Reader_Section N x.1 x.2, []⟩
noncomputable def b25 : BF Tryd.prog ids := q25.bf mix Tryd.func25 tt_ok (fun N => by kernel_rfl) (fun N x => by kernel_rfl) fun N => .nil
noncomputable def q100025 : FD Tryd.prog ids := ⟨100025, Tryd.f25, [b39, b100039, b40, b100040, b31, b100031], [], TT, [], (hl [Y14, .err]), (lfState [Y14]), [], j0, [Y14], (.pair Y14 .err), fun N x => p_wire_Reader_Section_v1 N x, []⟩
noncomputable def b100025 : BF Tryd.prog ids := q100025.bf mix Tryd.func25 tt_ok (fun N => by kernel_rfl) (fun N x => by kernel_rfl) fun N => .nil
noncomputable def q34 : FD Tryd.prog ids := ⟨34, Tryd.f34, [], [], TT, [], ⟨[], [], [], ⟨(jl [0, 1]), ⟨[(0, (pt 1000)), (1, (pt 1001))], [], [(1000, R3), (1001, R3)]⟩⟩, none⟩, ⟨[(0, (pt 1000))], [], [(1000, R3)]⟩, [0], ⟨[0], [], [], [(1000, 0, 0), (1000, 1, 0)]⟩, [Y3, Y1], Y23, fun N x => p_wire_Reader_Copy N x.1 x.2, []⟩
noncomputable def b34 : BF Tryd.prog ids := q34.bf mix Tryd.func34 tt_ok (fun N => by kernel_rfl) (fun N x => by kernel_rfl) fun N => .nil
noncomputable def q100034 : FD Tryd.prog ids := ⟨100034, Tryd.f34, [], [], TT, [], (hl [Y14]), (lfState [Y14]), [], j0, [Y14], Y14, fun N x => p_wire_Reader_Copy_v1 N x, []⟩
noncomputable def b100034 : BF Tryd.prog ids := q100034.bf mix Tryd.func34 tt_ok (fun N => by kernel_rfl) (fun N x => by kernel_rfl) fun N => .nil
noncomputable def q44 (self : Nat → Int → Option (List Int)) (c : BF Tryd.prog ids) : FD Tryd.prog ids := ⟨44, Tryd.f44, [c], [], TT, [], ⟨[], [], [], ⟨(jl [0]), ⟨[(0, (ar 1000 0))], [], [(1000, R0)]⟩⟩, none⟩, (lfState [Y2]), [], j0, [Y2], Y3, fun N x => avermentref02_Uint_f self N x, []⟩
noncomputable def b44 : BF Tryd.prog ids := recBF 44 ⟨(lfState [Y2]), ⟨[(0, (ar 1000 0))], [], [(1000, R0)]⟩, false, [], j0, none⟩ (tupTy [Y2]) Y3 avermentref02_Uint_f ⟨_, Tryd.func44, by kernel_rfl, by kernel_rfl⟩ (by kernel_rfl) fun self ok => ((q44 self ⟨44, ⟨(lfState [Y2]), ⟨[(0, (ar 1000 0))], [], [(1000, R0)]⟩, false, [], j0, none⟩, tupTy [Y2], Y3, self, ok⟩).bf mix Tryd.func44 tt_ok (fun N => by kernel_rfl) (fun N x => by kernel_rfl) fun N => .nil).ok
noncomputable def q45 : FD Tryd.prog ids := ⟨45, Tryd.f45, [], [], TT, [], (hl [Y2]), (lfState [Y1]), [], j0, [Y1], Y2, fun N x => avermentref02_Zig N x, []⟩
noncomputable def b45 : BF Tryd.prog ids := q45.bf mix Tryd.func45 tt_ok (fun N => by kernel_rfl) (fun N x => by kernel_rfl) fun N => .nil
noncomputable def q46 : FD Tryd.prog ids := ⟨46, Tryd.f46, [], [], TT, [], (hl [Y3]), (lfState [Y18]), [], j0, [Y18], Y3, fun N x => avermentlaw02_Thing_few N x, []⟩
noncomputable def b46 : BF Tryd.prog ids := q46.bf mix Tryd.func46 tt_ok (fun N => by kernel_rfl) (fun N x => by kernel_rfl) fun N => .nil
noncomputable def q47 : FD Tryd.prog ids := ⟨47, Tryd.f47, [b44], [], TT, [], ⟨[], [], [], ⟨(jl [0]), ⟨[(0, (ar 1000 0))], [], [(1000, R0)]⟩⟩, none⟩, (lfState [Y3]), [], j0, [Y3], Y3, fun N x => avermentref02_Section N x, []⟩
noncomputable def b47 : BF Tryd.prog ids := q47.bf mix Tryd.func47 tt_ok (fun N => by kernel_rfl) (fun N x => by kernel_rfl) fun N => .nil
noncomputable def q35 : FD Tryd.prog ids := ⟨35, Tryd.f35, [b19, b100019, b14, b100014, b15, b100015, b17, b100017, b200017, b300017, b33, b100033, b44, b45, b46, b47], [], TT, [], ⟨[], [], [], ⟨(jl [0, 1]), ⟨[(0, (.lf Y3)), (1, (pt 1001))], [], [(1001, R1)]⟩⟩, none⟩, ⟨[(0, (.lf Y18)), (1, (pt 1001))], [], [(1001, R1)]⟩, [1], ⟨[0, 1], [], [], [(1001, 0, 1)]⟩, [Y18, Y3], Y11, fun N x => avermentlaw02_Thing_lay N x.1 x.2, []⟩
noncomputable def b35 : BF Tryd.prog ids := q35.bf mix Tryd.func35 tt_ok (fun N => by kernel_rfl) (fun N x => by kernel_rfl) fun N => .nil
noncomputable def q36 : FD Tryd.prog ids := ⟨36, Tryd.f36, [b9, b100009, b10, b100010, b31, b100031, b27, b100027, b18, b100018, b20, b100020, b25, b100025, b46], [], TT, [], ⟨[], [], [], ⟨(jl [0, 1]), ⟨[(0, (.lf .bool)), (1, (pt 1001))], [], [(1001, R3)]⟩⟩, none⟩, ⟨[(0, (.lf Y18)), (1, (pt 1001))], [], [(1001, R3)]⟩, [1], ⟨[0, 1], [], [], [(1001, 0, 0), (1001, 1, 0)]⟩, [Y18, Y3, Y1], (.pair .bool Y8), fun N x => avermentlaw02_Thing_take N x.1 x.2.1 x.2.2, []⟩
noncomputable def b36 : BF Tryd.prog ids := q36.bf mix Tryd.func36 tt_ok (fun N => by kernel_rfl) (fun N x => by kernel_rfl) fun N => .nil
noncomputable def q6 : FD Tryd.prog ids := ⟨6, Tryd.f6, [b8, b12, b100012, b9, b100009, b10, b100010, b13, b19, b100019, b14, b100014, b15, b100015, b16, b100016, b31, b100031, b27, b100027, b28, b11, b17, b100017, b200017, b300017, b18, b100018, b32, b33, b100033, b20, b100020, b25, b100025, b34, b100034, b35, b36], [], TT, [32], ⟨[], [(3, ⟨(jl [18, 0, 16, 19]), ⟨[(0, (.lf Y20)), (16, (ar 1016 0)), (18, (pt 1018)), (19, (.lf Y1))], [], [(1016, R0), (1018, R3)]⟩⟩)], [(25, ⟨⟨[19, 18, 0, 16], [], [], [(1018, 0, 0)]⟩, ⟨[(0, (.lf Y20)), (16, (ar 1016 0)), (18, (pt 1018)), (19, (.lf Y1))], [], [(1016, R0), (1018, R3)]⟩, [(2, ⟨(jl [16, 18]), ⟨[(16, (ar 1016 0)), (18, (pt 1018))], [], [(1016, R0), (1018, R3)]⟩⟩)]⟩), (18, ⟨⟨[17, 15, 0, 16], [16], [], []⟩, ⟨[(0, (.lf Y20)), (15, (pt 1015)), (16, (ar 1016 0)), (17, (.lf Y1))], [], [(1015, R1), (1016, R0)]⟩, [(0, ⟨(jl [0, 16, 15]), ⟨[(0, (.lf Y20)), (15, (pt 1015)), (16, (ar 1016 0))], [], [(1015, R1), (1016, R0)]⟩⟩)]⟩)], (lfS [.bool]), none⟩, (lfState [Y20]), [], j0, [Y20], .bool, fun N x => avermentlaw02_WireLays N x, [⟨18, [Y20, Y1, Y3, Y3], [Y25], fun N n x ks => avermentlaw02_WireLays_l18 N (fun y => kget ks 0 ⟨Y25, y⟩) n x.1 x.2.1 x.2.2.1 x.2.2.2⟩, ⟨25, [Y20, Y1, Y3, Y3, Y1], [Y19, .bool], fun N n x ks => avermentlaw02_WireLays_l25 N (fun y => kget ks 0 ⟨Y19, y⟩) (fun y => kget ks 1 ⟨.bool, y⟩) n x.1 x.2.1 x.2.2.1 x.2.2.2.1 x.2.2.2.2⟩]⟩
noncomputable def b6 : BF Tryd.prog ids := q6.bf mix Tryd.func6 tt_ok (fun N => by kernel_rfl) (fun N x => by kernel_rfl) fun N => .cons ⟨by kernel_rfl, fun _ _ => by kernel_rfl, fun _ _ _ => by kernel_rfl⟩ (.cons ⟨by kernel_rfl, fun _ _ => by kernel_rfl, fun _ _ _ => by kernel_rfl⟩ .nil)
noncomputable def q29 : FD Tryd.prog ids := ⟨29, Tryd.f29, [], [], TT, [], ⟨[], [], [(5, ⟨(jl [5, 1, 0]), ⟨[(0, (.lf Y4)), (1, (.lf Y4)), (5, (.lf Y1))], [], []⟩, [(0, (lfS []))]⟩)], (lfS [.bool]), none⟩, (lfState [Y4, Y4]), [], j0, [Y4, Y4], .bool, fun N x => avermentref01_Same N x.1 x.2, [⟨5, [Y4, Y4, Y1], [.unit, .bool], fun N n x ks => avermentref01_Same_l5 N (fun y => kget ks 0 ⟨.unit, y⟩) (fun y => kget ks 1 ⟨.bool, y⟩) n x.1 x.2.1 x.2.2⟩]⟩
noncomputable def b29 : BF Tryd.prog ids := q29.bf mix Tryd.func29 tt_ok (fun N => by kernel_rfl) (fun N x => by kernel_rfl) fun N => .cons ⟨by kernel_rfl, fun _ _ => by kernel_rfl, fun _ _ _ => by kernel_rfl⟩ .nil
noncomputable def q7 : FD Tryd.prog ids := ⟨7, Tryd.f7, [b8, b9, b100009, b13, b14, b100014, b16, b100016, b11, b33, b100033, b25, b100025, b37, b30, b29], [], TT, [81], (hl [.bool]), (lfState [Y2, Y3, Y1]), [], j0, [Y2, Y3, Y1], .bool, fun N x => avermentlaw02_WireShort N x.1 x.2.1 x.2.2, []⟩
noncomputable def b7 : BF Tryd.prog ids := q7.bf mix Tryd.func7 tt_ok (fun N => by kernel_rfl) (fun N x => by kernel_rfl) fun N => .nil
end Go.Proofs.YteeaoljihmmhhaaDoor
namespace Go.Y
def Wf (by_ : TypeId → Nat) : (A : Ty) → A.den → Prop
  | .unit, _ => True
  | .bool, _ => True
  | .int k, n => (Lit.int k n).wf = true
  | .str, s => (s : List UInt8).length ≤ reachBytes
  | .pair a b, x => Wf by_ a x.1 ∧ Wf by_ b x.2
  | .st f, x => Wf by_ f x
  | .sl e a, xs => (xs : List a.den).length * by_ e ≤ reachBytes ∧ ∀ x ∈ (xs : List a.den), Wf by_ a x
  | .ptr _ _, _ => False
  | .err, _ => False
  | .fn _ _, _ => False
theorem wf_i64 {n : Int} (h : (Lit.int .i64 n).wf = true) : -9223372036854775808 ≤ n ∧ n ≤ 9223372036854775807 := by
  simpa [Lit.wf, IntKind.min, IntKind.max, IntKind.signed, IntKind.bits] using h
theorem wf_u8 {n : Int} (h : (Lit.int .u8 n).wf = true) : 0 ≤ n ∧ n ≤ 255 := by
  simpa [Lit.wf, IntKind.min, IntKind.max, IntKind.signed, IntKind.bits] using h
theorem wf_u64 {n : Int} (h : (Lit.int .u64 n).wf = true) : 0 ≤ n ∧ n ≤ 18446744073709551615 := by
  simpa [Lit.wf, IntKind.min, IntKind.max, IntKind.signed, IntKind.bits] using h
end Go.Y
namespace Go.Y
open Go.Eng (T RepT RepM SRep Kept Base G SameOn VRep Split Live Free kn)
variable {P : Program} {I : Ids} {φ : FnP}
def rdT (P : Program) : Nat → TypeId → Ty → Bool
  | 0, _, _ => false
  | n + 1, t, A => match A with
    | .bool => match P.underlying t with | some .bool => true | _ => false
    | .int k => match P.underlying t with | some (.int k') => decide (k' = k) | _ => false
    | .str => match P.underlying t with | some .string => true | _ => false
    | .sl e a => match P.underlying t with
      | some (.slice e') => Nat.beq e' e && (rdT P n e a && (Nat.beq (P.cellsOf e) a.flat.length && (Eng.aggOf P e == a.isAgg && !a.flat.isEmpty)))
      | _ => false
    | .st f => match P.underlying t with
      | some (.struct fs) => rowF P (rdT P n) 0 fs.toList f && Nat.beq (P.cellsOf t) f.flat.length
      | _ => false
    | _ => false
def Reps (P : Program) (w : World) (F : Nat → Prop) (ts : List T) (us : List Value) : Prop := ts.length = us.length ∧ ∀ (j : Nat) t, ts[j]? = some t → ∃ u, us[j]? = some u ∧ RepT P w F t u
theorem reps_append {w : World} {F : Nat → Prop} {a b : List T} {us vs : List Value} (h1 : Reps P w F a us) (h2 : Reps P w F b vs) : Reps P w F (a ++ b) (us ++ vs) := by
  refine ⟨by simp [h1.1, h2.1], fun j t hj => ?_⟩
  by_cases hl : j < a.length
  · rw [List.getElem?_append_left hl] at hj
    obtain ⟨u, hu, hr⟩ := h1.2 j t hj
    exact ⟨u, by rw [List.getElem?_append_left (by rw [← h1.1]; exact hl)]; exact hu, hr⟩
  · rw [List.getElem?_append_right (by omega)] at hj
    obtain ⟨u, hu, hr⟩ := h2.2 _ t hj
    exact ⟨u, by rw [List.getElem?_append_right (by rw [← h1.1]; omega), ← h1.1]; exact hu, hr⟩
theorem reps_one {w : World} {F : Nat → Prop} {t : T} {u : Value} (h : RepT P w F t u) : Reps P w F [t] [u] := by
  refine ⟨rfl, fun j s hj => ?_⟩
  cases j with
  | zero => simp only [List.getElem?_cons_zero, Option.some.injEq] at hj; subst hj; exact ⟨u, rfl, h⟩
  | succ j => simp at hj
section
variable {H : Type} {enc : TypeId × Value → H} {w : World} {spare : Nat → Bool} {held : Bool}
def RdOk (enc : TypeId × Value → H) (P : Program) (I : Ids) (φ : FnP) (w : World) (spare : Nat → Bool) (held : Bool) (n : Nat) : Prop :=
  ∀ t A, rdT P n t A = true → ∀ fuel cs d ps, DataW.trod enc P w 0 spare held fuel t cs = some (d, ps) → (∀ m ∈ d.weights P t, m ≤ reachBytes) →
    ∃ x : A.den, Wf P.bytesOf A x ∧ Reps P w (fun b => b < w.heap.size) (trc I φ A x) cs
theorem weights_each {ts : List TypeId} {ds : List (DataW H)} {M : Nat} (h : ∀ m ∈ DataW.weightsEach P ts ds, m ≤ M) {j : Nat} {t : TypeId} {d : DataW H} (ht : ts[j]? = some t) (hd : ds[j]? = some d) : ∀ m ∈ d.weights P t, m ≤ M :=
  fun m hm => h m (DataW.weights_mem_each ht hd m hm)
theorem weights_all_mem {e : TypeId} : ∀ {ds : List (DataW H)} {d : DataW H}, d ∈ ds → ∀ m ∈ d.weights P e, m ∈ DataW.weightsAll P e ds
  | [], d, hd, _, _ => by simp at hd
  | d0 :: r, d, hd, m, hm => by
    simp only [DataW.weightsAll, List.mem_append]
    rcases List.mem_cons.1 hd with rfl | hd
    · exact .inl hm
    · exact .inr (weights_all_mem hd m hm)
theorem rd_row {n fuel : Nat} (IH : RdOk enc P I φ w spare held n) {cs : List Value} :
    ∀ (fs : List Field) (f : Ty) (off : Nat) (xs : List (DataW H × List MemPlace)), rowF P (rdT P n) off fs f = true → xs.length = fs.length →
      (∀ (i : Nat) q, fs[i]? = some q → DataW.trod enc P w 0 spare held fuel q.type ((cs.drop q.offset).take (P.cellsOf q.type)) = xs[i]?) →
      (∀ m ∈ DataW.weightsEach P (fs.map (·.type)) (xs.map (·.1)), m ≤ reachBytes) → cs.length = off + f.flat.length →
      ∃ x : f.den, Wf P.bytesOf f x ∧ Reps P w (fun b => b < w.heap.size) (trc I φ f x) (cs.drop off) := by
  have hd1 : ∀ (q : Field) (a : Ty) (off : Nat) (y : DataW H × List MemPlace), hdF P (rdT P n) q a off = true → DataW.trod enc P w 0 spare held fuel q.type ((cs.drop q.offset).take (P.cellsOf q.type)) = some y →
      (∀ m ∈ y.1.weights P q.type, m ≤ reachBytes) → ∃ x : a.den, Wf P.bytesOf a x ∧ Reps P w (fun b => b < w.heap.size) (trc I φ a x) ((cs.drop off).take a.flat.length) := by
    intro q a off y h hy hm
    obtain ⟨h1, h2, h3, _, _⟩ := hdF_facts h
    obtain ⟨x, hx1, hx2⟩ := IH q.type a h2 fuel _ y.1 y.2 hy hm
    rw [h1, h3] at hx2
    exact ⟨x, hx1, hx2⟩
  intro fs
  induction fs with
  | nil =>
    intro f off xs h _ _ _ hl
    cases f <;> first
      | (exact ⟨(), trivial, by simp only [Ty.flat, List.length_nil] at hl; rw [List.drop_eq_nil_of_le (by omega)]; exact ⟨rfl, fun j t hj => by simp [trc] at hj⟩⟩)
      | (simp only [rowF] at h; cases h)
  | cons q r ih =>
    intro f off xs h hlen hx hm hl
    obtain ⟨y, ys, rfl⟩ : ∃ y ys, xs = y :: ys := by
      cases xs with
      | nil => simp at hlen
      | cons y ys => exact ⟨y, ys, rfl⟩
    have hy := hx 0 q rfl
    simp only [List.getElem?_cons_zero] at hy
    have hmy : ∀ m ∈ y.1.weights P q.type, m ≤ reachBytes := weights_each hm (j := 0) rfl rfl
    cases r with
    | nil =>
      simp only [rowF, Bool.and_eq_true] at h
      obtain ⟨x, h1, h2⟩ := hd1 q f off y h.2 hy hmy
      refine ⟨x, h1, ?_⟩
      rwa [List.take_of_length_le (by rw [List.length_drop]; omega)] at h2
    | cons q2 r2 =>
      cases f with
      | pair a b =>
        simp only [rowF, Bool.and_eq_true] at h
        simp only [Ty.flat, List.length_append] at hl
        obtain ⟨x, h1, h2⟩ := hd1 q a off y h.1 hy hmy
        obtain ⟨z, h3, h4⟩ := ih b (off + a.flat.length) ys h.2 (by simpa using hlen) (fun i q' hq => by have := hx (i + 1) q' (by simpa using hq); simpa using this)
          (fun m hm' => hm m (by simp only [List.map_cons, DataW.weightsEach, List.mem_append]; exact .inr (by simpa using hm'))) (by omega)
        refine ⟨(x, z), ⟨h1, h3⟩, ?_⟩
        have := reps_append h2 h4
        rw [← List.drop_drop, List.take_append_drop] at this
        exact this
      | _ => simp only [rowF] at h; cases h
theorem rd_ok : ∀ n, RdOk (H := H) enc P I φ w spare held n
  | 0 => fun t A h => by simp [rdT] at h
  | n + 1 => by
    intro t A h fuel cs d ps htr hm
    unfold rdT at h
    cases A with
    | bool =>
      simp only at h
      split at h
      · rename_i hu
        obtain ⟨b, rfl, _⟩ := DataW.trod_bool hu htr
        exact ⟨b, trivial, reps_one (.b b)⟩
      · cases h
    | int k =>
      simp only at h
      split at h
      · rename_i k' hu
        have hk : k' = k := of_decide_eq_true h
        subst hk
        obtain ⟨m, rfl, _, hw⟩ := DataW.trod_int hu htr
        exact ⟨m, hw, reps_one (.i k' m)⟩
      · cases h
    | str =>
      simp only at h
      split at h
      · rename_i hu
        obtain ⟨s, rfl, hx, hs⟩ := DataW.trod_string hu htr
        simp only [Prod.mk.injEq] at hx
        refine ⟨s.data.toList, ?_, ?_⟩
        · rw [hx.1] at hm
          have := hm s.data.toList.length (by simp [DataW.weights])
          exact this
        · have : (⟨s.data.toList.toArray⟩ : ByteArray) = s := by
            apply ByteArray.ext; simp
          show Reps P w _ [T.s ⟨s.data.toList.toArray⟩] _
          rw [this]
          exact reps_one (.s s)
      · cases h
    | st f =>
      simp only at h
      split at h
      · rename_i fs hu
        simp only [Bool.and_eq_true] at h
        obtain ⟨xs, m, rfl, hx, hl, hlen, hel⟩ := DataW.trod_struct hu htr
        have hf := (beq_iff _ _).1 h.2
        simp only [Prod.mk.injEq] at hx
        rw [hx.1] at hm
        obtain ⟨x, h1, h2⟩ := rd_row (rd_ok n) fs.toList f 0 xs h.1 (by rw [hlen]; simp) (fun i q hq => hel i q (by simpa using hq)) (fun k hk => hm k (by simp only [DataW.weights, hu]; exact hk)) (by rw [hl, hf]; simp)
        rw [List.drop_zero] at h2
        exact ⟨x, h1, h2⟩
      · cases h
    | sl e a =>
      simp only at h
      split at h
      · rename_i e' hu
        simp only [Bool.and_eq_true] at h
        obtain ⟨h1, h2, h3, h4, h5⟩ := h
        have h1 := (beq_iff _ _).1 h1
        subst h1
        have h3 := (beq_iff _ _).1 h3
        have h4 : Eng.aggOf P e' = a.isAgg := by simpa using h4
        have hpos : 0 < a.flat.length := by
          cases hf : a.flat with
          | nil => rw [hf] at h5; cases h5
          | cons => simp
        rcases DataW.trod_slice hu htr with ⟨rfl, _⟩ | ⟨ad, len, cap, elems, rest, m, rfl, rfl, hx, _, hlc, _, hlen, hel, _, _⟩
        · exact ⟨[], ⟨by simp, fun x hx => by simp at hx⟩, reps_one (.nsl e' false)⟩
        · simp only [Prod.mk.injEq] at hx
          rw [hx.1] at hm
          simp only [DataW.weights, hu, List.mem_cons, List.mem_append] at hm
          have hbytes := hm _ (.inl rfl)
          rw [List.length_map, List.length_map] at hbytes
          have each : ∀ i, i < len → ∃ x : a.den, Wf P.bytesOf a x ∧ ∃ us, w.cells? 0 (ad.add (i * P.cellsOf e')) (P.cellsOf e') = some us ∧ Reps P w (fun b => b < w.heap.size) (trc I φ a x) us := by
            intro i hi
            have hi' : i < elems.length := by omega
            have he := hel i hi
            rw [List.getElem?_eq_getElem hi'] at he
            obtain ⟨us, hus, htr'⟩ := Option.bind_eq_some_iff.1 he
            obtain ⟨x, hx1, hx2⟩ := rd_ok n e' a h2 m us elems[i].1 elems[i].2 htr' (fun k hk => hm k (.inr (.inl (weights_all_mem (List.mem_map.2 ⟨elems[i], List.getElem_mem hi', rfl⟩) k hk))))
            exact ⟨x, hx1, us, hus, hx2⟩
          obtain ⟨xs, hxl, hxs⟩ : ∃ xs : List a.den, xs.length = len ∧ ∀ i x, xs[i]? = some x → Wf P.bytesOf a x ∧ ∃ us, w.cells? 0 (ad.add (i * P.cellsOf e')) (P.cellsOf e') = some us ∧ Reps P w (fun b => b < w.heap.size) (trc I φ a x) us := by
            have : ∀ k, k ≤ len → ∃ xs : List a.den, xs.length = k ∧ ∀ i x, xs[i]? = some x → Wf P.bytesOf a x ∧ ∃ us, w.cells? 0 (ad.add (i * P.cellsOf e')) (P.cellsOf e') = some us ∧ Reps P w (fun b => b < w.heap.size) (trc I φ a x) us := by
              intro k
              induction k with
              | zero => exact fun _ => ⟨[], rfl, fun i x hx => by simp at hx⟩
              | succ k ihk =>
                intro hk
                obtain ⟨xs, hxl, hxs⟩ := ihk (by omega)
                obtain ⟨x, hx⟩ := each k (by omega)
                refine ⟨xs ++ [x], by simp [hxl], fun i y hy => ?_⟩
                by_cases hi : i < xs.length
                · rw [List.getElem?_append_left hi] at hy; exact hxs i y hy
                · rw [List.getElem?_append_right (by omega)] at hy
                  have hik : i = k := by
                    have := lt_of_get hy
                    simp at this; omega
                  subst hik
                  rw [hxl] at hy
                  simp only [Nat.sub_self, List.getElem?_cons_zero, Option.some.injEq] at hy
                  subst hy
                  exact hx
            exact this len (Nat.le_refl _)
          refine ⟨xs, ⟨?_, fun x hx => ?_⟩, ?_⟩
          · rw [hxl, ← hlen]
            exact Nat.le_trans (Nat.mul_le_mul_right _ (Nat.le_add_right _ _)) hbytes
          · obtain ⟨i, hi⟩ := List.getElem?_of_mem hx
            exact (hxs i x hi).1
          · refine reps_one ?_
            have hfit : ∀ y ∈ xs.map (fun x => one a (trc I φ a x)), Eng.Fits P e' y := by
              intro y hy
              obtain ⟨x, _, rfl⟩ := List.mem_map.1 hy
              exact fits_of_ty h3.symm h4.symm x
            by_cases hl0 : len = 0
            · subst hl0
              have : xs = [] := List.eq_nil_of_length_eq_zero hxl
              subst this
              exact .esl e' false ad cap
            · have hcell : ∀ i x, xs[i]? = some x → ∃ us : List Value, us.length = P.cellsOf e' ∧ (∀ j, j < P.cellsOf e' → w.cell? ((ad.add (i * P.cellsOf e')).add j) = us[j]?) ∧ Reps P w (fun b => b < w.heap.size) (trc I φ a x) us := by
                intro i x hx
                obtain ⟨_, us, hus, hr⟩ := hxs i x hx
                unfold World.cells? at hus
                rw [if_pos (Nat.zero_le _)] at hus
                exact ⟨us, by simpa using mapM_some_length hus, fun j hj => mapM_some_get hus j j (by simp [hj]), hr⟩
              obtain ⟨adb, ado, ads⟩ := ad
              have hspot : ads = none ∧ adb < w.heap.size := by
                obtain ⟨us, hus, hc, hr⟩ := hcell 0 xs[0] (List.getElem?_eq_getElem (by omega))
                have h6 := hc 0 (by omega)
                simp only [Nat.zero_mul, Addr.add, if_true] at h6
                have h7 : us[0]? = some us[0] := List.getElem?_eq_getElem (by omega)
                rw [h7] at h6
                refine ⟨?_, World.block_lt_of_cell? w _ h6⟩
                unfold World.cell? at h6
                split at h6
                · split at h6
                  · cases h6
                  · rename_i hs
                    simpa using hs
                · cases h6
              obtain ⟨rfl, hlt⟩ := hspot
              have hat : ∀ j t, (Eng.flat (xs.map fun x => one a (trc I φ a x)))[j]? = some t → ∃ u, w.cell? ⟨adb, ado + j, none⟩ = some u ∧ RepT P w (fun b => b < w.heap.size) t u := by
                intro j t hj
                obtain ⟨_, _, x, hi, ho⟩ := flat_at hfit hj
                have hjo : j = j / P.cellsOf e' * P.cellsOf e' + j % P.cellsOf e' := by rw [Nat.mul_comm]; exact (Nat.div_add_mod _ _).symm
                generalize j / P.cellsOf e' = i at hi hjo
                generalize j % P.cellsOf e' = o at ho hjo
                rw [List.getElem?_map, Option.map_eq_some_iff] at hi
                obtain ⟨x', hx', rfl⟩ := hi
                have ho : (trc I φ a x')[o]? = some t := by rw [← ho]; exact congrArg (·[o]?) (tr_cells (I := I) (φ := φ) a x').symm
                obtain ⟨us, hus, hc, hr⟩ := hcell i x' hx'
                obtain ⟨u, hu, hru⟩ := hr.2 o t ho
                have hol : o < P.cellsOf e' := by
                  have := lt_of_get hu
                  omega
                have h8 := hc o hol
                rw [hu, Eng.addr_add, Eng.addr_add, Nat.add_assoc, ← hjo] at h8
                exact ⟨u, h8, hru⟩
              have hlm : len = (xs.map fun x => one a (trc I φ a x)).length := by simp [hxl]
              rw [hlm]
              refine .sl e' false _ adb ado cap (fun j => (w.cell? ⟨adb, ado + j, none⟩).getD undef) (fun _ => hlt) hfit (by rw [← hlm]; exact hlc) (fun j t hj => ?_) fun j t hj => ?_
              · obtain ⟨u, hu, _⟩ := hat j t hj
                simp [hu]
              · obtain ⟨u, hu, hr⟩ := hat j t hj
                simp only [hu, Option.getD_some]
                exact hr
      · cases h
    | _ => cases h
end
end Go.Y
namespace Go.Y
open Go.Eng (T RepT RepM SRep Kept Base G SameOn VRep Split Live Free kn)
open Go.ChangeShapes Go.WideShapes Go.RowKit
variable {P : Program} {I : Ids} {φ : FnP}
def rdAll (P : Program) : List TypeId → List Ty → Bool
  | [], [] => true
  | t :: ts, A :: As => rdT P 24 t A && (P.readableRec t && (Nat.blt t P.types.size && (Eng.aggOf P t == A.isAgg && rdAll P ts As)))
  | _, _ => false
theorem cells_one {v : Value} {c : Value} (h : v.cells.toList = [c]) : v = c ∨ v = .agg #[c] := by
  cases v with
  | agg cs =>
    refine .inr ?_
    have h : cs.toList = [c] := h
    cases cs; simp_all
  | _ => simp_all [Value.cells]
theorem rd_value {H : Type} {enc : TypeId × Value → H} {w : World} {r : Reach} {b0 : Nat} {t : TypeId} {A : Ty} {v : Value} {x : A.den} (h : rdT P 24 t A = true) (hag : Eng.aggOf P t = A.isAgg) (hval : Value.okWide P w r b0 t v)
    {F : Nat → Prop} (hr : Reps P w F (trc I φ A x) v.cells.toList) : RepT P w F (tr I φ A x) v := by
  cases hA : A.isAgg with
  | true =>
    rw [tr_agg A hA]
    have hu : ∃ cs, v = .agg cs := by
      unfold Eng.aggOf at hag
      unfold Value.okWide at hval
      rw [hA] at hag
      split at hval
      · obtain ⟨cs, hv, _⟩ := hval; exact ⟨cs, hv⟩
      · obtain ⟨cs, hv, _⟩ := hval; exact ⟨cs, hv⟩
      · split at hag
        · simp_all
        · simp_all
        · cases hag
    obtain ⟨cs, rfl⟩ := hu
    refine .ag _ cs (fun j => cs.getD j undef) (by have := hr.1; simp [Value.cells] at this; exact this.symm) (fun j t hj => ?_) fun j t hj => ?_
    · obtain ⟨u, hu, _⟩ := hr.2 j t hj
      simp only [Value.cells, Array.getElem?_toList] at hu
      simp [hu]
    · obtain ⟨u, hu, hr'⟩ := hr.2 j t hj
      simp only [Value.cells, Array.getElem?_toList] at hu
      simpa [hu] using hr'
  | false =>
    have hs := tr_single (I := I) (φ := φ) A hA x
    rw [hs] at hr
    obtain ⟨u, hu, hr'⟩ := hr.2 0 _ rfl
    have hlen := hr.1
    have hcs : v.cells.toList = [u] := by
      cases hc : v.cells.toList with
      | nil => rw [hc] at hu; simp at hu
      | cons y ys =>
        rw [hc] at hu hlen
        cases ys with
        | nil => simp only [List.getElem?_cons_zero, Option.some.injEq] at hu; subst hu; rfl
        | cons z zs => simp at hlen
    rcases cells_one hcs with rfl | rfl
    · exact hr'
    · exfalso
      rw [hA] at hag
      unfold Value.okWide at hval
      unfold Eng.aggOf at hag
      split at hval
      · rename_i h1; rw [h1] at hag; cases hag
      · rename_i h1; rw [h1] at hag; cases hag
      · unfold Cell.okWide Cell.ok at hval
        simp only at hval
        split at hval <;> simp_all
theorem rd_args {H : Type} {enc : TypeId × Value → H} {w : World} {spare : Nat → Bool} {held : Bool} {r : Reach} {b0 : Nat} :
    ∀ (ts : List TypeId) (As : List Ty) (vs : List Value) (ds : List (DataW H)) (ps : List MemPlace), rdAll P ts As = true → DataW.TrodAll enc P w 0 spare held ts vs ds ps →
      (∀ (j : Nat) t v, ts[j]? = some t → vs[j]? = some v → Value.okWide P w r b0 t v) → (∀ m ∈ DataW.weightsEach P ts ds, m ≤ reachBytes) →
      ∃ ls : List L, ls.map (·.ty) = As ∧ (∀ l ∈ ls, Wf P.bytesOf l.ty l.val) ∧ vs.length = ls.length ∧ ds.length = ts.length ∧ ∀ (j : Nat) l, ls[j]? = some l → ∃ u, vs[j]? = some u ∧ RepT P w (fun b => b < w.heap.size) (trL I φ l) u
  | [], [], vs, ds, ps, _, h, _, _ => by
    cases vs <;> cases ds <;> simp_all [DataW.TrodAll]
  | t :: ts, A :: As, vs, ds, ps, h, hT, hval, hm => by
    simp only [rdAll, Bool.and_eq_true] at h
    obtain ⟨v, vs', d, ds', p, q, rfl, rfl, rfl, hd, hrest⟩ := trodAll_cons hT
    obtain ⟨fuel, hf⟩ := hd
    obtain ⟨x, hx1, hx2⟩ := rd_ok (I := I) (φ := φ) 24 t A h.1 fuel _ d p hf (fun m hm' => hm m (by simp only [DataW.weightsEach, List.mem_append]; exact .inl hm'))
    obtain ⟨ls, h1, h2, h3, h5, h4⟩ := rd_args ts As vs' ds' q h.2.2.2.2 hrest (fun j t v ht hv => hval (j + 1) t v (by simpa using ht) (by simpa using hv)) (fun m hm' => hm m (by simp only [DataW.weightsEach, List.mem_append]; exact .inr hm'))
    refine ⟨⟨A, x⟩ :: ls, by simp [h1], ?_, by simp [h3], by simp [h5], ?_⟩
    · intro l hl
      rcases List.mem_cons.1 hl with rfl | hl
      · exact hx1
      · exact h2 l hl
    · intro j l hj
      cases j with
      | zero =>
        simp only [List.getElem?_cons_zero, Option.some.injEq] at hj
        subst hj
        exact ⟨v, rfl, rd_value (enc := enc) h.1 (by simpa using h.2.2.2.1) (hval 0 t v rfl rfl) hx2⟩
      | succ j => exact h4 j l (by simpa using hj)
  | [], _ :: _, _, _, _, h, _, _, _ => by simp [rdAll] at h
  | _ :: _, [], _, _, _, h, _, _, _ => by simp [rdAll] at h
theorem rd_back {H : Type} {enc : TypeId × Value → H} {W W' : World} (hl : laidOutB P = true) (hb : Below W.heap.size W W') :
    ∀ (ts : List TypeId) (As : List Ty) (vs : List Value) (ds : List (DataW H)) (ps : List MemPlace), rdAll P ts As = true → DataW.TrodAll enc P W 0 (fun _ => true) true ts vs ds ps →
      DataW.TrodAll enc P W' 0 (fun b => decide (b < W.heap.size)) true ts vs ds ps
  | [], [], vs, ds, ps, _, h => by
    cases vs <;> cases ds <;> simp_all [DataW.TrodAll]
  | t :: ts, A :: As, vs, ds, ps, h, hT => by
    simp only [rdAll, Bool.and_eq_true] at h
    obtain ⟨v, vs', d, ds', p, q, rfl, rfl, rfl, hd, hrest⟩ := trodAll_cons hT
    refine ⟨p, q, Below.trod hl h.2.1 (by have := h.2.2.1; rwa [Nat.blt_eq] at this) hd hb ?_, rd_back hl hb ts As vs' ds' q h.2.2.2.2 hrest, rfl⟩
    obtain ⟨fuel, hf⟩ := hd
    exact DataW.trod_lt fuel _ _ _ hf
  | [], _ :: _, _, _, _, h, _ => by simp [rdAll] at h
  | _ :: _, [], _, _, _, h, _ => by simp [rdAll] at h
theorem tupL_wf (by_ : TypeId → Nat) : ∀ (vs : List L), (∀ l ∈ vs, Wf by_ l.ty l.val) → Wf by_ (tupL vs).ty (tupL vs).val
  | [], _ => trivial
  | [v], h => h v (by simp)
  | v :: w :: r, h => ⟨h v (by simp), tupL_wf by_ (w :: r) fun l hl => h l (by simp [hl])⟩
def boolOut : St Ty := ⟨[(0, .lf .bool)], [], []⟩
theorem law_calls {H : Type} {enc : TypeId × Value → H} {f : FuncId} {fn : Func} {s : ChangeSpec} {As : List Ty} {F : Nat → (tupTy As).den → Option Bool} {ins : St Ty} {h0 : JH}
    (hl : laidOutB P = true) (hrd : rdAll P fn.params.toList As = true) (hvars : s.vars = []) (hspec : ∀ ds : List (DataW H), ds.length = fn.params.toList.length → s.fn H ds = { results := [.lit (.bool true)], args := ds })
    (hres : ∃ t, fn.resultTypes = #[t] ∧ P.underlying t = some .bool) (hins : ins = lfState As)
    (hOk : ∀ N, FnOk P I φ f ⟨ins, boolOut, false, [], h0, none⟩ ⟨tupTy As, .bool, F N⟩)
    (pure : ∀ x : (tupTy As).den, Wf P.bytesOf (tupTy As) x → ∃ N, F N x = some true)
    {W : World} {base : Nat} {args : Array Value} {ds gs : List (DataW H)} {before : List MemPlace}
    (hval : ∀ (j : Nat) t v, fn.params[j]? = some t → args[j]? = some v → Value.okWide P W .any base t v)
    (hW : DataW.Whole enc P fn.params.toList s.vars false W args.toList ds gs before)
    (hsz : (DataW.weightsEach P (fn.params.toList ++ s.plain.varTypes P) (ds ++ gs)).all (· ≤ reachBytes) = true) (hgl : GlobW I W) :
    Calls P f args W fun e W' => ∃ v, e = .returned v ∧ s.post enc P fn false true false false W args v W' := by
  have hW' := hW
  obtain ⟨p, q, hA, hV, rfl, hfz, hnd⟩ := hW
  rw [hvars] at hV
  obtain ⟨rfl, rfl⟩ := trodVars_none hV
  have hm : ∀ m ∈ DataW.weightsEach P fn.params.toList ds, m ≤ reachBytes := by
    intro m hm
    have hvt : s.plain.varTypes P = [] := by
      have : s.plain.vars = [] := hvars
      unfold DataSpec.varTypes
      rw [this]; rfl
    rw [hvt, List.append_nil, List.append_nil] at hsz
    simpa using List.all_eq_true.1 hsz m hm
  obtain ⟨ls, h1, h2, h3, h5, h4⟩ := rd_args (I := I) (φ := φ) fn.params.toList As args.toList ds p hrd hA (fun j t v ht hv => hval j t v (by simpa using ht) (by simpa using hv)) hm
  have hx : ∃ x, (tupL ls).as (tupTy As) = some x ∧ Wf P.bytesOf (tupTy As) x := by
    rw [← h1, ← tupL_ty]
    exact ⟨_, as_self _, tupL_wf _ ls h2⟩
  obtain ⟨x, hx1, hx2⟩ := hx
  obtain ⟨N, hN⟩ := pure x hx2
  refine ((hOk N).leaf (ts := As) rfl hins rfl x true hN ls hx1 h1 W (fun b => b < W.heap.size) args hgl (fun b hb => hb) (by simpa using h3) (fun j l hj => by
    obtain ⟨u, hu, hr⟩ := h4 j l hj
    exact ⟨u, by simpa using hu, hr⟩)).mono fun e W' ⟨u, he, g', rs, hrs, hinv, hrep⟩ => ?_
  have hrs := hrs []
  have hrs : some [(⟨.bool, true⟩ : L)] = some rs := hrs
  simp only [Option.some.injEq] at hrs
  subst hrs
  have hu := hrep (.lf ⟨.bool, true⟩) rfl
  have hu := repB (arep_lf hu)
  subst hu
  have bel : Below W.heap.size W W' := ⟨hinv.k.os, hinv.k.tape, hinv.k.output, hinv.k.size, fun b hb => hinv.k.block b hb (fun h => h)⟩
  obtain ⟨t, ht1, ht2⟩ := hres
  have hsp := hspec ds h5
  refine ⟨_, he, ds, [], _, [], p, [], hW', ?_, ?_, ?_, bel.frame _, fun h => by cases h⟩
  · rw [List.append_nil, hsp, ht1]
    exact trodAll_mk1 (shut_bool ht2 _)
  · rw [List.append_nil, hsp]
    exact rd_back hl bel _ _ _ _ _ hrd hA
  · rw [List.append_nil, hsp, hvars]
    rfl
end Go.Y
namespace Go.Y
variable {α β ρ : Type}
theorem wr_i64 {n : Int} (h0 : -9223372036854775808 ≤ n) (h1 : n ≤ 9223372036854775807) : wr .i64 n = n := by
  show (if true && decide (n % (2 ^ 64 : Int) ≥ (2 ^ 63 : Int)) then n % (2 ^ 64 : Int) - (2 ^ 64 : Int) else n % (2 ^ 64 : Int)) = n
  simp only [Bool.true_and, decide_eq_true_eq]
  split <;> omega
theorem wr_u64_mod (n : Int) : wr .u64 n = n % 18446744073709551616 := rfl
theorem wr_u64 {n : Int} (h0 : 0 ≤ n) (h1 : n ≤ 18446744073709551615) : wr .u64 n = n := by rw [wr_u64_mod]; omega
theorem wr_u8_mod (n : Int) : wr .u8 n = n % 256 := rfl
theorem wr_u8 {n : Int} (h0 : 0 ≤ n) (h1 : n ≤ 255) : wr .u8 n = n := by rw [wr_u8_mod]; omega
theorem wr_succ {i m : Nat} (h : i < m) (hm : m ≤ 9223372036854775807) : wr .i64 ((i : Int) + 1) = ((i + 1 : Nat) : Int) := by
  rw [wr_i64 (by omega) (by omega)]; omega
@[simp] theorem pIf_t (a b : Option ρ) : pIf true a b = a := rfl
@[simp] theorem pIf_f (a b : Option ρ) : pIf false a b = b := rfl
@[simp] theorem pCk_t (k : Option ρ) : pCk true k = k := rfl
@[simp] theorem pCall_s (x : α) (k : α → Option ρ) : pCall (some x) k = k x := rfl
@[simp] theorem pCallG_t (d : α) (o : Option α) (k : α → Option ρ) : pCallG true d o k = pCall o k := rfl
@[simp] theorem pCallG_f (d : α) (o : Option α) (k : α → Option ρ) : pCallG false d o k = k d := rfl
@[simp] theorem pIdxG_t (d : α) (xs : List α) (i : Int) (k : α → Option ρ) : pIdxG true d xs i k = pIdx xs i k := rfl
@[simp] theorem pIdxG_f (d : α) (xs : List α) (i : Int) (k : α → Option ρ) : pIdxG false d xs i k = k d := rfl
@[simp] theorem pLet_ (a : α) (k : α → Option ρ) : pLet a k = k a := rfl
@[simp] theorem pJoin_ (k : α → Option ρ) (b : (α → Option ρ) → Option ρ) : pJoin k b = b k := rfl
@[simp] theorem pick_t (a b : α) : pick true a b = a := rfl
@[simp] theorem pick_f (a b : α) : pick false a b = b := rfl
theorem pick_and (a b : Bool) : pick a b false = (a && b) := by cases a <;> rfl
theorem pick_or (a b : Bool) : pick a true b = (a || b) := by cases a <;> rfl
@[simp] theorem len_ (xs : List α) : len xs = (xs.length : Int) := rfl
theorem ix_nat {xs : List α} {i : Nat} : ix xs (i : Int) = xs[i]? := by
  unfold ix
  rw [decide_eq_true (Int.natCast_nonneg i), Int.toNat_natCast]
theorem pIdx_nat {xs : List α} {i : Nat} {x : α} (h : xs[i]? = some x) (k : α → Option ρ) : pIdx xs (i : Int) k = k x := by
  unfold pIdx; rw [ix_nat, h]; rfl
theorem pIdx_lt {xs : List α} {i : Nat} (h : i < xs.length) (k : α → Option ρ) : pIdx xs (i : Int) k = k xs[i] :=
  pIdx_nat (List.getElem?_eq_getElem h) k
theorem pIdx_int {xs : List α} {i : Int} (h0 : 0 ≤ i) (h : i.toNat < xs.length) (k : α → Option ρ) : pIdx xs i k = k xs[i.toNat] := by
  have := pIdx_lt h k
  rwa [Int.toNat_of_nonneg h0] at this
theorem room_of {b : Nat} {n : Int} (h : n * b ≤ 140737488355328) (h1 : n ≤ 140737488355328) : room b n = true := by
  exact room_iff.2 ⟨h, h1⟩
end Go.Y
namespace Go.Y
theorem loop_all {ρ : Type} (L : Nat → Nat → ρ) (m : Nat) (p : Nat → Bool) (yes no : ρ) (hs : ∀ n i, i < m → L (n + 1) i = bif p i then L n (i + 1) else no) (h1 : ∀ n, L (n + 1) m = yes) :
    ∀ n i, i ≤ m → m < n + i → L n i = bif (List.range' i (m - i)).all p then yes else no
  | 0, i, hi, hn => by omega
  | n + 1, i, hi, hn => by
    by_cases h : i = m
    · subst h
      rw [h1, Nat.sub_self]; rfl
    · have ih := loop_all L m p yes no hs h1 n (i + 1) (by omega) (by omega)
      rw [hs n i (by omega), ih, show m - i = (m - (i + 1)) + 1 by omega, List.range'_succ, List.all_cons]
      cases p i <;> simp
theorem loop_all0 {ρ : Type} (L : Nat → Nat → ρ) (m : Nat) (p : Nat → Bool) (yes no : ρ) (hs : ∀ n i, i < m → L (n + 1) i = bif p i then L n (i + 1) else no) (h1 : ∀ n, L (n + 1) m = yes) {n : Nat} (hn : m < n) :
    L n 0 = bif (List.range m).all p then yes else no := by
  have := loop_all L m p yes no hs h1 n 0 (Nat.zero_le _) hn
  rw [this, List.range_eq_range', Nat.sub_zero]
theorem loop_run {ρ : Type} (L : Nat → Nat → ρ) (m : Nat) (yes : ρ) (hs : ∀ n i, i < m → L (n + 1) i = L n (i + 1)) (h1 : ∀ n, L (n + 1) m = yes) {n : Nat} (hn : m < n) : L n 0 = yes := by
  have := loop_all0 L m (fun _ => true) yes yes (fun n i hi => by rw [hs n i hi]; rfl) h1 hn
  rw [this]
  cases (List.range m).all fun _ => true <;> rfl
end Go.Y
namespace Go.Y
open Go
theorem band_nat {k : IntKind} {x y : Nat} (hx : x < 2 ^ k.bits) (hy : y < 2 ^ k.bits) (hw : ∀ z : Nat, z < 2 ^ k.bits → z ≤ x → k.wrap (z : Int) = z) : band k (x : Int) (y : Int) = ((x &&& y : Nat) : Int) := by
  unfold band
  have e1 : (BitVec.ofInt k.bits (x : Int)) = BitVec.ofNat k.bits x := by simp
  have e2 : (BitVec.ofInt k.bits (y : Int)) = BitVec.ofNat k.bits y := by simp
  rw [e1, e2, BitVec.toNat_and, BitVec.toNat_ofNat, BitVec.toNat_ofNat, Nat.mod_eq_of_lt hx, Nat.mod_eq_of_lt hy]
  exact hw _ (Nat.lt_of_le_of_lt Nat.and_le_left hx) Nat.and_le_left
theorem band_u8 {x y : Nat} (hx : x < 256) (hy : y < 256) : band .u8 (x : Int) (y : Int) = ((x &&& y : Nat) : Int) :=
  band_nat (k := .u8) hx hy fun z h _ => wr_u8 (by omega) (by have : z < 256 := h; omega)
theorem band_u64 {x y : Nat} (hx : x < 2 ^ 64) (hy : y < 2 ^ 64) : band .u64 (x : Int) (y : Int) = ((x &&& y : Nat) : Int) :=
  band_nat (k := .u64) hx hy fun z h _ => wr_u64 (by omega) (by have : z < 2 ^ 64 := h; omega)
theorem bor_u64 {x y : Nat} (hx : x < 2 ^ 64) (hy : y < 2 ^ 64) : bor .u64 (x : Int) (y : Int) = ((x ||| y : Nat) : Int) := by
  unfold bor
  have e1 : (BitVec.ofInt IntKind.u64.bits (x : Int)) = BitVec.ofNat 64 x := by show BitVec.ofInt 64 (x : Int) = _; simp
  have e2 : (BitVec.ofInt IntKind.u64.bits (y : Int)) = BitVec.ofNat 64 y := by show BitVec.ofInt 64 (y : Int) = _; simp
  rw [e1, e2]
  show IntKind.u64.wrap ((BitVec.ofNat 64 x ||| BitVec.ofNat 64 y).toNat : Int) = _
  rw [BitVec.toNat_or, BitVec.toNat_ofNat, BitVec.toNat_ofNat, Nat.mod_eq_of_lt hx, Nat.mod_eq_of_lt hy]
  have := Nat.or_lt_two_pow hx hy
  exact wr_u64 (by omega) (by omega)
theorem bor_u8 {x y : Nat} (hx : x < 256) (hy : y < 256) : bor .u8 (x : Int) (y : Int) = ((x ||| y : Nat) : Int) := by
  unfold bor
  have e1 : (BitVec.ofInt IntKind.u8.bits (x : Int)) = BitVec.ofNat 8 x := by show BitVec.ofInt 8 (x : Int) = _; simp
  have e2 : (BitVec.ofInt IntKind.u8.bits (y : Int)) = BitVec.ofNat 8 y := by show BitVec.ofInt 8 (y : Int) = _; simp
  rw [e1, e2]
  show IntKind.u8.wrap ((BitVec.ofNat 8 x ||| BitVec.ofNat 8 y).toNat : Int) = _
  rw [BitVec.toNat_or, BitVec.toNat_ofNat, BitVec.toNat_ofNat, Nat.mod_eq_of_lt hx, Nat.mod_eq_of_lt hy]
  have := Nat.or_lt_two_pow (n := 8) hx hy
  exact wr_u8 (by omega) (by omega)
theorem and127 (x : Nat) : x &&& 127 = x % 128 := Nat.and_two_pow_sub_one_eq_mod x 7
theorem and128 {x : Nat} (h : x < 256) : (x &&& 128 = 0) ↔ x < 128 := by
  have : ∀ x : Fin 256, (x.val &&& 128 = 0) ↔ x.val < 128 := by decide +kernel
  exact this ⟨x, h⟩
theorem shl_u64 {x s : Nat} (hs : s < 64) (h : x * 2 ^ s < 2 ^ 64) : shlI .u64 (x : Int) (s : Int) = ((x * 2 ^ s : Nat) : Int) := by
  unfold shlI
  rw [show min (s : Int).toNat IntKind.u64.bits = s by show min (s : Int).toNat 64 = s; omega]
  rw [show (x : Int) * 2 ^ s = ((x * 2 ^ s : Nat) : Int) by push_cast; rfl]
  exact wr_u64 (by omega) (by omega)
theorem or_add {a c s : Nat} (h : a < 2 ^ s) : a ||| c * 2 ^ s = a + c * 2 ^ s := by
  have := Nat.shiftLeft_add_eq_or_of_lt h c
  rw [Nat.shiftLeft_eq] at this
  rw [Nat.or_comm, ← this]; omega
def vVal : List Nat → Nat
  | [] => 0
  | c :: r => c % 128 + 128 * vVal r
def vOk : List Nat → Bool
  | [] => false
  | [c] => decide (c < 128)
  | c :: d :: r => decide (128 ≤ c) && vOk (d :: r)
theorem vVal_append (a b : List Nat) : vVal (a ++ b) = vVal a + 128 ^ a.length * vVal b := by
  induction a with
  | nil => simp [vVal]
  | cons c a ih => simp only [List.cons_append, vVal, ih, List.length_cons, Nat.pow_succ]; grind
theorem vVal_lt (a : List Nat) : vVal a < 128 ^ a.length := by
  induction a with
  | nil => simp [vVal]
  | cons c a ih => simp only [vVal, List.length_cons, Nat.pow_succ]; omega
end Go.Y
namespace Go.Y
open Go
def ints (bs : List Nat) : List Int := bs.map fun n : Nat => (n : Int)
theorem ints_len (bs : List Nat) : (ints bs).length = bs.length := by simp [ints]
theorem ints_get {bs : List Nat} {i c : Nat} (h : bs[i]? = some c) : (ints bs)[i]? = some (c : Int) := by simp [ints, h]
def vFit : List Nat → Prop
  | [] => False
  | [c] => c < 128
  | c :: d :: r => 128 ≤ c ∧ c < 256 ∧ 0 < vVal (d :: r) ∧ vFit (d :: r)
theorem pow7 (i : Nat) : 128 ^ i = 2 ^ (7 * i) := by rw [show (128 : Nat) = 2 ^ 7 by rfl, ← Nat.pow_mul]
theorem step_val {a c i : Nat} (ha : a < 128 ^ i) (hi : i ≤ 9) (hc : c < 256) (h9 : i = 9 → c ≤ 1) :
    a + c % 128 * 128 ^ i < 2 ^ 64 ∧ bor .u64 (a : Int) (shlI .u64 (wr .u64 (band .u8 (c : Int) 127)) (wr .i64 (7 * (i : Int)))) = ((a + c % 128 * 128 ^ i : Nat) : Int) := by
  have hp : 0 < 128 ^ i := Nat.pow_pos (by omega)
  have hlt : (c % 128 + 1) * 128 ^ i ≤ 2 ^ 64 := by
    by_cases h : i = 9
    · have := h9 h
      subst h
      calc (c % 128 + 1) * 128 ^ 9 ≤ 2 * 128 ^ 9 := Nat.mul_le_mul_right _ (by omega)
        _ = 2 ^ 64 := by decide
    · calc (c % 128 + 1) * 128 ^ i ≤ 128 * 128 ^ 8 := Nat.mul_le_mul (by omega) (Nat.pow_le_pow_right (by omega) (by omega))
        _ ≤ 2 ^ 64 := by decide
  rw [Nat.add_mul, Nat.one_mul] at hlt
  have h1 : a + c % 128 * 128 ^ i < 2 ^ 64 := by omega
  refine ⟨h1, ?_⟩
  have e1 : band .u8 (c : Int) 127 = ((c % 128 : Nat) : Int) := by
    have := band_u8 (x := c) (y := 127) hc (by omega)
    rw [and127] at this
    exact this
  rw [e1, wr_u64 (by omega) (by omega), wr_i64 (by omega) (by omega)]
  have e2 := shl_u64 (x := c % 128) (s := 7 * i) (by omega) (by rw [← pow7]; omega)
  rw [show (7 * (i : Int)) = ((7 * i : Nat) : Int) by push_cast; rfl, e2, bor_u64 (by omega) (by rw [← pow7]; omega), or_add (by rw [← pow7]; exact ha), ← pow7]
theorem look_go (N : Nat) (k0 : (List Int) × Int → Option (Int × Int × Int × (List Int) × Int)) (k1 : Int × Int × Int × (List Int) × Int → Option (Int × Int × Int × (List Int) × Int)) (bs : List Nat) (hb : ∀ x ∈ bs, x < 256) (hl : bs.length ≤ 100000) :
    ∀ (m i a fuel : Nat), i ≤ bs.length → i + m = 10 → m < fuel → a < 128 ^ i →
      (p_wire_Reader_look_l4 N k0 k1 fuel 18446744073709551615 (a : Int) (i : Int) (ints bs) 0 = k0 (ints bs, 0)) ∨
      (∃ e : Int, (e = 2 ∨ e = 3 ∨ e = 4) ∧ p_wire_Reader_look_l4 N k0 k1 fuel 18446744073709551615 (a : Int) (i : Int) (ints bs) 0 = k1 (0, 0, e, ints bs, 0)) ∨
      ∃ ch rest, bs.drop i = ch ++ rest ∧ vFit ch ∧ (0 < i → 0 < vVal ch) ∧ i + ch.length ≤ 10 ∧ a + 128 ^ i * vVal ch < 2 ^ 64 ∧
        p_wire_Reader_look_l4 N k0 k1 fuel 18446744073709551615 (a : Int) (i : Int) (ints bs) 0 = k1 (((a + 128 ^ i * vVal ch : Nat) : Int), ((i + ch.length : Nat) : Int), 0, ints bs, 0) := by
  intro m
  induction m with
  | zero =>
    intro i a fuel hib hi hf ha
    obtain ⟨fuel, rfl⟩ : ∃ f, fuel = f + 1 := ⟨fuel - 1, by omega⟩
    left
    simp only [p_wire_Reader_look_l4]
    rw [show decide ((i : Int) < 10) = false by simp; omega]
    rfl
  | succ m ih =>
    intro i a fuel hib hi hf ha
    obtain ⟨fuel, rfl⟩ : ∃ f, fuel = f + 1 := ⟨fuel - 1, by omega⟩
    have hw : wr .i64 (0 + (i : Int)) = (i : Int) := by rw [Int.zero_add]; exact wr_i64 (by omega) (by omega)
    simp only [p_wire_Reader_look_l4]
    rw [show decide ((i : Int) < 10) = true by simp; omega, pIf_t]
    simp only [hw, len_, ints_len]
    by_cases he : i = bs.length
    · rw [show decide ((i : Int) = (bs.length : Int)) = true by simp; omega, pIf_t]
      exact .inr (.inl ⟨2, .inl rfl, rfl⟩)
    · rw [show decide ((i : Int) = (bs.length : Int)) = false by simp; omega, pIf_f]
      by_cases hil : i < bs.length
      case neg => exact absurd hil (by omega)
      obtain ⟨c, hc⟩ : ∃ c, bs[i]? = some c := ⟨bs[i], List.getElem?_eq_getElem hil⟩
      have hc256 : c < 256 := hb c (List.mem_of_getElem? hc)
      rw [pIdx_nat (ints_get hc)]
      simp only [pLet_, pick_and]
      by_cases h9 : i = 9 ∧ 1 < c
      · rw [show (decide ((i : Int) = 9) && decide (1 < (c : Int))) = true by simp; omega, pIf_t]
        exact .inr (.inl ⟨3, .inr (.inl rfl), rfl⟩)
      · rw [show (decide ((i : Int) = 9) && decide (1 < (c : Int))) = false by simp; omega, pIf_f]
        have h7 : wr .i64 (7 * (i : Int)) = 7 * (i : Int) := wr_i64 (by omega) (by omega)
        rw [show decide (0 ≤ wr .i64 (7 * (i : Int))) = true by rw [h7]; exact decide_eq_true (by omega), pCk_t]
        obtain ⟨hv1, hv2⟩ := step_val ha (by omega) hc256 (fun h => by omega)
        simp only [hv2]
        have hb128 : band .u8 (c : Int) 128 = ((c &&& 128 : Nat) : Int) := band_u8 (x := c) (y := 128) hc256 (by omega)
        have hd : bs.drop i = c :: bs.drop (i + 1) := by
          rw [List.drop_eq_getElem_cons hil]
          rw [List.getElem?_eq_getElem hil, Option.some.injEq] at hc
          rw [hc]
        by_cases hcc : c < 128
        · rw [show (!decide (band .u8 (c : Int) 128 = 0)) = false by rw [hb128, (and128 hc256).2 hcc]; rfl, pIf_f]
          by_cases h0 : c = 0 ∧ 0 < i
          · rw [show (decide ((c : Int) = 0) && decide (0 < (i : Int))) = true by simp; omega, pIf_t]
            exact .inr (.inl ⟨3, .inr (.inl rfl), rfl⟩)
          · rw [show (decide ((c : Int) = 0) && decide (0 < (i : Int))) = false by simp; omega, pIf_f]
            rw [show decide ((18446744073709551615 : Int) < ((a + c % 128 * 128 ^ i : Nat) : Int)) = false by simp only [decide_eq_false_iff_not]; omega, pIf_f]
            refine .inr (.inr ⟨[c], bs.drop (i + 1), hd, hcc, fun h => ?_, by simp; omega, ?_, ?_⟩)
            · simp only [vVal]; omega
            · simp only [vVal]; rw [Nat.mul_comm]; omega
            · have e1 : wr .i64 ((i : Int) + 1) = ((i + 1 : Nat) : Int) := wr_succ (m := 10) (by omega) (by omega)
              rw [e1]
              simp only [vVal, List.length_singleton, Nat.mul_zero, Nat.add_zero]
              rw [Nat.mul_comm (128 ^ i)]
        · rw [show (!decide (band .u8 (c : Int) 128 = 0)) = true by
            rw [hb128]
            have : ¬ c &&& 128 = 0 := fun h => hcc ((and128 hc256).1 h)
            simp; omega, pIf_t]
          have e1 : wr .i64 ((i : Int) + 1) = ((i + 1 : Nat) : Int) := wr_succ (m := 10) (by omega) (by omega)
          rw [e1]
          have ha' : a + c % 128 * 128 ^ i < 128 ^ (i + 1) := by
            rw [Nat.pow_succ]
            have : c % 128 * 128 ^ i ≤ 127 * 128 ^ i := Nat.mul_le_mul_right _ (by omega)
            omega
          rcases ih (i + 1) (a + c % 128 * 128 ^ i) fuel (by omega) (by omega) (by omega) ha' with h | ⟨e, h1, h2⟩ | ⟨ch, rest, h1, h2, h3, h4, h5, h6⟩
          · exact .inl h
          · exact .inr (.inl ⟨e, h1, h2⟩)
          · have hval : a + c % 128 * 128 ^ i + 128 ^ (i + 1) * vVal ch = a + 128 ^ i * vVal (c :: ch) := by
              simp only [vVal, Nat.pow_succ]; grind
            refine .inr (.inr ⟨c :: ch, rest, by rw [hd, h1]; rfl, ?_, fun _ => ?_, by simp only [List.length_cons]; omega, by rw [← hval]; exact h5, ?_⟩)
            · cases ch with
              | nil => exact h2.elim
              | cons d r => exact ⟨by omega, hc256, h3 (by omega), h2⟩
            · have := h3 (by omega)
              simp only [vVal]; omega
            · rw [h6, hval]
              simp only [List.length_cons]
              rw [show i + 1 + ch.length = i + (ch.length + 1) by omega]
end Go.Y
namespace Go.Y
open Go
theorem or128 {x : Nat} (h : x < 128) : x ||| 128 = x + 128 := by
  have : ∀ x : Fin 128, x.val ||| 128 = x.val + 128 := by decide +kernel
  exact this ⟨x, h⟩
theorem byte_eq (N : Nat) (c : Nat) (w : List Nat) (hw : w.length ≤ 100000) : p_wire_Writer_Byte N (c : Int) (ints w) = some (ints (w ++ [c])) := by
  unfold p_wire_Writer_Byte
  rw [room_of (by simp [ints_len]; omega) (by simp [ints_len]; omega), pCk_t]
  simp [ints]
theorem enc_go (N : Nat) : ∀ (ch w : List Nat) (fuel : Nat), vFit ch → ch.length < fuel → w.length + ch.length ≤ 100000 → vVal ch < 2 ^ 64 →
    p_wire_Writer_Uint_l1 N (fun x0 => pCall (p_wire_Writer_Byte N (wr .u8 x0.1) x0.2) fun x1 => some x1) fuel (vVal ch : Int) (ints w) = some (ints (w ++ ch))
  | [], w, fuel, hv, hf, hw, h64 => hv.elim
  | [c], w, fuel, hv, hf, hw, h64 => by
    obtain ⟨fuel, rfl⟩ : ∃ f, fuel = f + 1 := ⟨fuel - 1, by omega⟩
    have hc : c < 128 := hv
    have hval : vVal [c] = c := by simp only [vVal]; omega
    simp only [p_wire_Writer_Uint_l1, hval]
    rw [show decide ((127 : Int) < (c : Int)) = false by simp only [decide_eq_false_iff_not]; omega, pIf_f]
    simp only [List.length_singleton] at hw
    rw [wr_u8 (by omega) (by omega), byte_eq N c w (by omega)]
    rfl
  | c :: d :: r, w, fuel, hv, hf, hw, h64 => by
    obtain ⟨fuel, rfl⟩ : ∃ f, fuel = f + 1 := ⟨fuel - 1, by omega⟩
    obtain ⟨h1, h2, h3, h4⟩ := hv
    have hval : vVal (c :: d :: r) = c % 128 + 128 * vVal (d :: r) := rfl
    generalize hv' : vVal (c :: d :: r) = n at *
    simp only [p_wire_Writer_Uint_l1]
    rw [show decide ((127 : Int) < (n : Int)) = true by simp only [decide_eq_true_eq]; omega, pIf_t]
    have e1 : band .u64 (n : Int) 127 = ((n % 128 : Nat) : Int) := by
      have := band_u64 (x := n) (y := 127) h64 (by omega)
      rw [and127] at this
      exact this
    have e2 : bor .u8 (wr .u8 (band .u64 (n : Int) 127)) 128 = (c : Int) := by
      rw [e1, wr_u8 (by omega) (by omega)]
      have := bor_u8 (x := n % 128) (y := 128) (by omega) (by omega)
      rw [or128 (by omega)] at this
      rw [show (128 : Int) = ((128 : Nat) : Int) by rfl, this]
      omega
    have e3 : shrI .u64 (n : Int) 7 = (vVal (d :: r) : Int) := by
      unfold shrI
      rw [show min (7 : Int).toNat IntKind.u64.bits = 7 by rfl, show ((2 : Int) ^ 7) = 128 by rfl, Int.fdiv_eq_ediv_of_nonneg _ (by omega)]
      omega
    simp only [List.length_cons] at hw hf
    rw [e2, byte_eq N c w (by omega), pCall_s, e3]
    have := enc_go N (d :: r) (w ++ [c]) fuel h4 (by simp only [List.length_cons]; omega) (by simp only [List.length_append, List.length_cons, List.length_nil]; omega) (by omega)
    rw [this]
    simp
theorem enc_eq (N : Nat) (ch : List Nat) (hv : vFit ch) (hf : ch.length < N) (hl : ch.length ≤ 100000) (h64 : vVal ch < 2 ^ 64) : p_wire_Writer_Uint N (vVal ch : Int) [] = some (ints ch) := by
  unfold p_wire_Writer_Uint
  exact enc_go N ch [] N hv hf (by simpa using hl) h64
theorem ofInt_nat64 (x : Nat) : BitVec.ofInt 64 (x : Int) = BitVec.ofNat 64 x := by simp
theorem bxor_u64 {x y : Nat} (hx : x < 2 ^ 64) (hy : y < 2 ^ 64) : bxor .u64 (x : Int) (y : Int) = ((x ^^^ y : Nat) : Int) := by
  unfold bxor
  show IntKind.u64.wrap ((BitVec.ofInt 64 (x : Int) ^^^ BitVec.ofInt 64 (y : Int)).toNat : Int) = _
  rw [ofInt_nat64, ofInt_nat64, BitVec.toNat_xor, BitVec.toNat_ofNat, BitVec.toNat_ofNat, Nat.mod_eq_of_lt hx, Nat.mod_eq_of_lt hy]
  have := Nat.xor_lt_two_pow hx hy
  exact wr_u64 (by omega) (by omega)
theorem xor_ones {x : Nat} (hx : x < 2 ^ 64) : x ^^^ (2 ^ 64 - 1) = 2 ^ 64 - 1 - x := by
  have h := BitVec.xor_allOnes (x := BitVec.ofNat 64 x)
  have h2 := congrArg BitVec.toNat h
  rw [BitVec.toNat_xor, BitVec.toNat_allOnes, BitVec.toNat_ofNat, Nat.mod_eq_of_lt hx, BitVec.toNat_not, BitVec.toNat_ofNat, Nat.mod_eq_of_lt hx] at h2
  exact h2
theorem bxor_i64_0 {k : Nat} (hk : k < 2 ^ 63) : bxor .i64 (k : Int) 0 = (k : Int) := by
  unfold bxor
  show IntKind.i64.wrap ((BitVec.ofInt 64 (k : Int) ^^^ BitVec.ofInt 64 ((0 : Nat) : Int)).toNat : Int) = _
  rw [ofInt_nat64, ofInt_nat64, BitVec.toNat_xor, BitVec.toNat_ofNat, BitVec.toNat_ofNat, Nat.mod_eq_of_lt (by omega)]
  rw [show k ^^^ 0 % 2 ^ 64 = k by simp]
  exact wr_i64 (by omega) (by omega)
theorem bxor_i64_m {k : Nat} (hk : k < 2 ^ 63) : bxor .i64 (k : Int) (-1) = -(k : Int) - 1 := by
  unfold bxor
  show IntKind.i64.wrap ((BitVec.ofInt 64 (k : Int) ^^^ BitVec.ofInt 64 (-1)).toNat : Int) = _
  rw [ofInt_nat64, show BitVec.ofInt 64 (-1) = BitVec.allOnes 64 by decide, BitVec.xor_allOnes, BitVec.toNat_not, BitVec.toNat_ofNat, Nat.mod_eq_of_lt (by omega)]
  have e : ((2 ^ 64 - 1 - k : Nat) : Int) = 18446744073709551615 - (k : Int) := by omega
  rw [e]
  have h : IntKind.i64.wrap (18446744073709551615 - (k : Int)) = IntKind.i64.wrap (-(k : Int) - 1) := by
    unfold IntKind.wrap
    have h2 : (18446744073709551615 - (k : Int)) % 2 ^ IntKind.i64.bits = (-(k : Int) - 1) % 2 ^ IntKind.i64.bits := by
      show (18446744073709551615 - (k : Int)) % 18446744073709551616 = (-(k : Int) - 1) % 18446744073709551616
      omega
    rw [h2]
  rw [h]
  exact wr_i64 (by omega) (by omega)
def zag (n : Int) : Int := bxor .i64 (wr .i64 (shrI .u64 n 1)) (wr .i64 (0 - (wr .i64 (band .u64 n 1))))
def zig (m : Int) : Int := bxor .u64 (shlI .u64 (wr .u64 m) 1) (wr .u64 (shrI .i64 m 63))
theorem zig_zag {n : Nat} (hn : n < 2 ^ 64) : zig (zag (n : Int)) = (n : Int) := by
  have e1 : shrI .u64 (n : Int) 1 = ((n / 2 : Nat) : Int) := by
    unfold shrI
    rw [show min (1 : Int).toNat IntKind.u64.bits = 1 by rfl, show ((2 : Int) ^ 1) = 2 by rfl, Int.fdiv_eq_ediv_of_nonneg _ (by omega)]
    omega
  have e2 : band .u64 (n : Int) 1 = ((n % 2 : Nat) : Int) := by
    have := band_u64 (x := n) (y := 1) hn (by omega)
    rw [Nat.and_one_is_mod] at this
    exact this
  have e3 : wr .i64 ((n / 2 : Nat) : Int) = ((n / 2 : Nat) : Int) := wr_i64 (by omega) (by omega)
  have e4 : wr .i64 ((n % 2 : Nat) : Int) = ((n % 2 : Nat) : Int) := wr_i64 (by omega) (by omega)
  have e5 : wr .i64 (0 - ((n % 2 : Nat) : Int)) = 0 - ((n % 2 : Nat) : Int) := wr_i64 (by omega) (by omega)
  unfold zag
  rw [e1, e2, e3, e4, e5]
  rcases Nat.mod_two_eq_zero_or_one n with h | h
  · rw [h, show (0 : Int) - ((0 : Nat) : Int) = 0 by rfl, bxor_i64_0 (by omega)]
    unfold zig
    have f1 : shlI .u64 (wr .u64 ((n / 2 : Nat) : Int)) 1 = (n : Int) := by
      rw [wr_u64 (by omega) (by omega)]
      have := shl_u64 (x := n / 2) (s := 1) (by omega) (by omega)
      rw [show (1 : Int) = ((1 : Nat) : Int) by rfl, this]
      omega
    have f2 : shrI .i64 ((n / 2 : Nat) : Int) 63 = 0 := by
      unfold shrI
      rw [show min (63 : Int).toNat IntKind.i64.bits = 63 by rfl, Int.fdiv_eq_ediv_of_nonneg _ (by decide)]
      rw [show ((2 : Int) ^ 63) = 9223372036854775808 by rfl]
      omega
    rw [f1, f2, show wr .u64 0 = ((0 : Nat) : Int) by rfl, bxor_u64 hn (by omega), Nat.xor_zero]
  · rw [h, show (0 : Int) - ((1 : Nat) : Int) = -1 by rfl, bxor_i64_m (by omega)]
    unfold zig
    have f1 : shlI .u64 (wr .u64 (-((n / 2 : Nat) : Int) - 1)) 1 = ((2 ^ 64 - 1 - n : Nat) : Int) := by
      unfold shlI
      rw [show min (1 : Int).toNat IntKind.u64.bits = 1 by rfl, show ((2 : Int) ^ 1) = 2 by rfl]
      show wr .u64 _ = _
      rw [wr_u64_mod, wr_u64_mod]
      omega
    have f2 : shrI .i64 (-((n / 2 : Nat) : Int) - 1) 63 = -1 := by
      unfold shrI
      rw [show min (63 : Int).toNat IntKind.i64.bits = 63 by rfl, Int.fdiv_eq_ediv_of_nonneg _ (by decide)]
      rw [show ((2 : Int) ^ 63) = 9223372036854775808 by rfl]
      omega
    rw [f1, f2, show wr .u64 (-1) = ((2 ^ 64 - 1 : Nat) : Int) by rfl, bxor_u64 (by omega) (by omega), xor_ones (by omega)]
    omega
end Go.Y
namespace Go.Y
open Go
theorem lays_ok : avermentlaw02_lays 40 = some true := by kernel_rfl
theorem clone_eq (N : Nat) (bs : List Nat) (hl : bs.length ≤ 100000) : slices_Clone_byte_byte N (ints bs) = some (ints bs) := by
  have h : pCk (room 1 (len ([] ++ ints bs))) (some ([] ++ ints bs)) = some (ints bs) := by
    rw [room_of (by simp [ints_len]; omega) (by simp [ints_len]; omega), pCk_t]; rfl
  unfold slices_Clone_byte_byte
  rw [h]
  cases bs with
  | nil =>
    show pBoth _ _ = _
    unfold pBoth
    exact if_pos rfl
  | cons c r => rfl
theorem read_eq (N : Nat) (bs : List Nat) (hl : bs.length ≤ 100000) : wire_Read N (ints bs) = some (ints bs, 0) := by
  unfold wire_Read
  rw [clone_eq N bs hl]; rfl
theorem uint_eq (N : Nat) (hN : 10 < N) (bs : List Nat) (hb : ∀ x ∈ bs, x < 256) (hl : bs.length ≤ 100000) :
    (∃ e : Err, errNil e = false ∧ p_wire_Reader_Uint N 18446744073709551615 (ints bs) 0 = some (0, e, ints bs, 0)) ∨
    ∃ ch rest, bs = ch ++ rest ∧ vFit ch ∧ ch.length ≤ 10 ∧ vVal ch < 2 ^ 64 ∧ p_wire_Reader_Uint N 18446744073709551615 (ints bs) 0 = some ((vVal ch : Int), Err.nil, ints bs, (ch.length : Int)) := by
  have err : ∀ e : Int, (e = 2 ∨ e = 3 ∨ e = 4) → p_wire_Reader_look N 18446744073709551615 (ints bs) 0 = some (0, 0, e, ints bs, 0) → ∃ e : Err, errNil e = false ∧ p_wire_Reader_Uint N 18446744073709551615 (ints bs) 0 = some (0, e, ints bs, 0) := by
    intro e he h
    unfold p_wire_Reader_Uint
    rw [h]
    rcases he with rfl | rfl | rfl <;> exact ⟨_, rfl, rfl⟩
  have hg := look_go N (fun x0 => some (0, 0, 3, x0.1, x0.2)) (fun x0 => some x0) bs hb hl 10 0 0 N (by omega) rfl hN (by decide)
  have hlk : p_wire_Reader_look N 18446744073709551615 (ints bs) 0 = p_wire_Reader_look_l4 N (fun x0 => some (0, 0, 3, x0.1, x0.2)) (fun x0 => some x0) N 18446744073709551615 ((0 : Nat) : Int) ((0 : Nat) : Int) (ints bs) 0 := rfl
  rw [← hlk] at hg
  rcases hg with h | ⟨e, he, h⟩ | ⟨ch, rest, h1, h2, _, h4, h5, h6⟩
  · exact .inl (err 3 (.inr (.inl rfl)) h)
  · exact .inl (err e he h)
  · refine .inr ⟨ch, rest, by simpa using h1, h2, by omega, by simpa using h5, ?_⟩
    unfold p_wire_Reader_Uint
    rw [h6]
    simp only [Nat.pow_zero, Nat.one_mul, Nat.zero_add, pCall_s, decide_true, Bool.not_true, pIf_f]
    rw [Int.zero_add, wr_i64 (by omega) (by omega)]
theorem int_of {N : Nat} {bs : List Nat} {n : Int} {e : Err} {k : Int} (h : p_wire_Reader_Uint N 18446744073709551615 (ints bs) 0 = some (n, e, ints bs, k)) : p_wire_Reader_Int N (ints bs) 0 = some (zag n, e, ints bs, k) := by
  unfold p_wire_Reader_Int
  rw [h]; rfl
theorem sub_eq {bs : List Nat} {n : Nat} : sub (ints bs) 0 (n : Int) = ints (bs.take n) := by
  simp [sub, ints, List.map_take]
theorem bytes_of {l : List Int} (h : ∀ x ∈ l, 0 ≤ x ∧ x ≤ 255) : ∃ bs : List Nat, l = ints bs ∧ ∀ x ∈ bs, x < 256 := by
  refine ⟨l.map Int.toNat, ?_, ?_⟩
  · rw [ints, List.map_map]
    conv => lhs; rw [← List.map_id l]
    refine List.map_congr_left fun x hx => ?_
    have := h x hx
    simp only [id, Function.comp]
    omega
  · intro x hx
    obtain ⟨y, hy, rfl⟩ := List.mem_map.1 hx
    have := h y hy
    omega
theorem WireOnce_plain {by_ : TypeId → Nat} {e : TypeId} (b0 : List Int) (h : Wf by_ (.sl e (.int .u8)) b0) : ∃ N, avermentlaw02_WireOnce N b0 = some true := by
  obtain ⟨bs0, rfl, hb0⟩ := bytes_of (l := b0) fun x hx => wf_u8 (h.2 x hx)
  obtain ⟨m, hm, hm1, hm2⟩ : ∃ m : Nat, mnI (len (ints bs0)) 20 = (m : Int) ∧ m ≤ bs0.length ∧ m ≤ 20 := by
    refine ⟨min bs0.length 20, ?_, by omega, by omega⟩
    unfold mnI
    rw [len_, ints_len]
    cases hd : decide ((20 : Int) < (bs0.length : Int)) with
    | true => have := of_decide_eq_true hd; simp only; omega
    | false => have := of_decide_eq_false hd; simp only; omega
  refine ⟨40, ?_⟩
  generalize hbs : bs0.take m = bs
  have hlb : bs.length ≤ 20 := by rw [← hbs, List.length_take]; omega
  have hb : ∀ x ∈ bs, x < 256 := by rw [← hbs]; exact fun x hx => hb0 x (List.mem_of_mem_take hx)
  unfold avermentlaw02_WireOnce
  simp only [hm]
  rw [show (decide (0 ≤ (m : Int)) && decide ((m : Int) ≤ len (ints bs0))) = true by rw [len_, ints_len]; simp; omega, pCk_t]
  rw [show (decide ((0 : Nat) ≤ 0) && decide (0 ≤ (m : Int))) = true by simp, pCk_t]
  rw [sub_eq, hbs, read_eq 40 bs (by omega)]
  simp only [pCall_s, lays_ok]
  rcases uint_eq 40 (by omega) bs hb (by omega) with ⟨er, he, hu⟩ | ⟨ch, rest, h1, h2, h3, h4, hu⟩
  · rw [hu, int_of hu]
    simp only [pCall_s, pLet_, he]
    rfl
  · have hch : bs.take ch.length = ch := by rw [h1]; simp
    have henc := enc_eq 40 ch h2 (by omega) (by omega) h4
    have hint : p_wire_Writer_Int 40 (zag (vVal ch : Int)) [] = some (ints ch) := by
      have : p_wire_Writer_Int 40 (zag (vVal ch : Int)) [] = pCall (p_wire_Writer_Uint 40 (zig (zag (vVal ch : Int))) []) fun x0 => some x0 := rfl
      rw [this, zig_zag h4, henc]; rfl
    have hby : p_wire_Writer_Bytes 40 (ints ch) = some (ints ch, ints ch) := by
      unfold p_wire_Writer_Bytes
      rw [clone_eq 40 ch (by omega)]; rfl
    have hat : p_wire_Reader_At 40 (ints bs) (ch.length : Int) = some ((ch.length : Int), ints bs, (ch.length : Int)) := rfl
    have hnew : wire_New 40 = some [] := rfl
    have hle : ch.length ≤ bs.length := by rw [h1]; simp
    rw [hu, int_of hu]
    simp only [pCall_s, pLet_, hnew, henc, hint, hby, hat, sub_eq, hch, len_, ints_len]
    rw [show pick (!true) true (!(errNil Err.nil == errNil Err.nil)) = false by rfl, pIf_f, show (!errNil Err.nil) = false by rfl, pIf_f]
    rw [show (decide (0 ≤ (ch.length : Int)) && decide ((ch.length : Int) ≤ (bs.length : Int))) = true by simp; omega, pCk_t]
    rw [show (decide ((0 : Nat) ≤ 0) && decide (0 ≤ (ch.length : Int))) = true by simp, pCk_t]
    simp only [decide_true, pIf_t, Bool.not_true, Bool.false_or, pCk_t, pick_t]
end Go.Y
namespace Go.Y
open Go
theorem mn_bs {bs : List Nat} (k : Nat) : ∃ m : Nat, mnI (len (ints bs)) (k : Int) = (m : Int) ∧ m ≤ bs.length ∧ m ≤ k := by
  refine ⟨min bs.length k, ?_, by omega, by omega⟩
  unfold mnI
  rw [len_, ints_len]
  cases hd : decide ((k : Int) < (bs.length : Int)) with
  | true => have := of_decide_eq_true hd; simp only; omega
  | false => have := of_decide_eq_false hd; simp only; omega
theorem setI_len {α : Type} (xs : List α) (i : Int) (v : α) : (setI xs i v).length = xs.length := by simp [setI]
theorem apart1 (N : Nat) (k0 : (List UInt8) × (List Int) × (List Int) × Int → Option Bool) (was : List UInt8) (w r0 : List Int) (r1 : Int) : ∀ (m i fuel : Nat) (b : List Int), i + m = b.length → m < fuel → b.length ≤ 1000 →
    avermentlaw02_WireApart_l8 N k0 fuel was (i : Int) b w r0 r1 = k0 (was, w, r0, r1) := by
  intro m
  induction m with
  | zero =>
    intro i fuel b h hf hl
    obtain ⟨fuel, rfl⟩ : ∃ f, fuel = f + 1 := ⟨fuel - 1, by omega⟩
    simp only [avermentlaw02_WireApart_l8]
    rw [show decide ((i : Int) < len b) = false by rw [len_]; simp; omega, pIf_f]
  | succ m ih =>
    intro i fuel b h hf hl
    obtain ⟨fuel, rfl⟩ : ∃ f, fuel = f + 1 := ⟨fuel - 1, by omega⟩
    have hi : i < b.length := by omega
    simp only [avermentlaw02_WireApart_l8]
    rw [show decide ((i : Int) < len b) = true by rw [len_]; simp; omega, pIf_t, show (decide (0 ≤ (i : Int)) && true) = true by simp, pCk_t, pIdx_lt hi, pCk_t, pIdx_lt hi, wr_succ hi (by omega)]
    exact ih (i + 1) fuel _ (by rw [setI_len]; omega) (by omega) (by rw [setI_len]; exact hl)
theorem apart2 (N : Nat) (k0 : (List UInt8) × List Int → Option Bool) (was : List UInt8) (w : List Int) : ∀ (m i fuel : Nat) (b : List Int), i + m = b.length → m < fuel → b.length ≤ 1000 →
    avermentlaw02_WireApart_l16 N k0 fuel was (i : Int) w b = k0 (was, w) := by
  intro m
  induction m with
  | zero =>
    intro i fuel b h hf hl
    obtain ⟨fuel, rfl⟩ : ∃ f, fuel = f + 1 := ⟨fuel - 1, by omega⟩
    simp only [avermentlaw02_WireApart_l16]
    rw [show decide ((i : Int) < len b) = false by rw [len_]; simp; omega, pIf_f]
  | succ m ih =>
    intro i fuel b h hf hl
    obtain ⟨fuel, rfl⟩ : ∃ f, fuel = f + 1 := ⟨fuel - 1, by omega⟩
    have hi : i < b.length := by omega
    simp only [avermentlaw02_WireApart_l16]
    rw [show decide ((i : Int) < len b) = true by rw [len_]; simp; omega, pIf_t, show (decide (0 ≤ (i : Int)) && true) = true by simp, pCk_t, pIdx_lt hi, pCk_t, pIdx_lt hi, wr_succ hi (by omega)]
    exact ih (i + 1) fuel _ (by rw [setI_len]; omega) (by omega) (by rw [setI_len]; exact hl)
theorem raw_all (N : Nat) (bs : List Nat) (hl : bs.length ≤ 1000) : p_wire_Reader_Raw N (bs.length : Int) (ints bs) 0 = some (ints bs, Err.nil, ints bs, (bs.length : Int)) := by
  unfold p_wire_Reader_Raw
  have h1 : p_wire_Reader_Left N (ints bs) 0 = some ((bs.length : Int), ints bs, 0) := by
    unfold p_wire_Reader_Left
    rw [len_, ints_len, Int.sub_zero, wr_i64 (by omega) (by omega)]
  rw [show decide ((bs.length : Int) < 0) = false by simp]
  simp only [pLet_, pick_f, pIf_f, h1, pCall_s]
  have h2 : wr .i64 (0 + (bs.length : Int)) = (bs.length : Int) := by rw [Int.zero_add]; exact wr_i64 (by omega) (by omega)
  have h3 : wr .i64 ((bs.length : Int) - (bs.length : Int)) = 0 := by rw [Int.sub_self]; exact wr_i64 (by omega) (by omega)
  rw [show decide ((bs.length : Int) < (bs.length : Int)) = false by simp, pIf_f]
  simp only [h2, h3, len_, ints_len]
  rw [show (decide (0 ≤ (bs.length : Int)) && decide ((bs.length : Int) ≤ (bs.length : Int))) = true by simp, pCk_t,
    show (decide ((0 : Int) ≤ 0) && decide (0 ≤ (bs.length : Int))) = true by simp, pCk_t]
  have h4 : sub (ints bs) 0 (bs.length : Int) = ints bs := by rw [sub_eq, List.take_length]
  rw [h4, clone_eq N bs (by omega)]
  rfl
theorem toStr_app (a b : List Int) : toStr (a ++ b) = toStr a ++ toStr b := by simp [toStr]
theorem WireApart_plain {by_ : TypeId → Nat} {e : TypeId} (b0 : List Int) (h : Wf by_ (.sl e (.int .u8)) b0) : ∃ N, avermentlaw02_WireApart N b0 = some true := by
  obtain ⟨bs0, rfl, hb0⟩ := bytes_of (l := b0) fun x hx => wf_u8 (h.2 x hx)
  obtain ⟨m, hm, hm1, hm2⟩ := mn_bs (bs := bs0) 40
  have hm : mnI (len (ints bs0)) 40 = (m : Int) := hm
  refine ⟨100, ?_⟩
  have hlays : avermentlaw02_lays 100 = some true := by kernel_rfl
  generalize hbs : bs0.take m = bs
  have hlb : bs.length ≤ 40 := by rw [← hbs, List.length_take]; omega
  unfold avermentlaw02_WireApart
  simp only [hm]
  rw [show (decide (0 ≤ (m : Int)) && decide ((m : Int) ≤ len (ints bs0))) = true by rw [len_, ints_len]; simp; omega, pCk_t]
  rw [show (decide ((0 : Nat) ≤ 0) && decide (0 ≤ (m : Int))) = true by simp, pCk_t]
  rw [sub_eq, hbs]
  simp only [List.nil_append]
  rw [room_of (by simp [ints_len]; omega) (by simp [ints_len]; omega), pCk_t]
  have hnew : wire_New 100 = some [] := rfl
  have hraw : p_wire_Writer_Raw 100 [] (ints bs) = some (ints bs, ints bs) := by
    unfold p_wire_Writer_Raw
    simp only [List.nil_append]
    rw [room_of (by simp [ints_len]; omega) (by simp [ints_len]; omega), pCk_t]
  rw [hnew, pCall_s, hraw, pCall_s, read_eq 100 bs (by omega), pCall_s]
  rw [show (0 : Int) = ((0 : Nat) : Int) from rfl, apart1 100 _ _ _ _ _ bs.length 0 100 (ints bs) (by rw [ints_len]; omega) (by omega) (by rw [ints_len]; omega)]
  have hby : ∀ cs : List Nat, cs.length ≤ 100 → p_wire_Writer_Bytes 100 (ints cs) = some (ints cs, ints cs) := fun cs hc => by
    unfold p_wire_Writer_Bytes
    rw [clone_eq 100 cs (by omega)]; rfl
  have hls : len (toStr (ints bs)) = (bs.length : Int) := by rw [len_]; simp [toStr, ints]
  simp only [hby bs (by omega), pCall_s, hls]
  rw [show ((0 : Nat) : Int) = 0 from rfl, raw_all 100 bs (by omega)]
  simp only [pCall_s, pLet_, decide_true, Bool.not_true, pick_f]
  rw [show (!errNil Err.nil) = false from rfl, pick_f, pIf_f]
  rw [show (0 : Int) = ((0 : Nat) : Int) from rfl, apart2 100 _ _ _ bs.length 0 100 (ints bs) (by rw [ints_len]; omega) (by omega) (by rw [ints_len]; omega)]
  have hbyte := byte_eq 100 7 bs (by omega)
  have hbyte : p_wire_Writer_Byte 100 7 (ints bs) = some (ints (bs ++ [7])) := hbyte
  rw [hbyte]
  simp only [pCall_s, hlays, pIf_t, hby (bs ++ [7]) (by simp; omega)]
  have hroom : room 1 (len (toStr (ints bs) ++ [7])) = true := room_of (by simp [toStr, ints]; omega) (by simp [toStr, ints]; omega)
  rw [hroom]
  simp only [Bool.or_true, pCk_t, pLet_, pick_t]
  have : toStr (ints (bs ++ [7])) = toStr (ints bs) ++ [7] := by
    rw [show ints (bs ++ [7]) = ints bs ++ [7] by simp [ints], toStr_app]; rfl
  rw [this, decide_eq_true rfl]
end Go.Y
namespace Go.Y
open Go
theorem vEx : ∀ (k n : Nat), n < 128 ^ (k + 1) → ∃ ch, vFit ch ∧ vVal ch = n ∧ ch.length ≤ k + 1
  | 0, n, h => ⟨[n], show n < 128 by simpa using h, by simp only [vVal]; omega, by simp⟩
  | k + 1, n, h => by
    by_cases hn : n < 128
    · exact ⟨[n], hn, by simp only [vVal]; omega, by simp⟩
    · obtain ⟨ch, h1, h2, h3⟩ := vEx k (n / 128) (by rw [Nat.pow_succ] at h; omega)
      cases ch with
      | nil => exact h1.elim
      | cons d r =>
        refine ⟨(n % 128 + 128) :: d :: r, ⟨by omega, by omega, by rw [h2]; omega, h1⟩, ?_, by simp only [List.length_cons] at h3 ⊢; omega⟩
        show (n % 128 + 128) % 128 + 128 * vVal (d :: r) = n
        rw [h2]; omega
theorem vEx64 {n : Nat} (h : n < 2 ^ 64) : ∃ ch, vFit ch ∧ vVal ch = n ∧ ch.length ≤ 10 := vEx 9 n (by omega)
theorem vFit_byte : ∀ {ch : List Nat}, vFit ch → ∀ x ∈ ch, x < 256
  | [], h, _, _ => h.elim
  | [c], h, x, hx => by
    simp only [List.mem_singleton] at hx; subst hx
    have : x < 128 := h
    omega
  | c :: d :: r, h, x, hx => by
    rcases List.mem_cons.1 hx with rfl | hx
    · exact h.2.1
    · exact vFit_byte (ch := d :: r) h.2.2.2 x hx
theorem vFit_take : ∀ {ch : List Nat}, vFit ch → ∀ k, k < ch.length → ∀ x ∈ ch.take k, 128 ≤ x ∧ x < 256
  | [], h, _, _, _, _ => h.elim
  | [c], h, k, hk, x, hx => by
    have : k = 0 := by simp only [List.length_singleton] at hk; omega
    subst this; simp at hx
  | c :: d :: r, h, k, hk, x, hx => by
    cases k with
    | zero => simp at hx
    | succ k =>
      rw [List.take_succ_cons] at hx
      rcases List.mem_cons.1 hx with rfl | hx
      · exact ⟨h.1, h.2.1⟩
      · exact vFit_take (ch := d :: r) h.2.2.2 k (by simp only [List.length_cons] at hk ⊢; omega) x hx
variable (N : Nat) (k0 : (List Int) × Int → Option (Int × Int × Int × (List Int) × Int)) (k1 : Int × Int × Int × (List Int) × Int → Option (Int × Int × Int × (List Int) × Int))
theorem hd_of {bs : List Nat} {j c : Nat} {r : List Nat} (h : bs.drop j = c :: r) : bs[j]? = some c ∧ bs.drop (j + 1) = r ∧ j < bs.length := by
  have hj : j < bs.length := by
    have := congrArg List.length h
    simp only [List.length_drop, List.length_cons] at this
    omega
  rw [List.drop_eq_getElem_cons hj, List.cons.injEq] at h
  exact ⟨by rw [List.getElem?_eq_getElem hj, h.1], h.2, hj⟩
theorem look_val (bs : List Nat) (at_ most : Nat) (hl : bs.length ≤ 100000) : ∀ (ch rest : List Nat) (i a fuel : Nat), bs.drop (at_ + i) = ch ++ rest → vFit ch → (0 < i → 0 < vVal ch) → i + ch.length ≤ 10 → a < 128 ^ i → a + 128 ^ i * vVal ch < 2 ^ 64 →
    a + 128 ^ i * vVal ch ≤ most → ch.length < fuel → p_wire_Reader_look_l4 N k0 k1 fuel (most : Int) (a : Int) (i : Int) (ints bs) (at_ : Int) = k1 (((a + 128 ^ i * vVal ch : Nat) : Int), ((i + ch.length : Nat) : Int), 0, ints bs, (at_ : Int)) := by
  intro ch
  induction ch with
  | nil => intro rest i a fuel _ hv; exact hv.elim
  | cons c ch ih =>
    intro rest i a fuel hd hv h0 hi ha h64 hm hf
    obtain ⟨fuel, rfl⟩ : ∃ f, fuel = f + 1 := ⟨fuel - 1, by omega⟩
    simp only [List.length_cons] at hi hf
    obtain ⟨hc, hdr, hil⟩ := hd_of (c := c) (r := ch ++ rest) (by rw [hd]; rfl)
    have hc256 : c < 256 := vFit_byte hv c (by simp)
    have hp : 0 < 128 ^ i := Nat.pow_pos (by omega)
    have hw : wr .i64 ((at_ : Int) + (i : Int)) = ((at_ + i : Nat) : Int) := by rw [wr_i64 (by omega) (by omega)]; omega
    have h9 : i = 9 → c ≤ 1 := by
      intro h9
      subst h9
      have : ch = [] := by cases ch with | nil => rfl | cons d r => simp only [List.length_cons] at hi; omega
      subst this
      have hc1 : c < 128 := hv
      have e : vVal [c] = c := by simp only [vVal]; omega
      rw [e] at h64
      by_cases hc2 : c ≤ 1
      · exact hc2
      · have : 128 ^ 9 * 2 ≤ 128 ^ 9 * c := Nat.mul_le_mul_left _ (by omega)
        omega
    simp only [p_wire_Reader_look_l4]
    rw [show decide ((i : Int) < 10) = true by simp; omega, pIf_t]
    simp only [hw, len_, ints_len]
    rw [show decide (((at_ + i : Nat) : Int) = (bs.length : Int)) = false by simp only [decide_eq_false_iff_not]; omega, pIf_f]
    rw [pIdx_nat (ints_get hc)]
    simp only [pLet_, pick_and]
    rw [show (decide ((i : Int) = 9) && decide (1 < (c : Int))) = false by
      simp only [Bool.and_eq_false_iff, decide_eq_false_iff_not]
      by_cases h : i = 9
      · have := h9 h; right; omega
      · left; omega, pIf_f]
    have h7 : wr .i64 (7 * (i : Int)) = 7 * (i : Int) := wr_i64 (by omega) (by omega)
    rw [show decide (0 ≤ wr .i64 (7 * (i : Int))) = true by rw [h7]; exact decide_eq_true (by omega), pCk_t]
    obtain ⟨hv1, hv2⟩ := step_val ha (by omega) hc256 h9
    simp only [hv2]
    have hb128 : band .u8 (c : Int) 128 = ((c &&& 128 : Nat) : Int) := band_u8 (x := c) (y := 128) hc256 (by omega)
    have e1 : wr .i64 ((i : Int) + 1) = ((i + 1 : Nat) : Int) := wr_succ (m := 10) (by omega) (by omega)
    rw [e1]
    cases ch with
    | nil =>
      have hcc : c < 128 := hv
      have e : vVal [c] = c := by simp only [vVal]; omega
      rw [e] at h0 h64 hm ⊢
      have hval : a + c % 128 * 128 ^ i = a + 128 ^ i * c := by rw [Nat.mod_eq_of_lt hcc, Nat.mul_comm]
      rw [hval]
      rw [show (!decide (band .u8 (c : Int) 128 = 0)) = false by rw [hb128, (and128 hc256).2 hcc]; rfl, pIf_f]
      rw [show (decide ((c : Int) = 0) && decide (0 < (i : Int))) = false by
        simp only [Bool.and_eq_false_iff, decide_eq_false_iff_not]
        by_cases h : 0 < i
        · have := h0 h; left; omega
        · right; omega, pIf_f]
      rw [show decide ((most : Int) < ((a + 128 ^ i * c : Nat) : Int)) = false by simp only [decide_eq_false_iff_not]; omega, pIf_f]
      rfl
    | cons d r =>
      obtain ⟨g1, g2, g3, g4⟩ := hv
      rw [show (!decide (band .u8 (c : Int) 128 = 0)) = true by
        rw [hb128]
        have : ¬ c &&& 128 = 0 := fun h => by have := (and128 hc256).1 h; omega
        simp; omega, pIf_t]
      have hval : a + c % 128 * 128 ^ i + 128 ^ (i + 1) * vVal (d :: r) = a + 128 ^ i * vVal (c :: d :: r) := by
        have : vVal (c :: d :: r) = c % 128 + 128 * vVal (d :: r) := rfl
        rw [this, Nat.pow_succ]; grind
      rw [← hval] at h64 hm ⊢
      rw [ih rest (i + 1) (a + c % 128 * 128 ^ i) fuel (by rw [← Nat.add_assoc]; exact hdr) g4 (fun _ => g3) (by omega) (by
        rw [Nat.pow_succ]
        have : c % 128 * 128 ^ i ≤ 127 * 128 ^ i := Nat.mul_le_mul_right _ (by omega)
        omega) h64 hm (by omega)]
      simp only [List.length_cons]
      rw [show i + 1 + (r.length + 1) = i + (r.length + 1 + 1) by omega]
theorem look_short (bs : List Nat) (at_ : Nat) (most : Int) (hl : bs.length ≤ 100000) : ∀ (m i fuel : Nat) (a : Int), at_ + i + m = bs.length → i + m ≤ 9 → (∀ x ∈ bs.drop (at_ + i), 128 ≤ x ∧ x < 256) → m < fuel →
    p_wire_Reader_look_l4 N k0 k1 fuel most a (i : Int) (ints bs) (at_ : Int) = k1 (0, 0, 2, ints bs, (at_ : Int)) := by
  intro m
  induction m with
  | zero =>
    intro i fuel a h hi hb hf
    obtain ⟨fuel, rfl⟩ : ∃ f, fuel = f + 1 := ⟨fuel - 1, by omega⟩
    have hw : wr .i64 ((at_ : Int) + (i : Int)) = ((at_ + i : Nat) : Int) := by rw [wr_i64 (by omega) (by omega)]; omega
    simp only [p_wire_Reader_look_l4]
    rw [show decide ((i : Int) < 10) = true by simp; omega, pIf_t]
    simp only [hw, len_, ints_len]
    rw [show decide (((at_ + i : Nat) : Int) = (bs.length : Int)) = true by simp only [decide_eq_true_eq]; omega, pIf_t]
  | succ m ih =>
    intro i fuel a h hi hb hf
    obtain ⟨fuel, rfl⟩ : ∃ f, fuel = f + 1 := ⟨fuel - 1, by omega⟩
    have hil : at_ + i < bs.length := by omega
    have hd := List.drop_eq_getElem_cons hil
    generalize hcc : bs[at_ + i] = c at hd
    obtain ⟨hc, hdr, _⟩ := hd_of hd
    obtain ⟨hc1, hc256⟩ := hb c (by rw [hd]; simp)
    have hw : wr .i64 ((at_ : Int) + (i : Int)) = ((at_ + i : Nat) : Int) := by rw [wr_i64 (by omega) (by omega)]; omega
    simp only [p_wire_Reader_look_l4]
    rw [show decide ((i : Int) < 10) = true by simp; omega, pIf_t]
    simp only [hw, len_, ints_len]
    rw [show decide (((at_ + i : Nat) : Int) = (bs.length : Int)) = false by simp only [decide_eq_false_iff_not]; omega, pIf_f]
    rw [pIdx_nat (ints_get hc)]
    simp only [pLet_, pick_and]
    rw [show (decide ((i : Int) = 9) && decide (1 < (c : Int))) = false by
      simp only [Bool.and_eq_false_iff, decide_eq_false_iff_not]
      left; omega, pIf_f]
    have h7 : wr .i64 (7 * (i : Int)) = 7 * (i : Int) := wr_i64 (by omega) (by omega)
    rw [show decide (0 ≤ wr .i64 (7 * (i : Int))) = true by rw [h7]; exact decide_eq_true (by omega), pCk_t]
    have hb128 : band .u8 (c : Int) 128 = ((c &&& 128 : Nat) : Int) := band_u8 (x := c) (y := 128) hc256 (by omega)
    have e1 : wr .i64 ((i : Int) + 1) = ((i + 1 : Nat) : Int) := wr_succ (m := 10) (by omega) (by omega)
    rw [e1]
    rw [show (!decide (band .u8 (c : Int) 128 = 0)) = true by
      rw [hb128]
      have : ¬ c &&& 128 = 0 := fun h => by have := (and128 hc256).1 h; omega
      simp; omega, pIf_t]
    exact ih (i + 1) fuel _ (by omega) (by omega) (fun x hx => hb x (by rw [hd]; refine List.mem_cons_of_mem _ ?_; rw [← hdr, Nat.add_assoc]; exact hx)) (by omega)
end Go.Y
namespace Go.Y
open Go
theorem remI_nat (a : Int) {n : Nat} (hn : 0 < n) (hn2 : n ≤ 100000) : ∃ k : Nat, wr .i64 (remI (wr .u64 a) (n : Int)) = (k : Int) ∧ k < n := by
  have h : remI (wr .u64 a) (n : Int) = (a % 18446744073709551616) % (n : Int) := by
    unfold remI
    rw [wr_u64_mod, Int.tmod_eq_emod_of_nonneg (by omega)]
  have h1 := Int.emod_nonneg (a % 18446744073709551616) (b := (n : Int)) (by omega)
  have h2 := Int.emod_lt_of_pos (a % 18446744073709551616) (b := (n : Int)) (by omega)
  refine ⟨((a % 18446744073709551616) % (n : Int)).toNat, ?_, by omega⟩
  rw [h, wr_i64 (by omega) (by omega)]
  omega
theorem ints_app (a b : List Nat) : ints (a ++ b) = ints a ++ ints b := by simp [ints]
theorem enc_eq' (N : Nat) (ch w : List Nat) (hv : vFit ch) (hf : ch.length < N) (hl : w.length + ch.length ≤ 100000) (h64 : vVal ch < 2 ^ 64) : p_wire_Writer_Uint N (vVal ch : Int) (ints w) = some (ints (w ++ ch)) := by
  unfold p_wire_Writer_Uint
  exact enc_go N ch w N hv hf hl h64
theorem section_eq (N : Nat) (ch bs w : List Nat) (hv : vFit ch) (hc : ch.length ≤ 10) (hN : 10 < N) (hl : w.length + bs.length ≤ 90000) (hch : vVal ch = bs.length) :
    p_wire_Writer_Section N (ints bs) (ints w) = some (ints (w ++ (ch ++ bs))) := by
  unfold p_wire_Writer_Section
  rw [len_, ints_len, wr_u64 (by omega) (by omega), ← hch, enc_eq' N ch w hv (by omega) (by omega) (by omega), pCall_s]
  unfold p_wire_Writer_Raw_v1
  rw [room_of (by simp [ints_len]; omega) (by simp [ints_len]; omega), pCk_t, pCall_s, ← ints_app, List.append_assoc]
theorem bytes_eq (N : Nat) (cs : List Nat) (hc : cs.length ≤ 100000) : p_wire_Writer_Bytes N (ints cs) = some (ints cs, ints cs) := by
  unfold p_wire_Writer_Bytes
  rw [clone_eq N cs hc]; rfl
theorem wrong_eq (N : Nat) (e : Int) (bs : List Int) (at_ : Int) : p_wire_Reader_wrong N e bs at_ = some (Err.at at_ (.no e), bs, at_) := rfl
theorem uint_short (N : Nat) (hN : 100 < N) (bs : List Nat) (most : Int) (hl : bs.length ≤ 9) (hb : ∀ x ∈ bs, 128 ≤ x ∧ x < 256) : p_wire_Reader_Uint N most (ints bs) 0 = some (0, Err.at 0 (.no 2), ints bs, 0) := by
  have h : p_wire_Reader_look N most (ints bs) 0 = some (0, 0, 2, ints bs, 0) :=
    look_short N _ _ bs 0 most (by omega) bs.length 0 N 0 (by omega) (by omega) (by simpa using hb) (by omega)
  unfold p_wire_Reader_Uint
  rw [h]
  rfl
theorem section_short (N : Nat) (hN : 1000 < N) (ch bs : List Nat) (hv : vFit ch) (hc : ch.length ≤ 10) (hch : vVal ch = bs.length) (hl : bs.length ≤ 300) (k : Nat) (hk : k < (ch ++ bs).length) :
    ∃ y b' a', p_wire_Reader_Section N (ints ((ch ++ bs).take k)) 0 = some (false, y, none, Err.at 0 (.no 2), b', a') := by
  unfold p_wire_Reader_Section
  by_cases hk1 : k < ch.length
  · have e : (ch ++ bs).take k = ch.take k := by rw [List.take_append, show k - ch.length = 0 by omega]; simp
    have h : p_wire_Reader_look N 18446744073709551615 (ints ((ch ++ bs).take k)) 0 = some (0, 0, 2, ints ((ch ++ bs).take k), 0) := by
      rw [e]
      exact look_short N _ _ (ch.take k) 0 _ (by simp; omega) (ch.take k).length 0 N 0 (by omega) (by simp; omega) (by simpa using vFit_take hv k hk1) (by simp; omega)
    rw [h]
    exact ⟨_, _, _, rfl⟩
  · have e : (ch ++ bs).take k = ch ++ bs.take (k - ch.length) := by rw [List.take_append, List.take_of_length_le (by omega)]
    have hk2 : k - ch.length < bs.length := by simp only [List.length_append] at hk; omega
    have hlen : ((ch ++ bs).take k).length = k := by rw [List.length_take]; omega
    have h : p_wire_Reader_look N 18446744073709551615 (ints ((ch ++ bs).take k)) 0 = some ((bs.length : Int), (ch.length : Int), 0, ints ((ch ++ bs).take k), 0) := by
      have := look_val N (fun x0 => some (0, 0, 3, x0.1, x0.2)) (fun x0 => some x0) ((ch ++ bs).take k) 0 18446744073709551615 (by simp; omega) ch (bs.take (k - ch.length)) 0 0 N (by rw [e]; rfl) hv (fun h => by omega) (by omega) (by simp) (by rw [hch]; omega) (by rw [hch]; omega) (by omega)
      simp only [Nat.pow_zero, Nat.one_mul, Nat.zero_add, hch] at this
      exact this
    rw [h]
    have hleft : p_wire_Reader_Left N (ints ((ch ++ bs).take k)) 0 = some ((k : Int), ints ((ch ++ bs).take k), 0) := by
      unfold p_wire_Reader_Left
      rw [len_, ints_len, hlen, Int.sub_zero, wr_i64 (by omega) (by omega)]
    simp only [pCall_s, decide_true, Bool.not_true, pIf_f, hleft]
    rw [wr_i64 (n := (k : Int) - (ch.length : Int)) (by omega) (by omega), wr_u64 (by omega) (by omega)]
    rw [show decide ((k : Int) - (ch.length : Int) < (bs.length : Int)) = true by simp only [decide_eq_true_eq]; omega, pIf_t]
    exact ⟨_, _, _, rfl⟩
theorem WireShort_plain {by_ : TypeId → Nat} {e : TypeId} (n0 : Int) (b1 : List Int) (at2 : Int) (h : Wf by_ (.pair (.int .u64) (.pair (.sl e (.int .u8)) (.int .i64))) (n0, b1, at2)) : ∃ N, avermentlaw02_WireShort N n0 b1 at2 = some true := by
  obtain ⟨bs0, rfl, hb0⟩ := bytes_of (l := b1) fun x hx => wf_u8 (h.2.1.2 x hx)
  have hn := wf_u64 h.1
  obtain ⟨n, rfl⟩ := Int.eq_ofNat_of_zero_le hn.1
  obtain ⟨m, hm, hm1, hm2⟩ := mn_bs (bs := bs0) 300
  have hm : mnI (len (ints bs0)) 300 = (m : Int) := hm
  obtain ⟨ch, c1, c2, c3⟩ := vEx64 (n := n) (by omega)
  generalize hbs : bs0.take m = bs
  have hlb : bs.length ≤ 300 := by rw [← hbs, List.length_take]; omega
  obtain ⟨ch2, d1, d2, d3⟩ := vEx64 (n := bs.length) (by omega)
  have hpos : ∀ ch : List Nat, vFit ch → 0 < ch.length := fun ch h => by cases ch with | nil => exact h.elim | cons c r => simp
  have p1 := hpos ch c1
  have p2 := hpos ch2 d1
  refine ⟨2000, ?_⟩
  have hlays : avermentlaw02_lays 2000 = some true := by kernel_rfl
  have hN : 1000 < 2000 := by omega
  revert hlays hN
  generalize 2000 = N
  intro hlays hN
  obtain ⟨k, hk, hk2⟩ := remI_nat at2 (n := ch.length) p1 (by omega)
  obtain ⟨k', hk', hk2'⟩ := remI_nat at2 (n := (ch2 ++ bs).length) (by simp; omega) (by simp; omega)
  have hnew : wire_New N = some [] := rfl
  have hu : p_wire_Writer_Uint N (n : Int) [] = some (ints ch) := by
    have := enc_eq' N ch [] c1 (by omega) (by simp; omega) (by omega)
    rw [c2] at this
    exact this
  have hs : p_wire_Writer_Section N (ints bs) [] = some (ints (ch2 ++ bs)) := section_eq N ch2 bs [] d1 d3 (by omega) (by simp; omega) d2
  unfold avermentlaw02_WireShort
  rw [hnew, pCall_s, pCall_s, hu, pCall_s]
  simp only [hm]
  rw [show (decide (0 ≤ (m : Int)) && decide ((m : Int) ≤ len (ints bs0))) = true by rw [len_, ints_len]; simp; omega, pCk_t]
  rw [show (decide ((0 : Nat) ≤ 0) && decide (0 ≤ (m : Int))) = true by simp, pCk_t]
  rw [sub_eq, hbs, hs, pCall_s, bytes_eq N ch (by omega), pCall_s, bytes_eq N (ch2 ++ bs) (by simp; omega), pCall_s, hlays, pCall_s]
  simp only [pLet_, Bool.not_true, pick_f, len_, ints_len]
  rw [show decide ((ch.length : Int) = 0) = false by simp only [decide_eq_false_iff_not]; omega, pick_f,
    show decide (((ch2 ++ bs).length : Int) = 0) = false by simp only [decide_eq_false_iff_not]; omega, pIf_f]
  rw [wr_u64 (n := (ch.length : Int)) (by omega) (by omega), wr_u64 (n := ((ch2 ++ bs).length : Int)) (by omega) (by simp only [List.length_append]; omega), hk, hk']
  rw [show (!decide ((ch.length : Int) = 0)) = true by simp only [Bool.not_eq_true', decide_eq_false_iff_not]; omega, pCk_t,
    show (decide (0 ≤ (k : Int)) && decide ((k : Int) ≤ (ch.length : Int))) = true by simp; omega, pCk_t,
    show (decide ((0 : Nat) ≤ 0) && decide (0 ≤ (k : Int))) = true by simp, pCk_t, sub_eq, read_eq N _ (by simp; omega), pCall_s]
  rw [uint_short N (by omega) (ch.take k) _ (by simp; omega) (vFit_take c1 k hk2), pCall_s]
  rw [show (!decide (((ch2 ++ bs).length : Int) = 0)) = true by simp only [Bool.not_eq_true', decide_eq_false_iff_not]; omega, pCk_t,
    show (decide (0 ≤ (k' : Int)) && decide ((k' : Int) ≤ ((ch2 ++ bs).length : Int))) = true by simp only [Bool.and_eq_true, decide_eq_true_eq]; omega, pCk_t,
    show (decide ((0 : Nat) ≤ 0) && decide (0 ≤ (k' : Int))) = true by simp, pCk_t, sub_eq, read_eq N _ (by rw [List.length_take]; simp only [List.length_append] at hk2' ⊢; omega), pCall_s]
  obtain ⟨y, b', a', hsec⟩ := section_short N (by omega) ch2 bs d1 d3 d2 hlb k' hk2'
  rw [hsec]
  simp only [pCall_s, pIf_f]
  have hsame : avermentref01_Same N [0] [0] = some true := by
    obtain ⟨M, rfl⟩ : ∃ M, N = M + 3 := ⟨N - 3, by omega⟩
    rfl
  have e1 : fault_Is N (Err.at 0 (.no 2)) 2 = some true := rfl
  have e2 : fault_Path N (Err.at 0 (.no 2)) = some [0] := rfl
  simp only [e1, e2, hsame, pCall_s, pCallG_t, pLet_, pick_t]
end Go.Y
namespace Go.Y
open Go
def zz (m : Int) : Nat := if m < 0 then (-2 * m - 1).toNat else (2 * m).toNat
theorem zz_lt {m : Int} (h0 : -9223372036854775808 ≤ m) (h1 : m ≤ 9223372036854775807) : zz m < 2 ^ 64 := by unfold zz; split <;> omega
theorem zag_even {n : Nat} (hn : n < 2 ^ 64) (h : n % 2 = 0) : zag (n : Int) = ((n / 2 : Nat) : Int) := by
  have e1 : shrI .u64 (n : Int) 1 = ((n / 2 : Nat) : Int) := by
    unfold shrI
    rw [show min (1 : Int).toNat IntKind.u64.bits = 1 by rfl, show ((2 : Int) ^ 1) = 2 by rfl, Int.fdiv_eq_ediv_of_nonneg _ (by omega)]
    omega
  have e2 : band .u64 (n : Int) 1 = ((n % 2 : Nat) : Int) := by
    have := band_u64 (x := n) (y := 1) hn (by omega)
    rw [Nat.and_one_is_mod] at this
    exact this
  unfold zag
  rw [e1, e2, wr_i64 (by omega) (by omega), h]
  rw [show wr .i64 (0 - wr .i64 ((0 : Nat) : Int)) = 0 from rfl, bxor_i64_0 (by omega)]
theorem zag_odd {n : Nat} (hn : n < 2 ^ 64) (h : n % 2 = 1) : zag (n : Int) = -((n / 2 : Nat) : Int) - 1 := by
  have e1 : shrI .u64 (n : Int) 1 = ((n / 2 : Nat) : Int) := by
    unfold shrI
    rw [show min (1 : Int).toNat IntKind.u64.bits = 1 by rfl, show ((2 : Int) ^ 1) = 2 by rfl, Int.fdiv_eq_ediv_of_nonneg _ (by omega)]
    omega
  have e2 : band .u64 (n : Int) 1 = ((n % 2 : Nat) : Int) := by
    have := band_u64 (x := n) (y := 1) hn (by omega)
    rw [Nat.and_one_is_mod] at this
    exact this
  unfold zag
  rw [e1, e2, wr_i64 (n := ((n / 2 : Nat) : Int)) (by omega) (by omega), h]
  rw [show wr .i64 (0 - wr .i64 ((1 : Nat) : Int)) = -1 from rfl, bxor_i64_m (by omega)]
theorem zag_zz {m : Int} (h0 : -9223372036854775808 ≤ m) (h1 : m ≤ 9223372036854775807) : zag (zz m : Int) = m := by
  have hl := zz_lt h0 h1
  by_cases h : m < 0
  · have e : zz m = (-2 * m - 1).toNat := by unfold zz; rw [if_pos h]
    rw [zag_odd hl (by omega)]; omega
  · have e : zz m = (2 * m).toNat := by unfold zz; rw [if_neg h]
    rw [zag_even hl (by omega)]; omega
theorem zig_zz {m : Int} (h0 : -9223372036854775808 ≤ m) (h1 : m ≤ 9223372036854775807) : zig m = (zz m : Int) := by
  have := zig_zag (zz_lt h0 h1)
  rwa [zag_zz h0 h1] at this
theorem refZig_eq (N : Nat) {m : Int} (h0 : -9223372036854775808 ≤ m) (h1 : m ≤ 9223372036854775807) : avermentref02_Zig N m = some (zz m : Int) := by
  unfold avermentref02_Zig
  by_cases h : m < 0
  · rw [decide_eq_true h, pIf_t, wr_i64 (n := m + 1) (by omega) (by omega), wr_i64 (n := 0 - (m + 1)) (by omega) (by omega), wr_u64 (n := 0 - (m + 1)) (by omega) (by omega), wr_u64 (n := 2 * (0 - (m + 1))) (by omega) (by omega), wr_u64 (by omega) (by omega)]
    have e : zz m = (-2 * m - 1).toNat := by unfold zz; rw [if_pos h]
    rw [e]; congr 1; omega
  · rw [decide_eq_false h, pIf_f, wr_u64 (n := m) (by omega) (by omega), wr_u64 (by omega) (by omega)]
    have e : zz m = (2 * m).toNat := by unfold zz; rw [if_neg h]
    rw [e]; congr 1; omega
theorem recF_succ {A B : Type} (Fb : (Nat → A → Option B) → Nat → A → Option B) (m : Nat) : recF Fb (m + 1) = Fb (recF Fb m) := rfl
theorem refUint_f (self : Nat → Int → Option (List Int)) (N : Nat) (x : Int) : avermentref02_Uint_f self N x = pIf (decide (x < 128)) (some [wr .u8 x]) (pCall (self N (quoI .u64 x 128)) fun x0 =>
    pCk (room 1 (len ([(wr .u8 ((wr .u8 (remI x 128)) + 128))] ++ x0))) (some ([(wr .u8 ((wr .u8 (remI x 128)) + 128))] ++ x0))) := rfl
theorem refUint_rec (N : Nat) : ∀ (ch : List Nat) (m : Nat), vFit ch → vVal ch < 2 ^ 64 → ch.length ≤ 10 → ch.length ≤ m → recF avermentref02_Uint_f m N (vVal ch : Int) = some (ints ch)
  | [], m, hv, _, _, _ => hv.elim
  | [c], m, hv, h64, hl, hm => by
    obtain ⟨m, rfl⟩ : ∃ f, m = f + 1 := ⟨m - 1, by simp only [List.length_singleton] at hm; omega⟩
    have hc : c < 128 := hv
    have e : vVal [c] = c := by simp only [vVal]; omega
    rw [e]
    rw [recF_succ, refUint_f]
    rw [show decide ((c : Int) < 128) = true by simp only [decide_eq_true_eq]; omega, pIf_t, wr_u8 (by omega) (by omega)]
    rfl
  | c :: d :: r, m, hv, h64, hl, hm => by
    obtain ⟨m, rfl⟩ : ∃ f, m = f + 1 := ⟨m - 1, by simp only [List.length_cons] at hm; omega⟩
    obtain ⟨h1, h2, h3, h4⟩ := hv
    have e : vVal (c :: d :: r) = c % 128 + 128 * vVal (d :: r) := rfl
    generalize hn : vVal (c :: d :: r) = n at *
    rw [recF_succ, refUint_f]
    rw [show decide ((n : Int) < 128) = false by simp only [decide_eq_false_iff_not]; omega, pIf_f]
    have q : quoI .u64 (n : Int) 128 = (vVal (d :: r) : Int) := by
      show wr .u64 (Int.tdiv (n : Int) 128) = _
      rw [Int.tdiv_eq_ediv_of_nonneg (by omega), wr_u64 (by omega) (by omega)]
      omega
    have rm : remI (n : Int) 128 = ((n % 128 : Nat) : Int) := by
      unfold remI
      rw [Int.tmod_eq_emod_of_nonneg (by omega)]
      omega
    simp only [List.length_cons] at hl hm
    have ih := refUint_rec N (d :: r) m h4 (by omega) (by simp only [List.length_cons]; omega) (by simp only [List.length_cons]; omega)
    rw [q, ih, pCall_s, rm, wr_u8 (n := ((n % 128 : Nat) : Int)) (by omega) (by omega), wr_u8 (by omega) (by omega)]
    rw [room_of (by simp [ints_len]; omega) (by simp [ints_len]; omega), pCk_t]
    have : ((n % 128 : Nat) : Int) + 128 = (c : Int) := by omega
    rw [this]; rfl
theorem refUint_eq (N : Nat) (hN : 10 ≤ N) (ch : List Nat) (hv : vFit ch) (h64 : vVal ch < 2 ^ 64) (hl : ch.length ≤ 10) : avermentref02_Uint N (vVal ch : Int) = some (ints ch) := by
  unfold avermentref02_Uint
  exact refUint_rec N ch N hv h64 hl (by omega)
theorem sub_eq2 {bs : List Nat} {a n : Nat} : sub (ints bs) (a : Int) ((a + n : Nat) : Int) = ints ((bs.drop a).take n) := by
  simp only [sub, ints, Int.toNat_natCast, ← List.map_take, ← List.map_drop]
  rw [List.drop_take, Nat.add_sub_cancel_left]
theorem left_eq (N : Nat) (bs : List Nat) (a : Nat) (hl : bs.length ≤ 100000) (ha : a ≤ bs.length) : p_wire_Reader_Left N (ints bs) (a : Int) = some (((bs.length - a : Nat) : Int), ints bs, (a : Int)) := by
  unfold p_wire_Reader_Left
  rw [len_, ints_len, wr_i64 (by omega) (by omega)]
  congr 2
  omega
theorem raw_eq (N : Nat) (bs : List Nat) (a n : Nat) (hl : bs.length ≤ 100000) (ha : a + n ≤ bs.length) : p_wire_Reader_Raw N (n : Int) (ints bs) (a : Int) = some (ints ((bs.drop a).take n), Err.nil, ints bs, ((a + n : Nat) : Int)) := by
  unfold p_wire_Reader_Raw
  rw [show decide ((n : Int) < 0) = false by simp only [decide_eq_false_iff_not]; omega]
  simp only [pLet_, pick_f, pIf_f, left_eq N bs a hl (by omega), pCall_s]
  have h2 : wr .i64 ((a : Int) + (n : Int)) = ((a + n : Nat) : Int) := by rw [wr_i64 (by omega) (by omega)]; omega
  have h3 : wr .i64 (((a + n : Nat) : Int) - (n : Int)) = (a : Int) := by rw [wr_i64 (by omega) (by omega)]; omega
  rw [show decide (((bs.length - a : Nat) : Int) < (n : Int)) = false by simp only [decide_eq_false_iff_not]; omega, pIf_f]
  simp only [h2, h3, len_, ints_len]
  rw [show (decide (0 ≤ ((a + n : Nat) : Int)) && decide (((a + n : Nat) : Int) ≤ (bs.length : Int))) = true by simp only [Bool.and_eq_true, decide_eq_true_eq]; omega, pCk_t,
    show (decide (0 ≤ (a : Int)) && decide ((a : Int) ≤ ((a + n : Nat) : Int))) = true by simp only [Bool.and_eq_true, decide_eq_true_eq]; omega, pCk_t]
  rw [sub_eq2, clone_eq N _ (by rw [List.length_take, List.length_drop]; omega)]
  rfl
theorem uint_val (N : Nat) (hN : 100 < N) (bs ch rest : List Nat) (a most : Nat) (hl : bs.length ≤ 100000) (hd : bs.drop a = ch ++ rest) (hv : vFit ch) (hc : ch.length ≤ 10) (h64 : vVal ch < 2 ^ 64) (hm : vVal ch ≤ most) :
    p_wire_Reader_look N (most : Int) (ints bs) (a : Int) = some ((vVal ch : Int), (ch.length : Int), 0, ints bs, (a : Int)) ∧ p_wire_Reader_Uint N (most : Int) (ints bs) (a : Int) = some ((vVal ch : Int), Err.nil, ints bs, ((a + ch.length : Nat) : Int)) := by
  have h : p_wire_Reader_look N (most : Int) (ints bs) (a : Int) = some ((vVal ch : Int), (ch.length : Int), 0, ints bs, (a : Int)) := by
    have := look_val N (fun x0 => some (0, 0, 3, x0.1, x0.2)) (fun x0 => some x0) bs a most hl ch rest 0 0 N (by simpa using hd) hv (fun h => by omega) (by omega) (by simp) (by simpa using h64) (by simpa using hm) (by omega)
    simp only [Nat.pow_zero, Nat.one_mul, Nat.zero_add] at this
    exact this
  refine ⟨h, ?_⟩
  unfold p_wire_Reader_Uint
  rw [h]
  simp only [pCall_s, decide_true, Bool.not_true, pIf_f]
  have hab : a ≤ bs.length ∨ bs.length < a := by omega
  have hlen := congrArg List.length hd
  simp only [List.length_drop, List.length_append] at hlen
  have : 0 < ch.length := by cases ch with | nil => exact hv.elim | cons c r => simp
  rw [wr_i64 (by omega) (by omega)]
  rfl
end Go.Y
namespace Go.Y
open Go
structure TOk (N : Nat) (t : Int × Int × List Int) (tb : List Nat) : Prop where
  len : tb.length ≤ 60
  lay : ∀ w : List Nat, w.length ≤ 50000 → avermentlaw02_Thing_lay N t (ints w) = some (ints tb, ints (w ++ tb))
  take : ∀ (bs rest : List Nat) (a : Nat), bs.length ≤ 50000 → a ≤ bs.length → bs.drop a = tb ++ rest → avermentlaw02_Thing_take N t (ints bs) (a : Int) = some (true, ints bs, ((a + tb.length : Nat) : Int))
theorem int_val {N : Nat} {bs : List Nat} {a : Int} {n : Int} {e : Err} {k : Int} (h : p_wire_Reader_Uint N 18446744073709551615 (ints bs) a = some (n, e, ints bs, k)) : p_wire_Reader_Int N (ints bs) a = some (zag n, e, ints bs, k) := by
  unfold p_wire_Reader_Int
  rw [h]; rfl
theorem few_eq (N : Nat) (k n : Int) (bs : List Nat) : ∃ m : Nat, m ≤ 40 ∧ avermentlaw02_Thing_few N (k, n, ints bs) = some (ints (bs.take m)) := by
  obtain ⟨m, hm, hm1, hm2⟩ := mn_bs (bs := bs) 40
  have hm : mnI (len (ints bs)) 40 = (m : Int) := hm
  refine ⟨m, hm2, ?_⟩
  unfold avermentlaw02_Thing_few
  simp only [hm]
  rw [show (decide (0 ≤ (m : Int)) && decide ((m : Int) ≤ len (ints bs))) = true by rw [len_, ints_len]; simp; omega, pCk_t]
  rw [show (decide ((0 : Nat) ≤ 0) && decide (0 ≤ (m : Int))) = true by simp, pCk_t]
  rw [sub_eq, List.nil_append, room_of (by simp [ints_len]; omega) (by simp [ints_len]; omega), pCk_t]
theorem end_eq (N : Nat) (bs : List Nat) (hl : bs.length ≤ 100000) : p_wire_Reader_End N (ints bs) (bs.length : Int) = some (Err.nil, ints bs, (bs.length : Int)) := by
  unfold p_wire_Reader_End
  rw [left_eq N bs bs.length hl (Nat.le_refl _), pCall_s]
  simp only [Nat.sub_self]
  rfl
theorem wr_i64_range (n : Int) : -9223372036854775808 ≤ wr .i64 n ∧ wr .i64 n ≤ 9223372036854775807 := by
  show -9223372036854775808 ≤ (if true && decide (n % (2 ^ 64 : Int) ≥ (2 ^ 63 : Int)) then n % (2 ^ 64 : Int) - (2 ^ 64 : Int) else n % (2 ^ 64 : Int)) ∧ (if true && decide (n % (2 ^ 64 : Int) ≥ (2 ^ 63 : Int)) then n % (2 ^ 64 : Int) - (2 ^ 64 : Int) else n % (2 ^ 64 : Int)) ≤ 9223372036854775807
  simp only [Bool.true_and, decide_eq_true_eq]
  split <;> omega
theorem tok (N : Nat) (hN : 100 < N) (k : Int) (n : Nat) (hn : n < 2 ^ 64) (bs : List Nat) : ∃ tb, TOk N (k, (n : Int), ints bs) tb := by
  by_cases h0 : k = 0
  · subst h0
    refine ⟨[n % 256], by simp, fun w hw => ?_, fun b rest a hb hab hd => ?_⟩
    · unfold avermentlaw02_Thing_lay
      have e : wr .u8 (n : Int) = ((n % 256 : Nat) : Int) := by rw [wr_u8_mod]; omega
      simp only [decide_true, pIf_t, e]
      rw [byte_eq N _ w (by omega), pCall_s]
      rfl
    · unfold avermentlaw02_Thing_take p_wire_Reader_Byte
      obtain ⟨hc, hdr, hil⟩ := hd_of (c := n % 256) (r := rest) (by rw [hd]; rfl)
      have e : wr .u8 (n : Int) = ((n % 256 : Nat) : Int) := by rw [wr_u8_mod]; omega
      simp only [decide_true, pIf_t, len_, ints_len, e]
      rw [show decide ((a : Int) = (b.length : Int)) = false by simp only [decide_eq_false_iff_not]; omega, pIf_f]
      rw [wr_i64 (n := (a : Int) + 1) (by omega) (by omega), wr_i64 (by omega) (by omega), show (a : Int) + 1 - 1 = (a : Int) by omega, pIdx_nat (ints_get hc), pCall_s]
      simp only [pLet_, decide_true, errNil, pick_t]
      rfl
  by_cases h1 : k = 1
  · subst h1
    obtain ⟨ch, c1, c2, c3⟩ := vEx64 hn
    refine ⟨ch, by omega, fun w hw => ?_, fun b rest a hb hab hd => ?_⟩
    · unfold avermentlaw02_Thing_lay
      rw [show decide ((1 : Int) = 0) = false from rfl, pIf_f, show decide ((1 : Int) = 1) = true from rfl, pIf_t]
      simp only
      rw [← c2, enc_eq' N ch w c1 (by omega) (by omega) (by omega), pCall_s, refUint_eq N (by omega) ch c1 (by omega) c3, pCall_s]
    · unfold avermentlaw02_Thing_take
      rw [show decide ((1 : Int) = 0) = false from rfl, pIf_f, show decide ((1 : Int) = 1) = true from rfl, pIf_t]
      simp only
      rw [← c2, (uint_val N hN b ch rest a (vVal ch) (by omega) hd c1 c3 (by omega) (Nat.le_refl _)).2, pCall_s]
      simp only [pLet_, decide_true, errNil, pick_t]
  by_cases h2 : k = 2
  · subst h2
    obtain ⟨hm0, hm1⟩ : -9223372036854775808 ≤ wr .i64 (n : Int) ∧ wr .i64 (n : Int) ≤ 9223372036854775807 := by
      exact wr_i64_range _
    generalize hm : wr .i64 (n : Int) = m at hm0 hm1
    obtain ⟨ch, c1, c2, c3⟩ := vEx64 (zz_lt hm0 hm1)
    have hz := zz_lt hm0 hm1
    refine ⟨ch, by omega, fun w hw => ?_, fun b rest a hb hab hd => ?_⟩
    · unfold avermentlaw02_Thing_lay
      rw [show decide ((2 : Int) = 0) = false from rfl, pIf_f, show decide ((2 : Int) = 1) = false from rfl, pIf_f, show decide ((2 : Int) = 2) = true from rfl, pIf_t]
      simp only [hm]
      have hi : p_wire_Writer_Int N m (ints w) = some (ints (w ++ ch)) := by
        have : p_wire_Writer_Int N m (ints w) = pCall (p_wire_Writer_Uint N (zig m) (ints w)) fun x0 => some x0 := rfl
        rw [this, zig_zz hm0 hm1, ← c2, enc_eq' N ch w c1 (by omega) (by omega) (by omega), pCall_s]
      rw [hi, pCall_s, refZig_eq N hm0 hm1, pCall_s, ← c2, refUint_eq N (by omega) ch c1 (by omega) c3, pCall_s]
    · unfold avermentlaw02_Thing_take
      rw [show decide ((2 : Int) = 0) = false from rfl, pIf_f, show decide ((2 : Int) = 1) = false from rfl, pIf_f, show decide ((2 : Int) = 2) = true from rfl, pIf_t]
      simp only [hm]
      have hu := (uint_val N hN b ch rest a 18446744073709551615 (by omega) hd c1 c3 (by omega) (by omega)).2
      have hu : p_wire_Reader_Uint N 18446744073709551615 (ints b) (a : Int) = some ((vVal ch : Int), Err.nil, ints b, ((a + ch.length : Nat) : Int)) := hu
      rw [int_val hu, pCall_s, c2, zag_zz hm0 hm1]
      simp only [pLet_, decide_true, errNil, pick_t]
  obtain ⟨m, hm, hfew⟩ := few_eq N k (n : Int) bs
  generalize hf : bs.take m = f at hfew
  have hfl : f.length ≤ 40 := by rw [← hf, List.length_take]; omega
  by_cases h3 : k = 3
  · subst h3
    refine ⟨f, by omega, fun w hw => ?_, fun b rest a hb hab hd => ?_⟩
    · unfold avermentlaw02_Thing_lay
      rw [show decide ((3 : Int) = 0) = false from rfl, pIf_f, show decide ((3 : Int) = 1) = false from rfl, pIf_f, show decide ((3 : Int) = 2) = false from rfl, pIf_f, show decide ((3 : Int) = 3) = true from rfl, pIf_t]
      simp only [hfew, pCall_s]
      unfold p_wire_Writer_Raw_v1
      rw [room_of (by simp [ints_len]; omega) (by simp [ints_len]; omega), pCk_t, pCall_s, ← ints_app]
    · have hlen := congrArg List.length hd
      simp only [List.length_drop, List.length_append] at hlen
      unfold avermentlaw02_Thing_take
      rw [show decide ((3 : Int) = 0) = false from rfl, pIf_f, show decide ((3 : Int) = 1) = false from rfl, pIf_f, show decide ((3 : Int) = 2) = false from rfl, pIf_f, show decide ((3 : Int) = 3) = true from rfl, pIf_t]
      simp only [hfew, pCall_s, len_, ints_len]
      rw [raw_eq N b a f.length (by omega) (by omega), pCall_s]
      simp only [errNil, pCallG_t, hfew, pCall_s, pLet_, pick_t]
      rw [hd, List.take_left' rfl, decide_eq_true rfl]
  obtain ⟨ch, c1, c2, c3⟩ := vEx64 (n := f.length) (by omega)
  have d0 : decide (k = 0) = false := decide_eq_false h0
  have d1 : decide (k = 1) = false := decide_eq_false h1
  have d2 : decide (k = 2) = false := decide_eq_false h2
  have d3 : decide (k = 3) = false := decide_eq_false h3
  refine ⟨ch ++ f, by simp; omega, fun w hw => ?_, fun b rest a hb hab hd => ?_⟩
  · unfold avermentlaw02_Thing_lay
    simp only [d0, d1, d2, d3, pIf_f, hfew, pCall_s]
    rw [section_eq N ch f w c1 c3 (by omega) (by omega) c2, pCall_s]
    unfold avermentref02_Section
    rw [len_, ints_len, wr_u64 (by omega) (by omega), ← c2, refUint_eq N (by omega) ch c1 (by omega) c3, pCall_s, room_of (by simp [ints_len]; omega) (by simp [ints_len]; omega), pCk_t, pCall_s, ← ints_app]
  · have hlen := congrArg List.length hd
    simp only [List.length_drop, List.length_append] at hlen
    unfold avermentlaw02_Thing_take
    simp only [d0, d1, d2, d3, pIf_f]
    have hlook := (uint_val N hN b ch (f ++ rest) a 18446744073709551615 (by omega) (by rw [hd, List.append_assoc]) c1 c3 (by omega) (by omega)).1
    have hlook : p_wire_Reader_look N 18446744073709551615 (ints b) (a : Int) = some ((f.length : Int), (ch.length : Int), 0, ints b, (a : Int)) := by rw [← c2]; exact hlook
    have hsec : p_wire_Reader_Section N (ints b) (a : Int) = some (true, (Err.nil, ints (b.take (a + ch.length + f.length)), ((a + ch.length : Nat) : Int), ints b, ((a + ch.length + f.length : Nat) : Int)), none, Err.nil, [], 0) := by
      unfold p_wire_Reader_Section
      rw [hlook]
      simp only [pCall_s, decide_true, Bool.not_true, pIf_f, left_eq N b a (by omega) hab]
      rw [wr_i64 (n := ((b.length - a : Nat) : Int) - (ch.length : Int)) (by omega) (by omega), wr_u64 (n := ((b.length - a : Nat) : Int) - (ch.length : Int)) (by omega) (by omega)]
      rw [show decide (((b.length - a : Nat) : Int) - (ch.length : Int) < (f.length : Int)) = false by simp only [decide_eq_false_iff_not]; omega, pIf_f]
      have e1 : wr .i64 ((a : Int) + (ch.length : Int)) = ((a + ch.length : Nat) : Int) := by rw [wr_i64 (by omega) (by omega)]; omega
      have e2 : wr .i64 (f.length : Int) = (f.length : Int) := wr_i64 (by omega) (by omega)
      have e3 : wr .i64 (((a + ch.length : Nat) : Int) + (f.length : Int)) = ((a + ch.length + f.length : Nat) : Int) := by rw [wr_i64 (by omega) (by omega)]; omega
      have e4 : wr .i64 ((ch.length : Int) + (f.length : Int)) = (ch.length : Int) + (f.length : Int) := wr_i64 (by omega) (by omega)
      have e5 : wr .i64 ((a : Int) + ((ch.length : Int) + (f.length : Int))) = ((a + ch.length + f.length : Nat) : Int) := by rw [wr_i64 (by omega) (by omega)]; omega
      simp only [e1, e2, e3, e4, e5, len_, ints_len]
      rw [show (decide (0 ≤ ((a + ch.length + f.length : Nat) : Int)) && decide (((a + ch.length + f.length : Nat) : Int) ≤ (b.length : Int))) = true by simp only [Bool.and_eq_true, decide_eq_true_eq]; omega, pCk_t,
        show (decide ((0 : Nat) ≤ 0) && decide (0 ≤ ((a + ch.length + f.length : Nat) : Int))) = true by simp only [Bool.and_eq_true, decide_eq_true_eq]; omega, pCk_t, sub_eq]
    rw [hsec]
    simp only [pCall_s, pIf_t, errNil, Bool.not_true, pIf_f]
    have hcl : (b.take (a + ch.length + f.length)).length = a + ch.length + f.length := by rw [List.length_take]; omega
    have hin : ((b.take (a + ch.length + f.length)).drop (a + ch.length)).take f.length = f := by
      rw [List.drop_take, show a + ch.length + f.length - (a + ch.length) = f.length by omega, List.take_take, Nat.min_self, ← List.drop_drop, hd, List.append_assoc, List.drop_left' rfl, List.take_left' rfl]
    rw [left_eq N _ _ (by omega) (by rw [hcl]; omega), pCall_s]
    simp only [hcl]
    rw [show a + ch.length + f.length - (a + ch.length) = f.length by omega, raw_eq N _ _ _ (by omega) (by rw [hcl]; omega), pCall_s, hin]
    simp only [errNil, pCallG_t, hfew, pCall_s, pLet_, pick_t, decide_true, pIf_t]
    have he := end_eq N (b.take (a + ch.length + f.length)) (by omega)
    rw [hcl] at he
    rw [he, pCall_s]
    simp only [errNil, pick_t]
    rw [List.length_append, Nat.add_assoc]
end Go.Y
namespace Go.Y
open Go
theorem drop_cons_of {α : Type} {l : List α} {i : Nat} {x : α} (h : l[i]? = some x) : l.drop i = x :: l.drop (i + 1) := by
  obtain ⟨hi, hx⟩ := List.getElem?_eq_some_iff.1 h
  rw [List.drop_eq_getElem_cons hi, hx]
theorem lay_run (N : Nat) (k0 : (List ZP021) × (List Int) × List Int → Option Bool) (row : List ZP021) (tbs : List (List Nat)) (hl : tbs.length = row.length) (hT : ∀ (j : Nat) (t : ZP021) (tb : List Nat), row[j]? = some t → tbs[j]? = some tb → TOk N t tb) :
    ∀ (m i fuel : Nat) (w : List Nat), i + m = min row.length 40 → m < fuel → w.length ≤ 60 * i →
      avermentlaw02_WireLays_l18 N k0 fuel row (i : Int) (ints w) (ints w) = k0 (row, ints (w ++ ((tbs.take (min row.length 40)).drop i).flatten), ints (w ++ ((tbs.take (min row.length 40)).drop i).flatten)) := by
  intro m
  induction m with
  | zero =>
    intro i fuel w h hf hw
    obtain ⟨fuel, rfl⟩ : ∃ f, fuel = f + 1 := ⟨fuel - 1, by omega⟩
    simp only [avermentlaw02_WireLays_l18, pLet_, pick_and]
    rw [show (decide ((i : Int) < len row) && decide ((i : Int) < 40)) = false by
      rw [len_]; simp only [Bool.and_eq_false_iff, decide_eq_false_iff_not]; omega, pIf_f]
    rw [List.drop_eq_nil_of_le (by rw [List.length_take]; omega)]
    simp
  | succ m ih =>
    intro i fuel w h hf hw
    obtain ⟨fuel, rfl⟩ : ∃ f, fuel = f + 1 := ⟨fuel - 1, by omega⟩
    have hi : i < row.length := by omega
    have hi2 : i < tbs.length := by omega
    have h1 : row[i]? = some row[i] := List.getElem?_eq_getElem hi
    have h2 : tbs[i]? = some tbs[i] := List.getElem?_eq_getElem hi2
    have ht := hT i _ _ h1 h2
    have h60 := ht.len
    simp only [avermentlaw02_WireLays_l18, pLet_, pick_and]
    rw [show (decide ((i : Int) < len row) && decide ((i : Int) < 40)) = true by
      rw [len_]; simp only [Bool.and_eq_true, decide_eq_true_eq]; omega, pIf_t, pIdx_nat h1, ht.lay w (by omega), pCall_s]
    simp only [← ints_app]
    rw [room_of (by simp [ints_len]; omega) (by simp [ints_len]; omega), pCk_t, wr_succ (m := 40) (by omega) (by omega)]
    rw [ih (i + 1) fuel (w ++ tbs[i]) (by omega) (by omega) (by simp; omega)]
    have hd : (tbs.take (min row.length 40)).drop i = tbs[i] :: (tbs.take (min row.length 40)).drop (i + 1) :=
      drop_cons_of (by rw [List.getElem?_take, if_pos (by omega), h2])
    rw [hd, List.flatten_cons, List.append_assoc]
theorem take_run (N : Nat) (k0 : (List Int) × (List Int) × Int → Option Bool) (k1 : Bool → Option Bool) (row : List ZP021) (tbs : List (List Nat)) (hl : tbs.length = row.length) (hT : ∀ (j : Nat) (t : ZP021) (tb : List Nat), row[j]? = some t → tbs[j]? = some tb → TOk N t tb) (want : List Int) (bs : List Nat) (hb : bs.length ≤ 50000) :
    ∀ (m i fuel a : Nat), i + m = min row.length 40 → m < fuel → a ≤ bs.length → bs.drop a = ((tbs.take (min row.length 40)).drop i).flatten →
      avermentlaw02_WireLays_l25 N k0 k1 fuel row (i : Int) want (ints bs) (a : Int) = k0 (want, ints bs, (bs.length : Int)) := by
  intro m
  induction m with
  | zero =>
    intro i fuel a h hf ha hd
    obtain ⟨fuel, rfl⟩ : ∃ f, fuel = f + 1 := ⟨fuel - 1, by omega⟩
    simp only [avermentlaw02_WireLays_l25, pLet_, pick_and]
    rw [show (decide ((i : Int) < len row) && decide ((i : Int) < 40)) = false by
      rw [len_]; simp only [Bool.and_eq_false_iff, decide_eq_false_iff_not]; omega, pIf_f]
    have hnil : (tbs.take (min row.length 40)).drop i = [] := List.drop_eq_nil_of_le (by rw [List.length_take]; omega)
    rw [hnil] at hd
    have := congrArg List.length hd
    simp only [List.length_drop, List.flatten_nil, List.length_nil] at this
    rw [show a = bs.length by omega]
  | succ m ih =>
    intro i fuel a h hf ha hd
    obtain ⟨fuel, rfl⟩ : ∃ f, fuel = f + 1 := ⟨fuel - 1, by omega⟩
    have hi : i < row.length := by omega
    have hi2 : i < tbs.length := by omega
    have h1 : row[i]? = some row[i] := List.getElem?_eq_getElem hi
    have h2 : tbs[i]? = some tbs[i] := List.getElem?_eq_getElem hi2
    have ht := hT i _ _ h1 h2
    have hdc : (tbs.take (min row.length 40)).drop i = tbs[i] :: (tbs.take (min row.length 40)).drop (i + 1) :=
      drop_cons_of (by rw [List.getElem?_take, if_pos (by omega), h2])
    rw [hdc, List.flatten_cons] at hd
    have htk := ht.take bs _ a hb ha hd
    have hlen := congrArg List.length hd
    simp only [List.length_drop, List.length_append] at hlen
    simp only [avermentlaw02_WireLays_l25, pLet_, pick_and]
    rw [show (decide ((i : Int) < len row) && decide ((i : Int) < 40)) = true by
      rw [len_]; simp only [Bool.and_eq_true, decide_eq_true_eq]; omega, pIf_t]
    simp only [pJoin_]
    have hcopy : p_wire_Reader_Copy N (ints bs) (a : Int) = some (ints bs, (a : Int), ints bs, (a : Int)) := rfl
    rw [hcopy, pCall_s, pIdx_nat h1]
    simp only [htk, pCall_s, Bool.not_true, Bool.not_false, pIdxG_t, pIf_t]
    rw [pIdx_nat h1, htk, pCall_s]
    simp only [pick_f, Bool.not_true, Bool.not_false, pIf_t]
    have hat : p_wire_Reader_At N (ints bs) ((a + (tbs[i]).length : Nat) : Int) = some (((a + (tbs[i]).length : Nat) : Int), ints bs, ((a + (tbs[i]).length : Nat) : Int)) := rfl
    simp only [hat, pCall_s, decide_true, Bool.not_true, pIf_f]
    rw [wr_succ (m := 40) (by omega) (by omega)]
    exact ih (i + 1) fuel (a + (tbs[i]).length) (by omega) (by omega) (by omega) (by rw [← List.drop_drop, hd, List.drop_left' rfl])
theorem WireLays_plain {by_ : TypeId → Nat} {e e2 : TypeId} (row : List ZP021) (h : Wf by_ (.sl e (.st (.pair (.int .i64) (.pair (.int .u64) (.sl e2 (.int .u8)))))) row) : ∃ N, avermentlaw02_WireLays N row = some true := by
  have hT : ∀ t ∈ row, ∃ tb, TOk 200 t tb := by
    intro t ht
    have hw := h.2 t ht
    obtain ⟨k, n, b⟩ := t
    obtain ⟨bs, rfl, _⟩ := bytes_of (l := b) fun x hx => wf_u8 (hw.2.2.2 x hx)
    have hn : 0 ≤ n ∧ n ≤ 18446744073709551615 := wf_u64 hw.2.1
    obtain ⟨n, rfl⟩ := Int.eq_ofNat_of_zero_le hn.1
    exact tok 200 (by omega) k n (by omega) bs
  obtain ⟨tbs, hl, hT⟩ : ∃ tbs : List (List Nat), tbs.length = row.length ∧ ∀ (j : Nat) (t : ZP021) (tb : List Nat), row[j]? = some t → tbs[j]? = some tb → TOk 200 t tb := by
    clear h
    induction row with
    | nil => exact ⟨[], rfl, fun j t tb h => by simp at h⟩
    | cons t r ih =>
      obtain ⟨tbs, h1, h2⟩ := ih fun t ht => hT t (List.mem_cons_of_mem _ ht)
      obtain ⟨tb, h3⟩ := hT t (by simp)
      refine ⟨tb :: tbs, by simp [h1], fun j t' tb' h4 h5 => ?_⟩
      cases j with
      | zero =>
        simp only [List.getElem?_cons_zero, Option.some.injEq] at h4 h5
        subst h4; subst h5; exact h3
      | succ j => exact h2 j t' tb' (by simpa using h4) (by simpa using h5)
  refine ⟨200, ?_⟩
  have hlays : avermentlaw02_lays 200 = some true := by kernel_rfl
  have n1 : p_wire_Writer_Byte_v1 200 none 1 = some () := by kernel_rfl
  have n2 : p_wire_Writer_Uint_v1 200 none 1 = some () := by kernel_rfl
  have n3 : p_wire_Writer_Int_v1 200 none 1 = some () := by kernel_rfl
  have n4 : p_wire_Writer_Raw_v3 200 none [1] = some () := by kernel_rfl
  have n5 : p_wire_Writer_Section_v1 200 none [] = some () := by kernel_rfl
  have n6 : p_wire_Reader_Byte_v1 200 none = some (0, .at 0 (.no 1)) := by kernel_rfl
  have n7 : p_wire_Reader_Uint_v1 200 none 1 = some (0, .at 0 (.no 1)) := by kernel_rfl
  have n8 : p_wire_Reader_Int_v1 200 none = some (0, .at 0 (.no 1)) := by kernel_rfl
  have n9 : p_wire_Reader_Raw_v1 200 none 0 = some ([], .at 0 (.no 1)) := by kernel_rfl
  have n10 : p_wire_Reader_Section_v1 200 none = some (none, .at 0 (.no 1)) := by kernel_rfl
  have n11 : p_wire_Writer_Bytes_v1 200 none = some () := by kernel_rfl
  have n12 : fault_Kind 200 (.at 0 (.no 1)) = some 1 := by kernel_rfl
  have n13 : p_wire_Reader_End_v1 200 none = some (.at 0 (.no 1)) := by kernel_rfl
  have n14 : p_wire_Reader_Left_v1 200 none = some 0 := by kernel_rfl
  have n15 : p_wire_Reader_At_v1 200 none = some 0 := by kernel_rfl
  have n16 : p_wire_Reader_Copy_v1 200 none = some none := by kernel_rfl
  have n17 : avermentlaw02_none 200 = some (none, none) := rfl
  have hnew : wire_New 200 = some [] := rfl
  have hN : 100 < 200 := by omega
  revert hT hlays n1 n2 n3 n4 n5 n6 n7 n8 n9 n10 n11 n12 n13 n14 n15 n16 n17 hnew hN
  generalize 200 = N
  intro hT hlays n1 n2 n3 n4 n5 n6 n7 n8 n9 n10 n11 n12 n13 n14 n15 n16 n17 hnew hN
  unfold avermentlaw02_WireLays
  have z0 : decide (len ([] : List Int) = 0) = true := rfl
  simp only [n17, n1, n2, n3, n4, n5, n6, n7, n8, n9, n10, hlays, pCall_s, Bool.not_true, Bool.not_false, pCallG_t, n11, pLet_, pick_f, n12, n13, n14, n15, n16, hnew, z0, eq_self, decide_true, Option.isNone_none, pIf_f]
  rw [show (0 : Int) = ((0 : Nat) : Int) from rfl]
  have hk : ∀ k0, avermentlaw02_WireLays_l18 N k0 N row ((0 : Nat) : Int) [] [] = k0 (row, ints ((tbs.take (min row.length 40)).flatten), ints ((tbs.take (min row.length 40)).flatten)) := fun k0 => by
    have := lay_run N k0 row tbs hl hT (min row.length 40) 0 N [] (by omega) (by omega) (by simp)
    rw [List.drop_zero, List.nil_append] at this
    exact this
  rw [hk]
  generalize hbs : (tbs.take (min row.length 40)).flatten = bs
  have hbl : bs.length ≤ 2400 := by
    have key : ∀ l : List (List Nat), (∀ x ∈ l, x.length ≤ 60) → l.flatten.length ≤ 60 * l.length := by
      intro l
      induction l with
      | nil => intro _; simp
      | cons x r ih =>
        intro h
        have h1 := h x (by simp)
        have h2 := ih fun y hy => h y (List.mem_cons_of_mem _ hy)
        simp only [List.flatten_cons, List.length_append, List.length_cons]
        omega
    have := key (tbs.take (min row.length 40)) fun x hx => by
      obtain ⟨j, hj, rfl⟩ := List.getElem_of_mem (List.mem_of_mem_take hx)
      exact (hT j (row[j]'(by omega)) _ (List.getElem?_eq_getElem _) (List.getElem?_eq_getElem _)).len
    rw [hbs, List.length_take] at this
    omega
  simp only [bytes_eq N bs (by omega), pCall_s, decide_true, Bool.not_true, pIf_f, read_eq N bs (by omega)]
  have ht : ∀ k0 k1, avermentlaw02_WireLays_l25 N k0 k1 N row ((0 : Nat) : Int) (ints bs) (ints bs) 0 = k0 (ints bs, ints bs, (bs.length : Int)) := fun k0 k1 =>
    take_run N k0 k1 row tbs hl hT (ints bs) bs (by omega) (min row.length 40) 0 N 0 (by omega) (by omega) (by omega) (by simpa using hbs.symm)
  rw [ht]
  simp only [end_eq N bs (by omega), pCall_s, show errNil Err.nil = true from rfl, pIf_t, left_eq N bs bs.length (by omega) (Nat.le_refl _), Nat.sub_self, pLet_, pick_t]
  simp only [decide_true, pIf_t]
  have hat : p_wire_Reader_At N (ints bs) (bs.length : Int) = some ((bs.length : Int), ints bs, (bs.length : Int)) := rfl
  rw [hat, pCall_s]
  simp only [pick_t, len_, ints_len, decide_true]
end Go.Y
set_option maxRecDepth 100000
namespace Go.Proofs.YteeaoljihmmhhaaDoor
open Go.ChangeShapes Go.WideShapes Go.ChangeAt Go.RowKit Go.Y
theorem WireLays_own : ownKnob Tryd.prog.godebug = none := by kernel_rfl
theorem WireLays_laid : laidOutB Tryd.prog = true := by kernel_rfl
theorem WireLays_pure (x : (tupTy q6.ts).den) (h : Wf Tryd.prog.bytesOf (tupTy q6.ts) x) : ∃ N, q6.F N x = some true := WireLays_plain x h
theorem WireLays_et : Tryd.prog.globalNamed "errors.errorType" = some 0 := by kernel_rfl
theorem WireLays_rt : (Tryd.prog.cutTypes.find? (·.1 == "internal/reflectlite.rtype")).map (·.2) = some 121 := by kernel_rfl
theorem WireLays_oneRow : ((List.range Tryd.prog.types.size).filter fun t => Tryd.prog.rowNamed t [101, 114, 114, 111, 114]) = [27] := by kernel_rfl
theorem WireLays_handle {W : World} (h : laidMetH Tryd.prog Rows.wireLaysRow.laid W) : W.cell? ⟨0, 0, none⟩ = some (.iface 121 (.agg #[.pointer (some ⟨1, 27, none⟩)])) := by
  have h' : laidMet Tryd.prog [] W ∧ handlesMet Tryd.prog Rows.wireLaysRow.laid W := h
  obtain ⟨name, u, ty, e1, e2, e3, e4, e5⟩ := h'.2 _ (List.mem_singleton.2 rfl)
  have en : name = [101, 114, 114, 111, 114] := (Option.some.inj e1).symm
  subst en
  obtain rfl := Option.some.inj (WireLays_rt.symm.trans e2)
  have hm : ty ∈ (List.range Tryd.prog.types.size).filter fun t => Tryd.prog.rowNamed t [101, 114, 114, 111, 114] := List.mem_filter.2 ⟨List.mem_range.2 e3, e4⟩
  rw [WireLays_oneRow] at hm
  obtain rfl := List.mem_singleton.1 hm
  have hh : typeHandle Tryd.prog 27 = .pointer (some ⟨1, 27, none⟩) := by kernel_rfl
  rw [hh] at e5
  simpa using World.var?_cell WireLays_et e5 0
noncomputable def WireLays_world (os : Os) : World :=
  let w0 := World.holding Tryd.prog os ⟨#[], #[], []⟩
  { w0 with heap := w0.heap.modify 0 fun
      | .cells _ t frozen => .cells #[.iface 121 (.agg #[.pointer (some ⟨1, 27, none⟩)])] t frozen
      | o => o }
theorem WireLays_met (os : Os) (args : Array Value) : laidMetH Tryd.prog Rows.wireLaysRow.laid ((WireLays_world os).forCall (fun _ _ => 0) ⟨#[], args, []⟩).memory :=
  laidMetH_of_parts (laidMet_nil _ _) (by kernel_rfl)
theorem WireLays_lifted (os : Os) (started : os.Started) (H : Type) (enc : TypeId × Value → H) :
    ReturnsInHanded {} Tryd.checked os 6 .any (fun w args => (Rows.wireLaysSpec.pre enc Tryd.prog Tryd.f6 Rows.wireLaysRow.domain false w args ∧ laidMetH Tryd.prog Rows.wireLaysRow.laid w) ∧ sizedMet enc Tryd.prog Tryd.f6 (OpenSpec.ofChange Rows.wireLaysSpec) false w args)
      (Rows.wireLaysSpec.post enc Tryd.prog Tryd.f6 false true false false) := by
  refine returnsInHanded_of_change_and (C := Tryd.checked) (X := fun w _ => laidMetH Tryd.prog Rows.wireLaysRow.laid w) (fun _ _ _ hh h => h.of_heap hh) WireLays_own started (by kernel_rfl) Tryd.func6
    (ChangeSpec.witness_at (enc := enc) (C := Tryd.checked) (os := os) (X := fun w _ => laidMetH Tryd.prog Rows.wireLaysRow.laid w) false (WireLays_world os) #[.slice none 0 0] 8 rfl (by kernel_rfl) (by kernel_rfl) (by kernel_rfl) (by kernel_rfl) (by kernel_rfl) (WireLays_met os _)) ?_
  intro W base args ds gs before hval0 hW hcnd hsz0 hL _
  exact law_calls (P := Tryd.prog) (I := ids) (φ := phi Tryd.prog ids) (As := q6.ts) (F := fun N => q6.F N) (ins := q6.ins) (h0 := q6.jh) WireLays_laid (by kernel_rfl) rfl (fun ds h => match ds, h with | [_], _ => rfl) ⟨4, by kernel_rfl, by kernel_rfl⟩ (by kernel_rfl) (fun N => b6.ok N) WireLays_pure hval0 hW hsz0 (fun p hp => by
    obtain rfl := List.mem_singleton.1 hp
    exact WireLays_handle hL)
theorem WireLays_holds : Rows.WireLaysSaid :=
  OpenClaim.holds_of_wide 6 Tryd.f6 rfl rfl rfl rfl rfl rfl rfl ⟨rfl, rfl, rfl, rfl, rfl⟩ rfl rfl rfl rfl rfl (by kernel_rfl) Tryd.func6 (by kernel_rfl)
    (of_decide_eq_true (by kernel_rfl)) (by unfold Func.isWrapper; first | (rw [if_pos (by decide +kernel)]; kernel_rfl) | (rw [if_neg (by decide +kernel)]; exact ⟨rfl, rfl⟩))
    (fun os started H enc _ => WireLays_lifted os started H enc)
theorem WireLays_card : Rows.WireLaysCardSaid :=
  Claim7.holds_tied_plain_at .later [] [.handle] true Rows.wireLaysCard.stood.harness true
    WireLays_holds (fun _ h => by cases h) (by kernel_rfl) (fun _ h => by cases h) wireLays_row_tie rfl ⟨rfl, rfl⟩ (by kernel_rfl) rfl
    (fun f fn hf hfn => by
      obtain rfl : f = 6 := Option.some.inj ((show Tryd.prog.funcNamed "averment/avermentlaw02.WireLays" = some 6 by kernel_rfl).symm.trans hf) |>.symm
      obtain rfl : fn = Tryd.f6 := (Option.some.inj (Tryd.func6.symm.trans hfn)).symm
      exact ⟨by kernel_rfl, fun j t ht => by
        have h : (Tryd.f6.params.toList.all fun t => !(Tryd.prog.wantsStandIn t)) = true := by kernel_rfl
        have hm : t ∈ Tryd.f6.params.toList := List.mem_of_getElem? (by simpa using ht)
        have := List.all_eq_true.1 h t hm
        exact (show Tryd.prog.wantsStandIn t = false by simpa using this)⟩)
    (by kernel_rfl)
#print axioms WireLays_card
end Go.Proofs.YteeaoljihmmhhaaDoor
