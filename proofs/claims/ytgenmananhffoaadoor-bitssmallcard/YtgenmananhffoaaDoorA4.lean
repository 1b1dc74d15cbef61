/- What the proof of the statement stands on, part 4. -/
import Derived.Test.YtgenmananhffoaaDoorA3
import Derived.WalkKit
import Derived.Below
import Derived.Laws.Rows
import Derived.Test.YtgenmananhffoaaDoorProg
import Derived.LaidEql
import Derived.Stop.Asserts
import Derived.RowKitTokens
import Derived.Test.YtgenmananhffoaaDoorA0
import Derived.KernelRfl
import GoSem.ClaimJoined
import Derived.ChangeOld
import Derived.ChangeArms
import Derived.SizedLaws
import Derived.ProofKit
import Derived.OpenShut
import Derived.ShutString
import Derived.Carry
import Derived.RowKit
set_option linter.unusedVariables false
set_option linter.unusedSimpArgs false
namespace Go.Y
open Go.Eng (T RepT RepM SRep Kept Base G SameOn VRep)
def eNum : Err → Option Int
  | .nil => none
  | .no n => some n
  | .at _ e => eNum e
  | .txt _ => none
def errOk : Err → Bool
  | .nil => true
  | .no _ => true
  | .at _ e => errOk e
  | .txt _ => false
def eDep : Err → Nat
  | .at _ e => eDep e + 1
  | _ => 0
def ePath : Err → List Int
  | .at n e => n :: ePath e
  | _ => []
def zKind (e : Err) : Option Int := match errOk e with
  | true => match e with
    | .nil => some 0
    | e => match eNum e with
      | some n => some n
      | none => some 21
  | false => none
def zPath (e : Err) : Option (List Int) := match errOk e with
  | true => match decide ((ePath e).length ≤ 1000000) with
    | true => some (ePath e)
    | false => none
  | false => none
def zIs (e : Err) (k : Int) : Option Bool := match errOk e with
  | true => some (!decide (k = 0) && decide (eNum e = some k))
  | false => none
def eAt : Err → List Int → Err
  | .nil, _ => .nil
  | e, l => l.foldr Err.at e
def zAt (e : Err) (l : List Int) : Option Err := match errOk e with
  | true => match decide (l.length ≤ 4611686018427387904) with
    | true => some (eAt e l)
    | false => none
  | false => none
structure GrownX (t : Nat) (w w' : World) : Prop where
  os : w'.os = w.os
  tape : w'.tape = w.tape
  output : w'.output = w.output
  size : w.heap.size ≤ w'.heap.size
  block : ∀ b, b < w.heap.size → b ≠ t → w'.heap[b]? = w.heap[b]?
theorem GrownX.refl (t : Nat) (w : World) : GrownX t w w := ⟨rfl, rfl, rfl, Nat.le_refl _, fun _ _ _ => rfl⟩
theorem GrownX.alloc {t : Nat} {w w' : World} (h : GrownX t w w') (o : Obj) : GrownX t w (w'.alloc o) :=
  ⟨h.os, h.tape, h.output, Nat.le_trans h.size (by simp), fun b hb ht => by
    rw [← h.block b hb ht]
    exact Go.RowKit.Below.heap_alloc w' o b (Nat.lt_of_lt_of_le hb h.size)⟩
theorem GrownX.set {t : Nat} {w w' : World} (h : GrownX t w w') (a : Addr) (v : Value) (ha : a.block = t) : GrownX t w (w'.setCell a v) :=
  ⟨h.os, h.tape, h.output, by have := h.size; simp; exact this, fun b hb ht => by
    rw [← h.block b hb ht]
    exact heap_setCell_other w' a b v (by rw [ha]; exact ht)⟩
theorem GrownX.cell {t : Nat} {w w' : World} (h : GrownX t w w') {a : Addr} {v : Value} (hc : w.cell? a = some v) (ht : a.block ≠ t) : w'.cell? a = some v := by
  rw [World.cell?_of_block (h.block a.block (World.block_lt_of_cell? w a hc) ht)]; exact hc
end Go.Y
noncomputable section
namespace Go.Proofs.YtgenmananhffoaaDoor
open Go.RowKit Go.Extern.Stop Go.Stop Go.Extern Go.Y
open Go.Eng (RepT)
def ids : Ids := ⟨44, 75, 77, 0, 0, [(⟨0, 0, none⟩, .iface 115 (.agg #[.pointer (some ⟨1, 29, none⟩)]))]⟩
theorem typeOfE (v : Value) (w : World) : (ReflectliteType.typeOf #[.iface 44 v]).run Tryd.prog w = .ok (.iface 115 (.agg #[.pointer (some ⟨1, 44, none⟩)])) w := by kernel_rfl
theorem typeOfP (v : Value) (w : World) : (ReflectliteType.typeOf #[.iface 75 v]).run Tryd.prog w = .ok (.iface 115 (.agg #[.pointer (some ⟨1, 75, none⟩)])) w := by kernel_rfl
theorem mAssign (h : Value) (w : World) : (Go.method 279 115 (.agg #[h]) "AssignableTo").run Tryd.prog w = .ok (117, .agg #[h]) w := by kernel_rfl
theorem asEE (w : World) : (ReflectliteType.relation "AssignableTo" ReflectliteType.assignableTo #[.agg #[.pointer (some ⟨1, 44, none⟩)], .iface 115 (.agg #[.pointer (some ⟨1, 44, none⟩)])]).run Tryd.prog w = .ok (.bool true) w := by kernel_rfl
theorem asPE (w : World) : (ReflectliteType.relation "AssignableTo" ReflectliteType.assignableTo #[.agg #[.pointer (some ⟨1, 75, none⟩)], .iface 115 (.agg #[.pointer (some ⟨1, 44, none⟩)])]).run Tryd.prog w = .ok (.bool false) w := by kernel_rfl
theorem asEP (w : World) : (ReflectliteType.relation "AssignableTo" ReflectliteType.assignableTo #[.agg #[.pointer (some ⟨1, 44, none⟩)], .iface 115 (.agg #[.pointer (some ⟨1, 75, none⟩)])]).run Tryd.prog w = .ok (.bool false) w := by kernel_rfl
theorem asPP (w : World) : (ReflectliteType.relation "AssignableTo" ReflectliteType.assignableTo #[.agg #[.pointer (some ⟨1, 75, none⟩)], .iface 115 (.agg #[.pointer (some ⟨1, 75, none⟩)])]).run Tryd.prog w = .ok (.bool true) w := by kernel_rfl
theorem noAsE (v : Value) (xT : TypeId) (w : World) : (Instr.typeAssert (.iface 44 v) xT 139 true).run Tryd.prog w = .ok (.tuple #[.nilIface, .bool false]) w := run_typeAssert_lacksB Tryd.underlying139 (by kernel_rfl) (by kernel_rfl) v xT w
theorem noAsP (v : Value) (xT : TypeId) (w : World) : (Instr.typeAssert (.iface 75 v) xT 139 true).run Tryd.prog w = .ok (.tuple #[.nilIface, .bool false]) w := run_typeAssert_lacksB Tryd.underlying139 (by kernel_rfl) (by kernel_rfl) v xT w
theorem noUnE (v : Value) (xT : TypeId) (w : World) : (Instr.typeAssert (.iface 44 v) xT 120 true).run Tryd.prog w = .ok (.tuple #[.nilIface, .bool false]) w := run_typeAssert_lacksB Tryd.underlying120 (by kernel_rfl) (by kernel_rfl) v xT w
theorem noUnsE (v : Value) (xT : TypeId) (w : World) : (Instr.typeAssert (.iface 44 v) xT 122 true).run Tryd.prog w = .ok (.tuple #[.nilIface, .bool false]) w := run_typeAssert_lacksB Tryd.underlying122 (by kernel_rfl) (by kernel_rfl) v xT w
theorem hasUnP (v : Value) (xT : TypeId) (w : World) : (Instr.typeAssert (.iface 75 v) xT 120 true).run Tryd.prog w = .ok (.tuple #[.iface 75 v, .bool true]) w := run_typeAssert_hasB Tryd.underlying120 (by kernel_rfl) v xT w
theorem mUnwrap (v : Value) (w : World) : (Go.method 279 75 v "Unwrap").run Tryd.prog w = .ok (112, v) w := by kernel_rfl
theorem valueOfE (n : Int) (w : World) : (ReflectliteValue.unpack (.iface 44 (.int .i64 n))).run Tryd.prog w
    = .ok (.agg #[.pointer (some ⟨1, 44, none⟩), .pointer (some ⟨w.heap.size, 0, none⟩), .int .u64 130]) (w.alloc (.cells #[.int .i64 n] 44)) := by kernel_rfl
theorem valueOfP (e : Addr) (w : World) : (ReflectliteValue.unpack (.iface 75 (.pointer (some e)))).run Tryd.prog w
    = .ok (.agg #[.pointer (some ⟨1, 75, none⟩), .pointer (some ⟨w.heap.size, 0, none⟩), .int .u64 150]) (w.alloc (.cells #[.pointer (some e)] 75)) := by kernel_rfl
theorem mKind (h : Value) (w : World) : (Go.method 279 115 (.agg #[h]) "Kind").run Tryd.prog w = .ok (107, h) w := by kernel_rfl
theorem mElem (h : Value) (w : World) : (Go.method 279 115 (.agg #[h]) "Elem").run Tryd.prog w = .ok (119, .agg #[h]) w := by kernel_rfl
theorem mImpl (h : Value) (w : World) : (Go.method 279 115 (.agg #[h]) "Implements").run Tryd.prog w = .ok (120, .agg #[h]) w := by kernel_rfl
theorem kindEt (w : World) : ((ReflectliteType.abiMethod fun t => (fun a : Nat => Value.int IntKind.u8 (a : Int)) <$> Rtype.kind t) #[.pointer (some ⟨1, 44, none⟩)]).run Tryd.prog w = .ok (.int .u8 2) w := by kernel_rfl
theorem kindPt (w : World) : ((ReflectliteType.abiMethod fun t => (fun a : Nat => Value.int IntKind.u8 (a : Int)) <$> Rtype.kind t) #[.pointer (some ⟨1, 75, none⟩)]).run Tryd.prog w = .ok (.int .u8 22) w := by kernel_rfl
theorem implE (w : World) : (ReflectliteType.relation "Implements" ReflectliteType.implements_ #[.agg #[.pointer (some ⟨1, 44, none⟩)], .iface 115 (.agg #[.pointer (some ⟨1, 29, none⟩)])]).run Tryd.prog w = .ok (.bool true) w := by kernel_rfl
theorem implP (w : World) : (ReflectliteType.relation "Implements" ReflectliteType.implements_ #[.agg #[.pointer (some ⟨1, 75, none⟩)], .iface 115 (.agg #[.pointer (some ⟨1, 29, none⟩)])]).run Tryd.prog w = .ok (.bool true) w := by kernel_rfl
theorem rlm (z : Sem Value) (f : TypeId → Addr → Nat → Nat → Sem Value) (v : Value) :
    ReflectliteValue.method z f #[v] = (do match ← ReflectliteValue.parts v with | none => z | some (t, a, fl) => f t a fl (fl % 32)) := rfl
theorem rls (v x : Value) : ReflectliteValue.set #[v, x] = (do
    let (some (dst, a, fl), some (src, b, _)) := (← ReflectliteValue.parts v, ← ReflectliteValue.parts x)
      | unsupported (.noEntry "extern/(internal/reflectlite.Value).Set.zeroValue")
    if fl / ReflectliteValue.flagAddr % 2 == 0 then unsupported (.noEntry "extern/(internal/reflectlite.Value).Set.unaddressable")
    let val ← loadVar src b
    if ← Rtype.directlyAssignable dst src then storeVar dst a val
    else if ← Rtype.implements dst src then
      if (← Rtype.kind src) == 20 then
        match val with
        | .nilIface => unsupported (.noEntry "extern/reflectlite: a nil value of one interface type handed on as a value of another")
        | _ => storeVar dst a val
      else storeVar dst a (.iface src val)
    else panicString ("reflectlite.Set: value of type " ++ (← Rtype.spelt src) ++ " is not assignable to type " ++ (← Rtype.spelt dst))
    pure (.tuple #[])) := rfl
theorem rep_at {w : World} {F : Nat → Prop} {n : Int} {e : Err} {v : Value} (h : RepT Tryd.prog w F (trE ids (.at n e)) v) :
    ∃ pb po u, v = .iface 75 (.pointer (some ⟨pb, po, none⟩)) ∧ F pb ∧ w.cell? ⟨pb, po, none⟩ = some (.int .i64 n) ∧ w.cell? ⟨pb, po + 1, none⟩ = some u ∧ RepT Tryd.prog w F (trE ids e) u := by
  cases h with
  | ifc _ _ v h =>
    cases h with
    | p _ _ b off us hF hs hc hr =>
      refine ⟨b, off, us 1, rfl, hF, ?_, hc 1 _ rfl, hr 1 _ rfl⟩
      have h0 := hc 0 _ rfl
      have h1 := hr 0 _ rfl
      generalize us 0 = u0 at h0 h1
      cases h1
      exact h0
theorem rep_no {w : World} {F : Nat → Prop} {n : Int} {v : Value} (h : RepT Tryd.prog w F (trE ids (.no n)) v) : v = .iface 44 (.int .i64 n) := by
  cases h with
  | ifc _ _ v h => cases h; rfl
theorem rep_nil {w : World} {F : Nat → Prop} {v : Value} (h : RepT Tryd.prog w F (trE ids .nil) v) : v = .nilIface := by cases h; rfl
theorem rep_head {w : World} {F : Nat → Prop} {e : Err} {v : Value} (he : errOk e = true) (h : RepT Tryd.prog w F (trE ids e) v) : v = .nilIface ∧ e = .nil ∨ ∃ t x, v = .iface t x ∧ e ≠ .nil := by
  cases e with
  | nil => exact .inl ⟨rep_nil h, rfl⟩
  | no n => exact .inr ⟨_, _, rep_no h, fun e => by cases e⟩
  | txt s => cases he
  | «at» n e => obtain ⟨pb, po, u, rfl, _⟩ := rep_at h; exact .inr ⟨_, _, rfl, fun e => by cases e⟩
theorem valueOfE_ (t : Addr) (w : World) : (ReflectliteValue.unpack (.iface 81 (.pointer (some t)))).run Tryd.prog w
    = .ok (.agg #[.pointer (some ⟨1, 81, none⟩), .pointer (some ⟨w.heap.size, 0, none⟩), .int .u64 150]) (w.alloc (.cells #[.pointer (some t)] 81)) := by kernel_rfl
theorem typeE_ (a : Addr) (w : World) : (ReflectliteValue.methodAny (ReflectliteValue.valueError "reflectlite.Value.Type" 0) (fun t _ _ _ => ReflectliteType.toType t) #[.agg #[.pointer (some ⟨1, 81, none⟩), .pointer (some a), .int .u64 150]]).run Tryd.prog w
    = .ok (.iface 115 (.agg #[.pointer (some ⟨1, 81, none⟩)])) w := by kernel_rfl
theorem kindE_ (w : World) : ((ReflectliteType.abiMethod fun t => (fun a : Nat => Value.int IntKind.u8 (a : Int)) <$> Rtype.kind t) #[.pointer (some ⟨1, 81, none⟩)]).run Tryd.prog w = .ok (.int .u8 22) w := by kernel_rfl
theorem elemTE_ (w : World) : (ReflectliteType.method ReflectliteType.elem #[.agg #[.pointer (some ⟨1, 81, none⟩)]]).run Tryd.prog w = .ok (.iface 115 (.agg #[.pointer (some ⟨1, 44, none⟩)])) w := by kernel_rfl
theorem partsE_ (a : Addr) (w : World) : (ReflectliteValue.parts (.agg #[.pointer (some ⟨1, 81, none⟩), .pointer (some a), .int .u64 150])).run Tryd.prog w = .ok (some (81, a, 150)) w := by kernel_rfl
theorem elemOfE_ (w : World) : (Rtype.elem? 81).run Tryd.prog w = .ok (some 44) w := by kernel_rfl
theorem mkE_ (p : Addr) (w : World) : (ReflectliteValue.mk 44 p ReflectliteValue.flagAddr).run Tryd.prog w = .ok (.agg #[.pointer (some ⟨1, 44, none⟩), .pointer (some p), .int .u64 386]) w := by kernel_rfl
theorem elemVE (a p : Addr) (W : World) (ha : W.cell? a = some (.pointer (some p))) :
    (ReflectliteValue.method (ReflectliteValue.valueError "reflectlite.Value.Elem" 0) ReflectliteValue.elem #[.agg #[.pointer (some ⟨1, 81, none⟩), .pointer (some a), .int .u64 150]]).run Tryd.prog W
      = .ok (.agg #[.pointer (some ⟨1, 44, none⟩), .pointer (some p), .int .u64 386]) W := by
  rw [rlm]
  simp only [Sem.run_bind, partsE_, Result.andThen]
  simp [ReflectliteValue.elem, loadVar, isAgg, underlying, Tryd.underlying81, ha, Result.andThen, elemOfE_, mkE_]
theorem isNilE (a p : Addr) (W : World) (ha : W.cell? a = some (.pointer (some p))) :
    (ReflectliteValue.method (ReflectliteValue.valueError "reflectlite.Value.IsNil" 0) ReflectliteValue.isNil #[.agg #[.pointer (some ⟨1, 81, none⟩), .pointer (some a), .int .u64 150]]).run Tryd.prog W = .ok (.bool false) W := by
  rw [rlm]
  simp only [Sem.run_bind, partsE_, Result.andThen]
  simp [ReflectliteValue.isNil, loadVar, isAgg, underlying, Tryd.underlying81, ha, Result.andThen]
theorem partsAE (a : Addr) (w : World) : (ReflectliteValue.parts (.agg #[.pointer (some ⟨1, 44, none⟩), .pointer (some a), .int .u64 386])).run Tryd.prog w = .ok (some (44, a, 386)) w := by kernel_rfl
theorem partsVE (a : Addr) (w : World) : (ReflectliteValue.parts (.agg #[.pointer (some ⟨1, 44, none⟩), .pointer (some a), .int .u64 130])).run Tryd.prog w = .ok (some (44, a, 130)) w := by kernel_rfl
theorem directE (w : World) : (Rtype.directlyAssignable 44 44).run Tryd.prog w = .ok true w := by kernel_rfl
theorem sizeE (w : World) : (sizeOf 44).run Tryd.prog w = .ok 1 w := by kernel_rfl
theorem setE (ta b : Addr) (n : Int) (old : Value) (W : World) (hb : W.cell? b = some (.int .i64 n)) (ht : W.cell? ta = some old) (hf : W.frozen? ta = false) :
    (ReflectliteValue.set #[.agg #[.pointer (some ⟨1, 44, none⟩), .pointer (some ta), .int .u64 386], .agg #[.pointer (some ⟨1, 44, none⟩), .pointer (some b), .int .u64 130]]).run Tryd.prog W
      = .ok (.tuple #[]) (W.setCell ta (.int .i64 n)) := by
  rw [rls]
  simp only [Sem.run_bind, partsAE, partsVE, Result.andThen]
  simp [ReflectliteValue.flagAddr, loadVar, isAgg, underlying, Tryd.underlying44, hb, Result.andThen, directE, storeVar, sizeE, Value.cells, storeCells, Addr.add]
  rw [run_store Tryd.prog W ta _ _ (by rfl)]
  simp [ht, hf]
set_option maxHeartbeats 40000000 in
theorem as_hit (n : Int) (w0 : World) (F : Nat → Prop) (t a : Addr) (old : Value) (ha : w0.cell? a = some (.pointer (some t))) (ht : w0.cell? t = some old) (hf : w0.frozen? t = false)
    (e : Err) (v : Value) (he : errOk e = true) (hnil : e ≠ .nil) (hprem : eNum e = some n) (hv : RepT Tryd.prog w0 F (trE ids e) v) :
    Calls Tryd.prog 72 #[v, .iface 81 (.pointer (some t)), .agg #[.pointer (some ⟨1, 81, none⟩), .pointer (some a), .int .u64 150], .iface 115 (.agg #[.pointer (some ⟨1, 44, none⟩)])] w0 fun ev w' => ev = .returned (.bool true) ∧ w' = (((w0.alloc (.cells #[.pointer (some ⟨1, 81, none⟩), .pointer (some a), .int .u64 150] 107))).alloc (.cells #[.int .i64 n] 44)).setCell t (.int .i64 n) := by
  have hTo := @run_callFunc_extern Tryd.prog 57 _ ReflectliteType.typeOf Tryd.func57 (by kernel_rfl) (by kernel_rfl) (by kernel_rfl) (by kernel_rfl)
  have hAs := @run_callFunc_extern Tryd.prog 117 _ (ReflectliteType.relation "AssignableTo" ReflectliteType.assignableTo) Tryd.func117 (by kernel_rfl) (by kernel_rfl) (by kernel_rfl) (by kernel_rfl)
  have hVo := @run_callFunc_extern Tryd.prog 69 _ (fun args => ReflectliteValue.unpack (args.getD 0 (.tuple #[]))) Tryd.func69 (by kernel_rfl) (by kernel_rfl) (by kernel_rfl) (by kernel_rfl)
  have hVe := @run_callFunc_extern Tryd.prog 85 _ (ReflectliteValue.method (ReflectliteValue.valueError "reflectlite.Value.Elem" 0) ReflectliteValue.elem) Tryd.func85 (by kernel_rfl) (by kernel_rfl) (by kernel_rfl) (by kernel_rfl)
  have hVs := @run_callFunc_extern Tryd.prog 86 _ ReflectliteValue.set Tryd.func86 (by kernel_rfl) (by kernel_rfl) (by kernel_rfl) (by kernel_rfl)
  have tO := typeOfE
  have tP := typeOfP
  have mA := mAssign
  have a1 := asEE
  have a2 := asPE
  have a3 := asEP
  have a4 := asPP
  have nA := noAsP
  have nB := noAsE
  have nU := noUnE
  have nV := noUnsE
  have hU := hasUnP
  have mU := mUnwrap
  have vE := valueOfE
  have vP := valueOfP
  have htl : t.block < w0.heap.size := World.block_lt_of_cell? w0 t ht
  have hal : a.block < w0.heap.size := World.block_lt_of_cell? w0 a ha
  have el := elemVE a t (w0.alloc (.cells #[.pointer (some ⟨1, 81, none⟩), .pointer (some a), .int .u64 150] 107)) (by rw [World.cell?_alloc_lt _ _ a hal]; exact ha)
  have st := setE t ⟨w0.heap.size + 1, 0, none⟩ n old (((w0.alloc (.cells #[.pointer (some ⟨1, 81, none⟩), .pointer (some a), .int .u64 150] 107))).alloc (.cells #[.int .i64 n] 44))
    (by rw [World.cell?_alloc_at _ _ _ _ (by simp)]; rfl)
    (by rw [World.cell?_alloc_lt _ _ t (by simp <;> omega), World.cell?_alloc_lt _ _ t htl]; exact ht)
    (by rw [World.frozen?_alloc_old _ _ t (by simp <;> omega), World.frozen?_alloc_old _ _ t (Nat.ne_of_lt htl)]; exact hf)
  go_enter Tryd.func72, Tryd.ntmps72
  go_wp2
  refine wp_loop_rounds (eDep e + 1) ?_
  refine (?key : ∀ (e : Err), errOk e = true → e ≠ .nil → eNum e = some n → ∀ (v : Value), RepT Tryd.prog w0 F (trE ids e) v → ∀ y1 y2 y4 y5 y7 y9 y10 y11 y12 y13 y14 y15 y16 y17 y18 y19 y20 y21 y22 y23 y24 y25 y26 y27 y28 y29 y30 y31 y32 y33 y34 y35 y36 y37 y38 y39 y40 y41 y42 y43 y44 y45 y46 y47 y48 y49 y50 y51 y52 y53 y54 y55 y56 y57 y58 y59 y60 y61 : Value, Code.rounds Tryd.prog _ _ (eDep e + 1) ⟨#[v, y1, y2, .iface 115 (.agg #[.pointer (some ⟨1, 44, none⟩)]), y4, y5, .pointer (some ⟨w0.heap.size, 0, none⟩), y7, .bool false, y9, y10, y11, y12, y13, y14, y15, y16, y17, y18, y19, y20, y21, y22, y23, y24, y25, y26, y27, y28, y29, y30, y31, y32, y33, y34, y35, y36, y37, y38, y39, y40, y41, y42, y43, y44, y45, y46, y47, y48, y49, y50, y51, y52, y53, y54, y55, y56, y57, y58, y59, y60, y61], []⟩ (w0.alloc (.cells #[.pointer (some ⟨1, 81, none⟩), .pointer (some a), .int .u64 150] 107))) e he hnil hprem v hv _ _ _ _ _ _ _ _ _ _ _ _ _ _ _ _ _ _ _ _ _ _ _ _ _ _ _ _ _ _ _ _ _ _ _ _ _ _ _ _ _ _ _ _ _ _ _ _ _ _ _ _ _ _ _ _ _ _
  intro e
  induction e with
  | nil => intro _ hne; exact absurd rfl hne
  | txt s => intro he; cases he
  | no m =>
    intro _ _ hn v hv y1 y2 y4 y5 y7 y9 y10 y11 y12 y13 y14 y15 y16 y17 y18 y19 y20 y21 y22 y23 y24 y25 y26 y27 y28 y29 y30 y31 y32 y33 y34 y35 y36 y37 y38 y39 y40 y41 y42 y43 y44 y45 y46 y47 y48 y49 y50 y51 y52 y53 y54 y55 y56 y57 y58 y59 y60 y61
    obtain rfl : m = n := Option.some.inj hn
    obtain rfl := rep_no hv
    rw [show eDep (.no m) + 1 = 0 + 1 from rfl, rounds_succ]
    go_wp2
    go_ret
    exact ⟨rfl, rfl⟩
  | «at» m e ih =>
    intro he _ hn v hv y1 y2 y4 y5 y7 y9 y10 y11 y12 y13 y14 y15 y16 y17 y18 y19 y20 y21 y22 y23 y24 y25 y26 y27 y28 y29 y30 y31 y32 y33 y34 y35 y36 y37 y38 y39 y40 y41 y42 y43 y44 y45 y46 y47 y48 y49 y50 y51 y52 y53 y54 y55 y56 y57 y58 y59 y60 y61
    obtain ⟨pb, po, u, rfl, _, h0, h1, hu⟩ := rep_at hv
    have hpl : pb < w0.heap.size := World.block_lt_of_cell? w0 _ h1
    have h1' : (w0.alloc (.cells #[.pointer (some ⟨1, 81, none⟩), .pointer (some a), .int .u64 150] 107)).cell? ⟨pb, po + 1, none⟩ = some u := by rw [World.cell?_alloc_lt _ _ ⟨pb, po + 1, none⟩ hpl]; exact h1
    have hne : e ≠ .nil := fun h => by subst h; cases hn
    have ih := ih he hne hn u hu
    obtain ⟨tt, x, rfl⟩ : ∃ tt x, u = .iface tt x := by
      rcases rep_head (e := e) he hu with ⟨_, h⟩ | ⟨tt, x, h, _⟩
      · exact absurd h hne
      · exact ⟨tt, x, h⟩
    rw [show eDep (.at m e) + 1 = (eDep e + 1) + 1 from rfl, rounds_succ]
    go_wp2
set_option maxHeartbeats 40000000 in
theorem as_miss (w0 : World) (F : Nat → Prop) (t a : Addr) (old : Value) (ha : w0.cell? a = some (.pointer (some t))) (ht : w0.cell? t = some old) (hf : w0.frozen? t = false)
    (e : Err) (v : Value) (he : errOk e = true) (hnil : e ≠ .nil) (hprem : eNum e = none) (hv : RepT Tryd.prog w0 F (trE ids e) v) :
    Calls Tryd.prog 72 #[v, .iface 81 (.pointer (some t)), .agg #[.pointer (some ⟨1, 81, none⟩), .pointer (some a), .int .u64 150], .iface 115 (.agg #[.pointer (some ⟨1, 44, none⟩)])] w0 fun ev w' => ev = .returned (.bool false) ∧ w' = w0.alloc (.cells #[.pointer (some ⟨1, 81, none⟩), .pointer (some a), .int .u64 150] 107) := by
  have hTo := @run_callFunc_extern Tryd.prog 57 _ ReflectliteType.typeOf Tryd.func57 (by kernel_rfl) (by kernel_rfl) (by kernel_rfl) (by kernel_rfl)
  have hAs := @run_callFunc_extern Tryd.prog 117 _ (ReflectliteType.relation "AssignableTo" ReflectliteType.assignableTo) Tryd.func117 (by kernel_rfl) (by kernel_rfl) (by kernel_rfl) (by kernel_rfl)
  have hVo := @run_callFunc_extern Tryd.prog 69 _ (fun args => ReflectliteValue.unpack (args.getD 0 (.tuple #[]))) Tryd.func69 (by kernel_rfl) (by kernel_rfl) (by kernel_rfl) (by kernel_rfl)
  have hVe := @run_callFunc_extern Tryd.prog 85 _ (ReflectliteValue.method (ReflectliteValue.valueError "reflectlite.Value.Elem" 0) ReflectliteValue.elem) Tryd.func85 (by kernel_rfl) (by kernel_rfl) (by kernel_rfl) (by kernel_rfl)
  have hVs := @run_callFunc_extern Tryd.prog 86 _ ReflectliteValue.set Tryd.func86 (by kernel_rfl) (by kernel_rfl) (by kernel_rfl) (by kernel_rfl)
  have tO := typeOfE
  have tP := typeOfP
  have mA := mAssign
  have a1 := asEE
  have a2 := asPE
  have a3 := asEP
  have a4 := asPP
  have nA := noAsP
  have nB := noAsE
  have nU := noUnE
  have nV := noUnsE
  have hU := hasUnP
  have mU := mUnwrap
  have vE := valueOfE
  have vP := valueOfP
  have htl : t.block < w0.heap.size := World.block_lt_of_cell? w0 t ht
  have hal : a.block < w0.heap.size := World.block_lt_of_cell? w0 a ha
  go_enter Tryd.func72, Tryd.ntmps72
  go_wp2
  refine wp_loop_rounds (eDep e + 1) ?_
  refine (?key : ∀ (e : Err), errOk e = true → e ≠ .nil → eNum e = none → ∀ (v : Value), RepT Tryd.prog w0 F (trE ids e) v → ∀ y1 y2 y4 y5 y7 y9 y10 y11 y12 y13 y14 y15 y16 y17 y18 y19 y20 y21 y22 y23 y24 y25 y26 y27 y28 y29 y30 y31 y32 y33 y34 y35 y36 y37 y38 y39 y40 y41 y42 y43 y44 y45 y46 y47 y48 y49 y50 y51 y52 y53 y54 y55 y56 y57 y58 y59 y60 y61 : Value, Code.rounds Tryd.prog _ _ (eDep e + 1) ⟨#[v, y1, y2, .iface 115 (.agg #[.pointer (some ⟨1, 44, none⟩)]), y4, y5, .pointer (some ⟨w0.heap.size, 0, none⟩), y7, .bool false, y9, y10, y11, y12, y13, y14, y15, y16, y17, y18, y19, y20, y21, y22, y23, y24, y25, y26, y27, y28, y29, y30, y31, y32, y33, y34, y35, y36, y37, y38, y39, y40, y41, y42, y43, y44, y45, y46, y47, y48, y49, y50, y51, y52, y53, y54, y55, y56, y57, y58, y59, y60, y61], []⟩ (w0.alloc (.cells #[.pointer (some ⟨1, 81, none⟩), .pointer (some a), .int .u64 150] 107))) e he hnil hprem v hv _ _ _ _ _ _ _ _ _ _ _ _ _ _ _ _ _ _ _ _ _ _ _ _ _ _ _ _ _ _ _ _ _ _ _ _ _ _ _ _ _ _ _ _ _ _ _ _ _ _ _ _ _ _ _ _ _ _
  intro e
  induction e with
  | nil => intro _ hne; exact absurd rfl hne
  | txt s => intro he; cases he
  | no m => intro _ _ hn; cases hn
  | «at» m e ih =>
    intro he _ hn v hv y1 y2 y4 y5 y7 y9 y10 y11 y12 y13 y14 y15 y16 y17 y18 y19 y20 y21 y22 y23 y24 y25 y26 y27 y28 y29 y30 y31 y32 y33 y34 y35 y36 y37 y38 y39 y40 y41 y42 y43 y44 y45 y46 y47 y48 y49 y50 y51 y52 y53 y54 y55 y56 y57 y58 y59 y60 y61
    obtain ⟨pb, po, u, rfl, _, h0, h1, hu⟩ := rep_at hv
    have hpl : pb < w0.heap.size := World.block_lt_of_cell? w0 _ h1
    have h1' : (w0.alloc (.cells #[.pointer (some ⟨1, 81, none⟩), .pointer (some a), .int .u64 150] 107)).cell? ⟨pb, po + 1, none⟩ = some u := by rw [World.cell?_alloc_lt _ _ ⟨pb, po + 1, none⟩ hpl]; exact h1
    by_cases hne : e = .nil
    · subst hne
      obtain rfl := rep_nil hu
      rw [show eDep (.at m .nil) + 1 = (eDep .nil + 1) + 1 from rfl, rounds_succ]
      go_wp2
      go_ret
      exact ⟨rfl, rfl⟩
    · have ih := ih he hne hn u hu
      obtain ⟨tt, x, rfl⟩ : ∃ tt x, u = .iface tt x := by
        rcases rep_head (e := e) he hu with ⟨_, h⟩ | ⟨tt, x, h, _⟩
        · exact absurd h hne
        · exact ⟨tt, x, h⟩
      rw [show eDep (.at m e) + 1 = (eDep e + 1) + 1 from rfl, rounds_succ]
      go_wp2
end Go.Proofs.YtgenmananhffoaaDoor
noncomputable section
namespace Go.Proofs.YtgenmananhffoaaDoor
open Go.RowKit Go.Extern.Stop Go.Stop Go.Extern Go.Y
open Go.Eng (RepT)
theorem As_nil (t : Value) (w : World) : Calls Tryd.prog 55 #[.nilIface, t] w fun e w' => e = .returned (.bool false) ∧ w' = w := by
  go_enter Tryd.func55, Tryd.ntmps55
  go_wp2
  go_ret
  exact ⟨rfl, rfl⟩
set_option maxHeartbeats 40000000 in
theorem AsE_hit (w : World) (t : Addr) (old : Value) (hg : w.cell? ⟨0, 0, none⟩ = some (.iface 115 (.agg #[.pointer (some ⟨1, 29, none⟩)]))) (ht : w.cell? t = some old) (hf : w.frozen? t = false) (n : Int) (F : Nat → Prop) (hF : ∀ b, F b → b < w.heap.size) (e : Err) (v : Value) (he : errOk e = true) (hnil : e ≠ .nil) (hv : RepT Tryd.prog w F (trE ids e) v) (hn : eNum e = some n) :
    Calls Tryd.prog 55 #[v, .iface 81 (.pointer (some t))] w fun ev w' => ev = .returned (.bool true) ∧ GrownX t.block w w' ∧ w'.cell? t = some (.int .i64 n) ∧ w'.frozen? t = false := by
  have hVo := @run_callFunc_extern Tryd.prog 69 _ (fun args => ReflectliteValue.unpack (args.getD 0 (.tuple #[]))) Tryd.func69 (by kernel_rfl) (by kernel_rfl) (by kernel_rfl) (by kernel_rfl)
  have hVt := @run_callFunc_extern Tryd.prog 70 _ (ReflectliteValue.methodAny (ReflectliteValue.valueError "reflectlite.Value.Type" 0) (fun t _ _ _ => ReflectliteType.toType t)) Tryd.func70 (by kernel_rfl) (by kernel_rfl) (by kernel_rfl) (by kernel_rfl)
  have hVn := @run_callFunc_extern Tryd.prog 71 _ (ReflectliteValue.method (ReflectliteValue.valueError "reflectlite.Value.IsNil" 0) ReflectliteValue.isNil) Tryd.func71 (by kernel_rfl) (by kernel_rfl) (by kernel_rfl) (by kernel_rfl)
  have hTk := @run_callFunc_extern Tryd.prog 107 _ (ReflectliteType.abiMethod fun t => do pure (.int .u8 (← Rtype.kind t))) Tryd.func107 (by kernel_rfl) (by kernel_rfl) (by kernel_rfl) (by kernel_rfl)
  have hRe := @run_callFunc_extern Tryd.prog 119 _ (ReflectliteType.method ReflectliteType.elem) Tryd.func119 (by kernel_rfl) (by kernel_rfl) (by kernel_rfl) (by kernel_rfl)
  have hRi := @run_callFunc_extern Tryd.prog 120 _ (ReflectliteType.relation "Implements" ReflectliteType.implements_) Tryd.func120 (by kernel_rfl) (by kernel_rfl) (by kernel_rfl) (by kernel_rfl)
  have mK := mKind
  have mE := mElem
  have mI := mImpl
  have f1 := valueOfE_
  have f2 := typeE_
  have f3 := kindE_
  have f4 := kindEt
  have f5 := elemTE_
  have f6 := implE
  obtain ⟨tt, x, rfl⟩ : ∃ tt x, v = .iface tt x := by
    rcases rep_head he hv with ⟨_, h⟩ | ⟨tt, x, h, _⟩
    · exact absurd h hnil
    · exact ⟨tt, x, h⟩
  have hgl : (0 : Nat) < w.heap.size := World.block_lt_of_cell? w _ hg
  have htl : t.block < w.heap.size := World.block_lt_of_cell? w t ht
  have n8 := isNilE ⟨w.heap.size, 0, none⟩ t ((w.alloc (.cells #[.pointer (some t)] 81)).alloc (.cells #[.pointer (some ⟨1, 81, none⟩), .pointer (some ⟨w.heap.size, 0, none⟩), .int .u64 150] 107)) (by rw [World.cell?_alloc_lt _ _ ⟨w.heap.size, 0, none⟩ (by simp)]; simp)
  have hg2 : (((w.alloc (.cells #[.pointer (some t)] 81)).alloc (.cells #[.pointer (some ⟨1, 81, none⟩), .pointer (some ⟨w.heap.size, 0, none⟩), .int .u64 150] 107))).cell? ⟨0, 0, none⟩ = some (.iface 115 (.agg #[.pointer (some ⟨1, 29, none⟩)])) := by
    rw [World.cell?_alloc_lt _ _ ⟨0, 0, none⟩ (by simp <;> omega), World.cell?_alloc_lt _ _ ⟨0, 0, none⟩ hgl]; exact hg
  have ht2 : (((w.alloc (.cells #[.pointer (some t)] 81)).alloc (.cells #[.pointer (some ⟨1, 81, none⟩), .pointer (some ⟨w.heap.size, 0, none⟩), .int .u64 150] 107))).cell? t = some old := by
    rw [World.cell?_alloc_lt _ _ t (by simp <;> omega), World.cell?_alloc_lt _ _ t htl]; exact ht
  have hf2 : (((w.alloc (.cells #[.pointer (some t)] 81)).alloc (.cells #[.pointer (some ⟨1, 81, none⟩), .pointer (some ⟨w.heap.size, 0, none⟩), .int .u64 150] 107))).frozen? t = false := by
    rw [World.frozen?_alloc_old _ _ t (by simp <;> omega), World.frozen?_alloc_old _ _ t (Nat.ne_of_lt htl)]; exact hf
  have ha2 : (((w.alloc (.cells #[.pointer (some t)] 81)).alloc (.cells #[.pointer (some ⟨1, 81, none⟩), .pointer (some ⟨w.heap.size, 0, none⟩), .int .u64 150] 107))).cell? ⟨w.heap.size, 0, none⟩ = some (.pointer (some t)) := by
    rw [World.cell?_alloc_lt _ _ ⟨w.heap.size, 0, none⟩ (by simp)]; simp
  have key := as_hit n ((w.alloc (.cells #[.pointer (some t)] 81)).alloc (.cells #[.pointer (some ⟨1, 81, none⟩), .pointer (some ⟨w.heap.size, 0, none⟩), .int .u64 150] 107)) F t ⟨w.heap.size, 0, none⟩ old ha2 ht2 hf2 e _ he hnil hn (hv.mono (F' := F) (fun b hb hl => by rw [Go.RowKit.Below.heap_alloc _ _ b (by simp <;> omega), Go.RowKit.Below.heap_alloc _ _ b hl]) (fun b hb => hb))
  go_enter Tryd.func55, Tryd.ntmps55
  go_wp2_with (first | (go_at_call 72; refine key.mono ?_; rintro e w' ⟨rfl, rfl⟩))
  go_ret
  refine ⟨rfl, (((((GrownX.refl t.block w).alloc _).alloc _).alloc _).alloc _).set t _ rfl, ?_, ?_⟩
  rotate_left
  · rw [World.frozen?_setCell, World.frozen?_alloc_old _ _ t (by simp <;> omega), World.frozen?_alloc_old _ _ t (by simp <;> omega)]; exact hf2
  refine World.cell?_setCell_same _ t _ (u := old) ?_
  rw [World.cell?_alloc_lt _ _ t (by simp <;> omega), World.cell?_alloc_lt _ _ t (by simp <;> omega)]; exact ht2
set_option maxHeartbeats 40000000 in
theorem AsE_miss (w : World) (t : Addr) (old : Value) (hg : w.cell? ⟨0, 0, none⟩ = some (.iface 115 (.agg #[.pointer (some ⟨1, 29, none⟩)]))) (ht : w.cell? t = some old) (hf : w.frozen? t = false) (F : Nat → Prop) (hF : ∀ b, F b → b < w.heap.size) (e : Err) (v : Value) (he : errOk e = true) (hnil : e ≠ .nil) (hv : RepT Tryd.prog w F (trE ids e) v) (hn : eNum e = none) :
    Calls Tryd.prog 55 #[v, .iface 81 (.pointer (some t))] w fun ev w' => ev = .returned (.bool false) ∧ GrownX t.block w w' ∧ w'.cell? t = some (old) ∧ w'.frozen? t = false := by
  have hVo := @run_callFunc_extern Tryd.prog 69 _ (fun args => ReflectliteValue.unpack (args.getD 0 (.tuple #[]))) Tryd.func69 (by kernel_rfl) (by kernel_rfl) (by kernel_rfl) (by kernel_rfl)
  have hVt := @run_callFunc_extern Tryd.prog 70 _ (ReflectliteValue.methodAny (ReflectliteValue.valueError "reflectlite.Value.Type" 0) (fun t _ _ _ => ReflectliteType.toType t)) Tryd.func70 (by kernel_rfl) (by kernel_rfl) (by kernel_rfl) (by kernel_rfl)
  have hVn := @run_callFunc_extern Tryd.prog 71 _ (ReflectliteValue.method (ReflectliteValue.valueError "reflectlite.Value.IsNil" 0) ReflectliteValue.isNil) Tryd.func71 (by kernel_rfl) (by kernel_rfl) (by kernel_rfl) (by kernel_rfl)
  have hTk := @run_callFunc_extern Tryd.prog 107 _ (ReflectliteType.abiMethod fun t => do pure (.int .u8 (← Rtype.kind t))) Tryd.func107 (by kernel_rfl) (by kernel_rfl) (by kernel_rfl) (by kernel_rfl)
  have hRe := @run_callFunc_extern Tryd.prog 119 _ (ReflectliteType.method ReflectliteType.elem) Tryd.func119 (by kernel_rfl) (by kernel_rfl) (by kernel_rfl) (by kernel_rfl)
  have hRi := @run_callFunc_extern Tryd.prog 120 _ (ReflectliteType.relation "Implements" ReflectliteType.implements_) Tryd.func120 (by kernel_rfl) (by kernel_rfl) (by kernel_rfl) (by kernel_rfl)
  have mK := mKind
  have mE := mElem
  have mI := mImpl
  have f1 := valueOfE_
  have f2 := typeE_
  have f3 := kindE_
  have f4 := kindEt
  have f5 := elemTE_
  have f6 := implE
  obtain ⟨tt, x, rfl⟩ : ∃ tt x, v = .iface tt x := by
    rcases rep_head he hv with ⟨_, h⟩ | ⟨tt, x, h, _⟩
    · exact absurd h hnil
    · exact ⟨tt, x, h⟩
  have hgl : (0 : Nat) < w.heap.size := World.block_lt_of_cell? w _ hg
  have htl : t.block < w.heap.size := World.block_lt_of_cell? w t ht
  have n8 := isNilE ⟨w.heap.size, 0, none⟩ t ((w.alloc (.cells #[.pointer (some t)] 81)).alloc (.cells #[.pointer (some ⟨1, 81, none⟩), .pointer (some ⟨w.heap.size, 0, none⟩), .int .u64 150] 107)) (by rw [World.cell?_alloc_lt _ _ ⟨w.heap.size, 0, none⟩ (by simp)]; simp)
  have hg2 : (((w.alloc (.cells #[.pointer (some t)] 81)).alloc (.cells #[.pointer (some ⟨1, 81, none⟩), .pointer (some ⟨w.heap.size, 0, none⟩), .int .u64 150] 107))).cell? ⟨0, 0, none⟩ = some (.iface 115 (.agg #[.pointer (some ⟨1, 29, none⟩)])) := by
    rw [World.cell?_alloc_lt _ _ ⟨0, 0, none⟩ (by simp <;> omega), World.cell?_alloc_lt _ _ ⟨0, 0, none⟩ hgl]; exact hg
  have ht2 : (((w.alloc (.cells #[.pointer (some t)] 81)).alloc (.cells #[.pointer (some ⟨1, 81, none⟩), .pointer (some ⟨w.heap.size, 0, none⟩), .int .u64 150] 107))).cell? t = some old := by
    rw [World.cell?_alloc_lt _ _ t (by simp <;> omega), World.cell?_alloc_lt _ _ t htl]; exact ht
  have hf2 : (((w.alloc (.cells #[.pointer (some t)] 81)).alloc (.cells #[.pointer (some ⟨1, 81, none⟩), .pointer (some ⟨w.heap.size, 0, none⟩), .int .u64 150] 107))).frozen? t = false := by
    rw [World.frozen?_alloc_old _ _ t (by simp <;> omega), World.frozen?_alloc_old _ _ t (Nat.ne_of_lt htl)]; exact hf
  have ha2 : (((w.alloc (.cells #[.pointer (some t)] 81)).alloc (.cells #[.pointer (some ⟨1, 81, none⟩), .pointer (some ⟨w.heap.size, 0, none⟩), .int .u64 150] 107))).cell? ⟨w.heap.size, 0, none⟩ = some (.pointer (some t)) := by
    rw [World.cell?_alloc_lt _ _ ⟨w.heap.size, 0, none⟩ (by simp)]; simp
  have key := as_miss ((w.alloc (.cells #[.pointer (some t)] 81)).alloc (.cells #[.pointer (some ⟨1, 81, none⟩), .pointer (some ⟨w.heap.size, 0, none⟩), .int .u64 150] 107)) F t ⟨w.heap.size, 0, none⟩ old ha2 ht2 hf2 e _ he hnil hn (hv.mono (F' := F) (fun b hb hl => by rw [Go.RowKit.Below.heap_alloc _ _ b (by simp <;> omega), Go.RowKit.Below.heap_alloc _ _ b hl]) (fun b hb => hb))
  go_enter Tryd.func55, Tryd.ntmps55
  go_wp2_with (first | (go_at_call 72; refine key.mono ?_; rintro e w' ⟨rfl, rfl⟩))
  go_ret
  refine ⟨rfl, (((GrownX.refl t.block w).alloc _).alloc _).alloc _, ?_, ?_⟩
  rotate_left
  · rw [World.frozen?_alloc_old _ _ t (by simp <;> omega)]; exact hf2
  rw [World.cell?_alloc_lt _ _ t (by simp <;> omega)]; exact ht2
end Go.Proofs.YtgenmananhffoaaDoor
namespace Go.Y
open Go.Eng (T RepT RepM SRep Kept Base G SameOn VRep)
variable {P : Program} {I : Ids}
def leafOut (B : Ty) : St Ty := ⟨[(0, .lf B)], [], []⟩
theorem FnOk.grown {φ : FnP} {f : FuncId} {ts : List Ty} {B : Ty} {F : (tupTy ts).den → Option B.den} (hfn : ∃ fn, P.funcs[f]? = some fn ∧ (fn.name == "runtime.NumGoroutine") = false ∧ fn.body.isNone = false)
    (run : ∀ x r, F x = some r → ∀ vs, (tupL vs).as (tupTy ts) = some x → vs.map (·.ty) = ts → ∀ (w : World) (Fr : Nat → Prop) (us : Array Value), GlobW I w → (∀ b, Fr b → b < w.heap.size) → us.size = vs.length →
      (∀ (j : Nat) v, vs[j]? = some v → ∃ u, us[j]? = some u ∧ RepT P w Fr (trL I φ v) u) →
      Calls P f us w fun e w' => ∃ u F', e = .returned u ∧ Grown w w' Fr F' ∧ RepT P w' F' (trL I φ ⟨B, r⟩) u) :
    FnOk P I φ f ⟨lfState ts, leafOut B, false, [], ⟨[], [], [], []⟩, none⟩ ⟨tupTy ts, B, F⟩ := by
  refine FnOk.mk0 rfl hfn rfl (fun x r hF vs hx hty β w g us hinv hus hrep => ?_)
  have hlf : ∀ ts : List Ty, leafs (lfState ts) = ts := by
    intro ts
    have : ∀ (n : Nat) (ts : List Ty), leafs.go1 (lfState.zipL n ts) = ts := by
      intro n ts
      induction ts generalizing n with
      | nil => rfl
      | cons t r ih => simp only [lfState.zipL, leafs.go1, leafsA, ih]; rfl
    show leafs.go1 (lfState.zipL 0 ts) ++ leafs.go2 [] = _
    rw [this]; simp [leafs.go2]
  have hty : vs.map (·.ty) = ts := hty.trans (hlf ts)
  subst hty
  have hfill : fill (lfState (vs.map (·.ty))) vs = ⟨zipN 0 (vs.map .lf), [], []⟩ := fill_lfState vs
  have hinv : Inv P I φ β (fill (lfState (vs.map (·.ty))) vs) g w := hinv
  have hus : us.size = (lfState (vs.map (·.ty))).env.length := hus
  have hrep : ∀ (j : Nat) x, get (fill (lfState (vs.map (·.ty))) vs).env j = some x → ∃ u, us[j]? = some u ∧ ARep P I φ (fill (lfState (vs.map (·.ty))) vs) g w x u := hrep
  rw [hfill] at hinv hrep
  refine (run x r hF vs hx rfl w g.F us hinv.globW hinv.f (by rw [hus]; simp [lfState, zipL_len]) (fun j v hj => ?_)).mono fun e w' ⟨u, F', he, hg, hr⟩ => ?_
  · obtain ⟨u, hu, h⟩ := hrep j (.lf v) (by
      simp only [zipN_get, Nat.zero_le, if_true, Nat.sub_zero, List.getElem?_map, hj, Option.map_some])
    exact ⟨u, hu, arep_lf h⟩
  · obtain ⟨h1, h2⟩ := inv_grown' hinv hg
    refine ⟨u, he, { g with F := F' }, [⟨B, r⟩], fun c => rfl, ?_, ?_, ?_⟩
    · exact h2.env [(0, .lf ⟨B, r⟩)] []
    · intro y hy
      have hy : some (AV.lf ⟨B, r⟩) = some y := hy
      cases hy
      exact .lf _ _ hr
    · intro i p z u' hi
      exact absurd hi (by simp)
where
  inv_grown' {φ : FnP} {β : Base} {st : St L} {g : G} {w w' : World} {F' : Nat → Prop} (h : Inv P I φ β st g w) (hg : Grown w w' g.F F') : Pass P I φ st g w st { g with F := F' } w' ∧ Inv P I φ β st { g with F := F' } w' := inv_grown h hg
theorem rep_ints {φ : FnP} {w : World} {F : Nat → Prop} {e : TypeId} {l : List Int} {u : Value} (h : RepT P w F (trL I φ ⟨.sl e (.int .i64), l⟩) u) :
    (l = [] ∧ ∃ base cap, u = .slice base 0 cap) ∨ ∃ b off cap, u = .slice (some ⟨b, off, none⟩) l.length cap ∧ l.length ≤ cap ∧ (l ≠ [] → F b) ∧ ∀ (j : Nat) x, l[j]? = some x → w.cell? ⟨b, off + j, none⟩ = some (.int .i64 x) := by
  have h : RepT P w F (.sl e false (l.map fun x => one (.int .i64) (trc I φ (.int .i64) x))) u := h
  generalize hx : (l.map fun x => one (.int .i64) (trc I φ (.int .i64) x)) = xs at h
  cases h with
  | nsl => exact .inl ⟨List.map_eq_nil_iff.1 hx, none, 0, rfl⟩
  | esl _ _ b cap => exact .inl ⟨List.map_eq_nil_iff.1 hx, some b, cap, rfl⟩
  | sl _ _ _ b off cap us hF hs hl hc hr =>
    subst hx
    rw [List.length_map] at hl
    refine .inr ⟨b, off, cap, by rw [List.length_map], hl, fun hne => hF (by simpa using hne), fun j x hj => ?_⟩
    have hj' : (Go.Eng.flat (l.map fun x => one (.int .i64) (trc I φ (.int .i64) x)))[j]? = some (.i .i64 x) := by rw [flat_ints]; simp [hj]
    rw [hc j _ hj']
    have := hr j _ hj'
    generalize us j = u at this
    cases this; rfl
theorem give_ints {φ : FnP} {w : World} {F : Nat → Prop} {base : Nat} {e : TypeId} {l : List Int} {u : Value} (hc : P.cellsOf e = 1) (ha : Go.Eng.aggOf P e = false) (h : w.ownsRow base e 1 u l.length (l.map (Value.int .i64))) :
    RepT P w (fun b => F b ∨ u.ownBlock = some b) (trL I φ ⟨.sl e (.int .i64), l⟩) u := by
  show RepT P w _ (.sl e false (l.map fun x => one (.int .i64) (trc I φ (.int .i64) x))) u
  have hfit : ∀ x ∈ l.map (fun x => one (.int .i64) (trc I φ (.int .i64) x)), Go.Eng.Fits P e x := by
    intro x hx
    obtain ⟨n, _, rfl⟩ := List.mem_map.1 hx
    exact ⟨hc.symm, ha.symm⟩
  rcases h.2 with ⟨hv, hn⟩ | ⟨g, cap, cur, hv, hb, hgg, hle, hmx, hsz, hcur⟩
  · have : l = [] := List.eq_nil_of_length_eq_zero hn
    subst this; subst hv
    exact .nsl _ _
  · subst hv
    have hcell : ∀ (j : Nat) x, l[j]? = some x → w.cell? ⟨g, j, none⟩ = some (.int .i64 x) := by
      intro j x hj
      have := h.cells (g := g) rfl j (.int .i64 x) (by simp [hj])
      rwa [show (⟨g, 0, none⟩ : Addr).add j = ⟨g, j, none⟩ by unfold Addr.add; split <;> simp_all] at this
    have := RepT.sl (P := P) (w := w) (F := fun b => F b ∨ (Value.slice (some ⟨g, 0, none⟩) l.length cap).ownBlock = some b) e false (l.map fun x => one (.int .i64) (trc I φ (.int .i64) x)) g 0 cap (fun j => .int .i64 (l.getD j 0)) (fun _ => .inr rfl) hfit (by rw [List.length_map]; exact hle)
      (fun j t hj => by
        rw [flat_ints, List.getElem?_map] at hj
        cases hl : l[j]? with
        | none => rw [hl] at hj; cases hj
        | some x =>
          rw [Nat.zero_add, hcell j x hl, List.getD_eq_getElem?_getD, hl]; rfl)
      (fun j t hj => by
        rw [flat_ints, List.getElem?_map] at hj
        cases hl : l[j]? with
        | none => rw [hl] at hj; cases hj
        | some x =>
          rw [hl] at hj
          have hj : some (T.i .i64 x) = some t := hj
          cases hj
          rw [List.getD_eq_getElem?_getD, hl]
          exact .i _ _)
    rwa [List.length_map] at this
theorem GrownX.grown {w w' : World} (h : GrownX w.heap.size w w') {F F' : Nat → Prop} (h1 : ∀ b, F b → F' b) (h2 : ∀ b, F' b → F b ∨ (w.heap.size ≤ b ∧ b < w'.heap.size)) : Grown w w' F F' :=
  ⟨h.os, h.tape, h.output, h.size, fun b hb => h.block b hb (by omega), h1, h2⟩
theorem GrownX.same {w w' : World} (h : GrownX w.heap.size w w') {F : Nat → Prop} (hF : ∀ b, F b → b < w.heap.size) : SameOn F w w' := fun b hb hl => h.block b hl (by have := hF b hb; omega)
end Go.Y
noncomputable section
namespace Go.Proofs.YtgenmananhffoaaDoor
open Go.RowKit Go.Extern.Stop Go.Stop Go.Extern Go.Y
open Go.Eng (RepT T)
set_option maxHeartbeats 40000000 in
theorem Kind_call (w : World) (F : Nat → Prop) (hF : ∀ b, F b → b < w.heap.size) (hg : w.cell? ⟨0, 0, none⟩ = some (.iface 115 (.agg #[.pointer (some ⟨1, 29, none⟩)]))) (e : Err) (v : Value) (he : errOk e = true) (hv : RepT Tryd.prog w F (trE ids e) v) :
    Calls Tryd.prog 39 #[v] w fun ev w' => GrownX w.heap.size w w' ∧ ∃ k, zKind e = some k ∧ ev = .returned (.int .i64 k) := by
  by_cases hnil : e = .nil
  · subst hnil
    obtain rfl := rep_nil hv
    go_enter Tryd.func39, Tryd.ntmps39
    go_wp2
    go_ret
    exact ⟨GrownX.refl _ _, 0, rfl, rfl⟩
  · have hgl : (0 : Nat) < w.heap.size := World.block_lt_of_cell? w _ hg
    have hg1 : (w.alloc (.cells #[.int .i64 0] 44)).cell? ⟨0, 0, none⟩ = some (.iface 115 (.agg #[.pointer (some ⟨1, 29, none⟩)])) := by rw [World.cell?_alloc_lt _ _ ⟨0, 0, none⟩ hgl]; exact hg
    have ht1 : (w.alloc (.cells #[.int .i64 0] 44)).cell? ⟨w.heap.size, 0, none⟩ = some (.int .i64 0) := by simp
    have hf1 : (w.alloc (.cells #[.int .i64 0] 44)).frozen? ⟨w.heap.size, 0, none⟩ = false := by simp
    have hv1 : RepT Tryd.prog (w.alloc (.cells #[.int .i64 0] 44)) F (trE ids e) v := hv.mono (F' := F) (fun b hb hl => Go.RowKit.Below.heap_alloc _ _ b hl) (fun b hb => hb)
    have hF1 : ∀ b, F b → b < (w.alloc (.cells #[.int .i64 0] 44)).heap.size := fun b hb => by have := hF b hb; simp <;> omega
    have hgr : ∀ w', GrownX w.heap.size (w.alloc (.cells #[.int .i64 0] 44)) w' → GrownX w.heap.size w w' := fun w' h =>
      ⟨h.os, h.tape, h.output, by have := h.size; simp at this; omega, fun b hb hne => by rw [h.block b (by simp <;> omega) hne]; exact Go.RowKit.Below.heap_alloc _ _ b hb⟩
    obtain ⟨tt, x, rfl⟩ : ∃ tt x, v = .iface tt x := by
      rcases rep_head he hv with ⟨_, h⟩ | ⟨tt, x, h, _⟩
      · exact absurd h hnil
      · exact ⟨tt, x, h⟩
    cases hn : eNum e with
    | some n =>
      have key := AsE_hit (w.alloc (.cells #[.int .i64 0] 44)) ⟨w.heap.size, 0, none⟩ _ hg1 ht1 hf1 n F hF1 e _ he hnil hv1 hn
      go_enter Tryd.func39, Tryd.ntmps39
      go_wp2_with (first | (go_at_call 55; refine key.mono ?_; rintro ev w' ⟨rfl, hgx, hcc, hff⟩))
      go_ret
      refine ⟨hgr _ hgx, n, ?_, rfl⟩
      unfold zKind
      rw [he]
      cases e with
      | nil => exact absurd rfl hnil
      | txt s => cases he
      | no m => simp only; rw [hn]
      | «at» m e => simp only; rw [hn]
    | none =>
      have key := AsE_miss (w.alloc (.cells #[.int .i64 0] 44)) ⟨w.heap.size, 0, none⟩ _ hg1 ht1 hf1 F hF1 e _ he hnil hv1 hn
      go_enter Tryd.func39, Tryd.ntmps39
      go_wp2_with (first | (go_at_call 55; refine key.mono ?_; rintro ev w' ⟨rfl, hgx, hcc, hff⟩))
      go_ret
      refine ⟨hgr _ hgx, 21, ?_, rfl⟩
      unfold zKind
      rw [he]
      cases e with
      | nil => exact absurd rfl hnil
      | txt s => cases he
      | no m => cases hn
      | «at» m e => simp only; rw [hn]
theorem glob (w : World) (h : GlobW ids w) : w.cell? ⟨0, 0, none⟩ = some (.iface 115 (.agg #[.pointer (some ⟨1, 29, none⟩)])) := h _ (List.mem_singleton.2 rfl)
def b39 : BF Tryd.prog ids := ⟨39, ⟨lfState [.err], leafOut (.int .i64), false, [], ⟨[], [], [], []⟩, none⟩, .err, .int .i64, fun _ => zKind, fun _ => FnOk.grown (ts := [.err]) (B := .int .i64) (F := zKind) ⟨_, Tryd.func39, by kernel_rfl, by kernel_rfl⟩ (fun (x : Err) (r : Int) hF vs hx hty w Fr us hgw hFr hus hrep => by
  have h1 : vs.length = 1 := by have := congrArg List.length hty; rwa [List.length_map] at this
  obtain ⟨v, rfl⟩ := List.length_eq_one_iff.1 h1
  have hv := as_some (show v.as .err = some x from hx)
  subst hv
  obtain ⟨u, hu, hr⟩ := hrep 0 _ rfl
  have hus2 : us = #[u] := by
    apply Array.ext_getElem?
    intro j
    match j with
    | 0 => rw [hu]; rfl
    | j + 1 => rw [Array.getElem?_eq_none (by rw [hus]; simp), Array.getElem?_eq_none (by simp)]
  subst hus2
  have he : errOk x = true := by
    cases hb : errOk x with
    | true => rfl
    | false => unfold zKind at hF; rw [hb] at hF; cases hF
  refine (Kind_call w Fr hFr (glob w hgw) x u he hr).mono fun ev w' ⟨hgx, k, hk, hev⟩ => ?_
  rw [hF, Option.some.injEq] at hk
  subst hk
  exact ⟨_, Fr, hev, hgx.grown (fun b hb => hb) (fun b hb => .inl hb), .i _ _⟩)⟩
theorem eAt_cons (e : Err) (l : List Int) (k : Nat) (x : Int) (h : l[k]? = some x) : (l.drop k).foldr Err.at e = .at x ((l.drop (k + 1)).foldr Err.at e) := by
  have hk := (List.getElem?_eq_some_iff.1 h).1
  rw [List.drop_eq_getElem_cons hk, List.foldr_cons]
  rw [List.getElem?_eq_getElem hk, Option.some.injEq] at h
  rw [h]
theorem errOk_foldr {e : Err} (he : errOk e = true) : ∀ l : List Int, errOk (l.foldr Err.at e) = true
  | [] => he
  | _ :: r => errOk_foldr he r
theorem foldr_nil {e : Err} (he : e ≠ .nil) : ∀ l : List Int, l.foldr Err.at e ≠ .nil
  | [] => he
  | _ :: _ => fun h => by cases h
set_option maxHeartbeats 40000000 in
theorem At_call (w : World) (F : Nat → Prop) (hF : ∀ b, F b → b < w.heap.size) (e : Err) (v : Value) (hv : RepT Tryd.prog w F (trE ids e) v) (he : errOk e = true) (hnil : e ≠ .nil) (l : List Int) (b off cap : Nat) (hFb : l ≠ [] → F b) (hle : l.length ≤ cap)
    (hcell : ∀ (j : Nat) x, l[j]? = some x → w.cell? ⟨b, off + j, none⟩ = some (.int .i64 x)) (hlen : l.length ≤ 4611686018427387904) :
    Calls Tryd.prog 36 #[v, .slice (some ⟨b, off, none⟩) l.length cap] w fun ev w' => ∃ u F', ev = .returned u ∧ Grown w w' F F' ∧ RepT Tryd.prog w' F' (trE ids (l.foldr Err.at e)) u := by
  obtain ⟨tt, x, rfl⟩ : ∃ tt x, v = .iface tt x := by
    rcases rep_head he hv with ⟨_, h⟩ | ⟨tt, x, h, _⟩
    · exact absurd h hnil
    · exact ⟨tt, x, h⟩
  go_enter Tryd.func36, Tryd.ntmps36
  go_wp2
  refine wp_loop_rounds (l.length + 1) ?_
  refine (?key : ∀ (k : Nat), k ≤ l.length → ∀ (w' : World) (F' : Nat → Prop) (v : Value), Go.Y.Grown w w' F F' → RepT Tryd.prog w' F' (trE ids ((l.drop k).foldr Err.at e)) v → ∀ y2 y3 y4 y6 y7 y8 y9 y10 y11 y12 y13 y14 y15 y16 y17 y18 y19 y20 y21 y22 y23 : Value, Code.rounds Tryd.prog _ _ (k + 1) ⟨#[v, .slice (some ⟨b, off, none⟩) l.length cap, y2, y3, y4, .int .i64 ((k : Int) - 1), y6, y7, y8, y9, y10, y11, y12, y13, y14, y15, y16, y17, y18, y19, y20, y21, y22, y23], []⟩ w') l.length (Nat.le_refl _) w F _ ⟨rfl, rfl, rfl, Nat.le_refl _, fun _ _ => rfl, fun _ h => h, fun _ h => .inl h⟩ (by rw [List.drop_length]; exact hv) _ _ _ _ _ _ _ _ _ _ _ _ _ _ _ _ _ _ _ _ _
  intro k
  induction k with
  | zero =>
    intro _ w' F' v hgr hv y2 y3 y4 y6 y7 y8 y9 y10 y11 y12 y13 y14 y15 y16 y17 y18 y19 y20 y21 y22 y23
    rw [rounds_succ]
    go_wp2
    go_ret
    exact ⟨_, F', rfl, hgr, hv⟩
  | succ k ih =>
    intro hk w' F' v hgr hv y2 y3 y4 y6 y7 y8 y9 y10 y11 y12 y13 y14 y15 y16 y17 y18 y19 y20 y21 y22 y23
    have hkl : k < l.length := by omega
    have hx : l[k]? = some l[k] := List.getElem?_eq_getElem hkl
    have hc := hcell k _ hx
    have hbl : b < w.heap.size := World.block_lt_of_cell? w _ hc
    have hc' : w'.cell? ⟨b, off + k, none⟩ = some (.int .i64 l[k]) := by rw [World.cell?_of_block (hgr.block b hbl)]; exact hc
    obtain ⟨tt, x, rfl⟩ : ∃ tt x, v = .iface tt x := by
      rcases rep_head (errOk_foldr he (l.drop (k + 1))) hv with ⟨_, h⟩ | ⟨tt, x, h, _⟩
      · exact absurd h (foldr_nil hnil _)
      · exact ⟨tt, x, h⟩
    rw [show (((k + 1 : Nat) : Int) - 1) = (k : Int) by omega]
    rw [rounds_succ]
    go_wp2
    refine ih (by omega) (w'.alloc (.cells #[.int .i64 l[k], .iface tt x] 77)) (fun c => F' c ∨ c = w'.heap.size) _ ⟨hgr.os, hgr.tape, hgr.output, Nat.le_trans hgr.size (by simp), fun c hc => by rw [← hgr.block c hc]; exact Go.RowKit.Below.heap_alloc _ _ c (Nat.lt_of_lt_of_le hc hgr.size), fun c hc => .inl (hgr.more c hc), fun c hc => ?_⟩ ?_ _ _ _ _ _ _ _ _ _ _ _ _ _ _ _ _ _ _ _ _ _
    · rcases hc with hc | rfl
      · rcases hgr.new c hc with h | h
        · exact .inl h
        · exact .inr ⟨h.1, by simp <;> omega⟩
      · exact .inr ⟨hgr.size, by simp⟩
    · rw [eAt_cons e l k _ hx]
      have hF' : ∀ c, F' c → c < w'.heap.size := fun c hc => by
        rcases hgr.new c hc with h | h
        · exact Nat.lt_of_lt_of_le (hF c h) hgr.size
        · exact h.2
      have hv2 := hv.mono (w' := w'.alloc (.cells #[.int .i64 l[k], .iface tt x] 77)) (F' := fun c => F' c ∨ c = w'.heap.size) (fun c _ hl => Go.RowKit.Below.heap_alloc _ _ c hl) (fun c hc => .inl hc)
      refine .ifc _ _ _ (.p _ _ w'.heap.size 0 (fun j => if j = 0 then .int .i64 l[k] else .iface tt x) (.inr rfl) ⟨by kernel_rfl, by kernel_rfl⟩ (fun j t hj => ?_) (fun j t hj => ?_))
      · match j with
        | 0 => simp
        | 1 => simp
        | j + 2 => simp [T.cells] at hj
      · match j with
        | 0 => simp [T.cells] at hj; subst hj; exact .i _ _
        | 1 => simp [T.cells] at hj; subst hj; exact hv2
        | j + 2 => simp [T.cells] at hj
set_option maxHeartbeats 4000000 in
theorem At_none (w : World) (tt : TypeId) (x : Value) (base : Option Addr) (cap : Nat) : Calls Tryd.prog 36 #[.iface tt x, .slice base 0 cap] w fun ev w' => ev = .returned (.iface tt x) ∧ w' = w := by
  go_enter Tryd.func36, Tryd.ntmps36
  go_wp2
  refine wp_loop_rounds 1 ?_
  rw [rounds_succ]
  go_wp2
  go_ret
  exact ⟨rfl, rfl⟩
set_option maxHeartbeats 4000000 in
theorem At_nil (w : World) (us : Value) : Calls Tryd.prog 36 #[.nilIface, us] w fun ev w' => ev = .returned .nilIface ∧ w' = w := by
  go_enter Tryd.func36, Tryd.ntmps36
  go_wp2
  go_ret
  exact ⟨rfl, rfl⟩
theorem two_args {us : Array Value} {u0 u1 : Value} (h0 : us[0]? = some u0) (h1 : us[1]? = some u1) (hs : us.size = 2) : us = #[u0, u1] := by
  apply Array.ext_getElem?
  intro j
  match j with
  | 0 => rw [h0]; rfl
  | 1 => rw [h1]; rfl
  | j + 2 => rw [Array.getElem?_eq_none (by omega), Array.getElem?_eq_none (by simp)]
def b36 : BF Tryd.prog ids := ⟨36, ⟨lfState [.err, .sl 3 (.int .i64)], leafOut .err, false, [], ⟨[], [], [], []⟩, none⟩, .pair .err (.sl 3 (.int .i64)), .err, fun _ x => zAt x.1 x.2, fun _ => FnOk.grown (ts := [.err, .sl 3 (.int .i64)]) (B := .err) (F := fun x => zAt x.1 x.2) ⟨_, Tryd.func36, by kernel_rfl, by kernel_rfl⟩ (fun (x : Err × List Int) (r : Err) hF vs hx hty w Fr us hgw hFr hus hrep => by
  have h2 : vs.length = 2 := by have := congrArg List.length hty; rwa [List.length_map] at this
  obtain ⟨v, v', rfl⟩ : ∃ a b, vs = [a, b] := (match vs, h2 with | [a, b], _ => ⟨a, b, rfl⟩)
  have hty' : v.ty = .err ∧ v'.ty = .sl 3 (.int .i64) := by simpa using hty
  obtain ⟨vt, vv⟩ := v
  obtain ⟨vt', vv'⟩ := v'
  obtain ⟨h3, h4⟩ := hty'
  simp only at h3 h4
  subst h3; subst h4
  have hx := as_some hx
  have hx : (⟨.pair .err (.sl 3 (.int .i64)), (vv, vv')⟩ : L) = ⟨.pair .err (.sl 3 (.int .i64)), x⟩ := hx
  have hx : (vv, vv') = x := eq_of_heq (L.mk.inj hx).2
  subst hx
  obtain ⟨u, hu, hr⟩ := hrep 0 _ rfl
  obtain ⟨u', hu', hr'⟩ := hrep 1 _ rfl
  obtain rfl := two_args hu hu' hus
  have hF : zAt vv vv' = some r := hF
  unfold zAt at hF
  cases he : errOk vv with
  | false => rw [he] at hF; cases hF
  | true =>
    cases hl : decide ((vv' : List Int).length ≤ 4611686018427387904) with
    | false => rw [he, hl] at hF; cases hF
    | true =>
      rw [he, hl] at hF
      have hF : some (eAt vv vv') = some r := hF
      obtain rfl := Option.some.inj hF
      have hl := of_decide_eq_true hl
      have hr : RepT Tryd.prog w Fr (trE ids vv) u := hr
      by_cases hnil : vv = .nil
      · subst hnil
        obtain rfl := rep_nil hr
        exact (At_nil w u').mono fun ev w' ⟨h1, h2⟩ => by
          subst h2
          exact ⟨_, Fr, h1, ⟨rfl, rfl, rfl, Nat.le_refl _, fun _ _ => rfl, fun _ h => h, fun _ h => .inl h⟩, .ni⟩
      · have heq : eAt vv vv' = (vv' : List Int).foldr Err.at vv := by
          cases vv with
          | nil => exact absurd rfl hnil
          | no n => rfl
          | «at» n e => rfl
          | txt s => rfl
        rw [heq]
        obtain ⟨tt, y, rfl⟩ : ∃ tt x, u = .iface tt x := by
          rcases rep_head he hr with ⟨_, h⟩ | ⟨tt, x, h, _⟩
          · exact absurd h hnil
          · exact ⟨tt, x, h⟩
        rcases rep_ints hr' with ⟨hl0, base, cap, rfl⟩ | ⟨b, off, cap, rfl, h1, h2, h3⟩
        · have hl0 : (vv' : List Int) = [] := hl0
          rw [hl0]
          exact (At_none w tt y base cap).mono fun ev w' ⟨h1, h2⟩ => by
            subst h2
            exact ⟨_, Fr, h1, ⟨rfl, rfl, rfl, Nat.le_refl _, fun _ _ => rfl, fun _ h => h, fun _ h => .inl h⟩, hr⟩
        · exact At_call w Fr hFr vv _ hr he hnil vv' b off cap h2 h1 h3 hl)⟩
end Go.Proofs.YtgenmananhffoaaDoor
noncomputable section
namespace Go.Proofs.YtgenmananhffoaaDoor
open Go.RowKit Go.Extern.Stop Go.Stop Go.Extern Go.Y
open Go.Eng (RepT T)
end Go.Proofs.YtgenmananhffoaaDoor
noncomputable section
namespace Go.Proofs.YtgenmananhffoaaDoor
open Go.RowKit Go.Extern.Stop Go.Stop Go.Extern Go.Y
open Go.Eng (RepT T)
theorem eq_ints (w : World) (a k : Int) : (binOp .eql 29 (.iface 44 (.int .i64 a)) (.iface 44 (.int .i64 k))).run Tryd.prog w = .ok (.bool (a == k)) w := by
  obtain ⟨i, hi, hc⟩ := Option.map_eq_some_iff.1 (show (Tryd.prog.info? 44).map (·.comparable) = some true by kernel_rfl)
  have h : ∀ d, (Op.equalIn (d + 2) 29 (.iface 44 (.int .i64 a)) (.iface 44 (.int .i64 k))).run Tryd.prog w = .ok (a == k) w := by
    intro d
    simp [Op.equalIn, run_underlying Tryd.underlying29, run_underlying Tryd.underlying44, typeInfo, hi, hc]
  simp only [binOp]
  simp [Op.equal, Op.maxDepth, h 9998]
theorem typeOfE' (v : Value) (w : World) : (ReflectliteType.typeOf #[.iface 44 v]).run Tryd.prog w = .ok (.iface 115 (.agg #[.pointer (some ⟨1, 44, none⟩)])) w := typeOfE v w
theorem compE (w : World) : ((ReflectliteType.method fun t => do Rtype.noPackHeld "Comparable" t; pure (.bool (← typeInfo t).comparable)) #[.agg #[.pointer (some ⟨1, 44, none⟩)]]).run Tryd.prog w = .ok (.bool true) w := by kernel_rfl
theorem compE2 (w : World) : ((ReflectliteType.method fun t => do Rtype.noPackHeld "Comparable" t; (fun a => Value.bool a.comparable) <$> typeInfo t) #[.agg #[.pointer (some ⟨1, 44, none⟩)]]).run Tryd.prog w = .ok (.bool true) w := by kernel_rfl
theorem mComp (v : Value) (w : World) : (Go.method 279 115 v "Comparable").run Tryd.prog w = .ok (118, v) w := by kernel_rfl
theorem noIsE (v : Value) (xT : TypeId) (w : World) : (Instr.typeAssert (.iface 44 v) xT 117 true).run Tryd.prog w = .ok (.tuple #[.nilIface, .bool false]) w := run_typeAssert_lacksB Tryd.underlying117 (by kernel_rfl) (by kernel_rfl) v xT w
theorem noIsP (v : Value) (xT : TypeId) (w : World) : (Instr.typeAssert (.iface 75 v) xT 117 true).run Tryd.prog w = .ok (.tuple #[.nilIface, .bool false]) w := run_typeAssert_lacksB Tryd.underlying117 (by kernel_rfl) (by kernel_rfl) v xT w
set_option maxHeartbeats 40000000 in
theorem is_call (w : World) (F : Nat → Prop) (e : Err) (v : Value) (k : Int) (he : errOk e = true) (hnil : e ≠ .nil) (hv : RepT Tryd.prog w F (trE ids e) v) :
    Calls Tryd.prog 58 #[v, .iface 44 (.int .i64 k), .bool true] w fun ev w' => ev = .returned (.bool (decide (eNum e = some k))) ∧ w' = w := by
  have nA := noIsE
  have nB := noIsP
  have nU := noUnE
  have nV := noUnsE
  have hU := hasUnP
  have mU := mUnwrap
  have hq := fun a => eq_ints w a k
  have hty := fun x => run_eql_iface_types (P := Tryd.prog) 75 44 x (.int .i64 k) Tryd.underlying29 (by decide) w
  generalize hb : decide (eNum e = some k) = b
  go_enter Tryd.func58, Tryd.ntmps58
  go_wp2
  refine wp_loop_rounds (eDep e + 1) ?_
  refine (?key : ∀ (e : Err), errOk e = true → e ≠ .nil → decide (eNum e = some k) = b → ∀ (v : Value), RepT Tryd.prog w F (trE ids e) v → ∀ y3 y4 y5 y7 y8 y9 y10 y11 y12 y13 y14 y15 y16 y17 y18 y19 y20 y21 y22 y23 y24 y25 y26 y27 y28 y29 y30 y31 y32 y33 y34 y35 y36 y37 y38 y39 y40 y41 y42 y43 y44 y45 y46 y47 y48 y49 y50 y51 y52 y53 : Value, Code.rounds Tryd.prog _ _ (eDep e + 1) ⟨#[v, .iface 44 (.int .i64 k), .bool true, y3, y4, y5, .bool false, y7, y8, y9, y10, y11, y12, y13, y14, y15, y16, y17, y18, y19, y20, y21, y22, y23, y24, y25, y26, y27, y28, y29, y30, y31, y32, y33, y34, y35, y36, y37, y38, y39, y40, y41, y42, y43, y44, y45, y46, y47, y48, y49, y50, y51, y52, y53], []⟩ w) e he hnil hb v hv _ _ _ _ _ _ _ _ _ _ _ _ _ _ _ _ _ _ _ _ _ _ _ _ _ _ _ _ _ _ _ _ _ _ _ _ _ _ _ _ _ _ _ _ _ _ _ _ _ _
  intro e
  induction e with
  | nil => intro _ hne; exact absurd rfl hne
  | txt s => intro he; cases he
  | no m =>
    intro _ _ hb v hv y3 y4 y5 y7 y8 y9 y10 y11 y12 y13 y14 y15 y16 y17 y18 y19 y20 y21 y22 y23 y24 y25 y26 y27 y28 y29 y30 y31 y32 y33 y34 y35 y36 y37 y38 y39 y40 y41 y42 y43 y44 y45 y46 y47 y48 y49 y50 y51 y52 y53
    obtain rfl := rep_no hv
    have hq := hq m
    rw [show eDep (.no m) + 1 = 0 + 1 from rfl, rounds_succ]
    by_cases hm : m = k
    · have hmk : (m == k) = true := by simpa using hm
      rw [hmk] at hq
      have hb : true = b := by rw [← hb]; simp [eNum, hm]
      subst hb
      go_wp2
      go_ret
      exact ⟨rfl, rfl⟩
    · have hmk : (m == k) = false := by simpa using hm
      rw [hmk] at hq
      have hb : false = b := by rw [← hb]; simp [eNum, hm]
      subst hb
      go_wp2
      go_ret
      exact ⟨rfl, rfl⟩
  | «at» m e ih =>
    intro he _ hb v hv y3 y4 y5 y7 y8 y9 y10 y11 y12 y13 y14 y15 y16 y17 y18 y19 y20 y21 y22 y23 y24 y25 y26 y27 y28 y29 y30 y31 y32 y33 y34 y35 y36 y37 y38 y39 y40 y41 y42 y43 y44 y45 y46 y47 y48 y49 y50 y51 y52 y53
    obtain ⟨pb, po, u, rfl, _, h0, h1, hu⟩ := rep_at hv
    have hty := hty (.pointer (some ⟨pb, po, none⟩))
    by_cases hne : e = .nil
    · subst hne
      obtain rfl := rep_nil hu
      have hb : false = b := by rw [← hb]; rfl
      subst hb
      rw [show eDep (.at m .nil) + 1 = (eDep .nil + 1) + 1 from rfl, rounds_succ]
      go_wp2
      go_ret
      exact ⟨rfl, rfl⟩
    · have ih := ih he hne hb u hu
      obtain ⟨tt, x, rfl⟩ : ∃ tt x, u = .iface tt x := by
        rcases rep_head (e := e) he hu with ⟨_, h⟩ | ⟨tt, x, h, _⟩
        · exact absurd h hne
        · exact ⟨tt, x, h⟩
      rw [show eDep (.at m e) + 1 = (eDep e + 1) + 1 from rfl, rounds_succ]
      go_wp2
set_option maxHeartbeats 4000000 in
theorem Is_call (w : World) (F : Nat → Prop) (e : Err) (v : Value) (k : Int) (he : errOk e = true) (hv : RepT Tryd.prog w F (trE ids e) v) :
    Calls Tryd.prog 42 #[v, .iface 44 (.int .i64 k)] w fun ev w' => ev = .returned (.bool (decide (eNum e = some k))) ∧ w' = w := by
  have hTo := @run_callFunc_extern Tryd.prog 57 _ ReflectliteType.typeOf Tryd.func57 (by kernel_rfl) (by kernel_rfl) (by kernel_rfl) (by kernel_rfl)
  have hCo := @run_callFunc_extern Tryd.prog 118 _ (ReflectliteType.method fun t => do Rtype.noPackHeld "Comparable" t; pure (.bool (← typeInfo t).comparable)) Tryd.func118 (by kernel_rfl) (by kernel_rfl) (by kernel_rfl) (by kernel_rfl)
  have tT := typeOfE'
  have cT := compE
  have cT2 := compE2
  have mR := mComp
  by_cases hnil : e = .nil
  · subst hnil
    obtain rfl := rep_nil hv
    have hn := run_eql_iface_nil_left (P := Tryd.prog) w 44 (.int .i64 k) Tryd.underlying29
    rw [show decide (eNum .nil = some k) = false from rfl]
    go_enter Tryd.func42, Tryd.ntmps42
    go_wp2
    go_ret
    exact ⟨rfl, rfl⟩
  · have key := is_call w F e v k he hnil hv
    obtain ⟨tt, x, rfl⟩ : ∃ tt x, v = .iface tt x := by
      rcases rep_head he hv with ⟨_, h⟩ | ⟨tt, x, h, _⟩
      · exact absurd h hnil
      · exact ⟨tt, x, h⟩
    go_enter Tryd.func42, Tryd.ntmps42
    go_wp2_with (first | (go_at_call 58; refine key.mono ?_; rintro ev w' ⟨rfl, rfl⟩))
    go_ret
    exact ⟨rfl, rfl⟩
set_option maxHeartbeats 4000000 in
theorem fIs_call (w : World) (F : Nat → Prop) (e : Err) (v : Value) (k : Int) (he : errOk e = true) (hv : RepT Tryd.prog w F (trE ids e) v) :
    Calls Tryd.prog 19 #[v, .int .i64 k] w fun ev w' => ev = .returned (.bool (!decide (k = 0) && decide (eNum e = some k))) ∧ w' = w := by
  have key := Is_call w F e v k he hv
  by_cases hk : k = 0
  · subst hk
    have hk : (0 : Int) = 0 := rfl
    go_enter Tryd.func19, Tryd.ntmps19
    go_wp2
    go_ret
    exact ⟨by simp [hk], rfl⟩
  · rw [decide_eq_false hk, Bool.not_false, Bool.true_and]
    go_enter Tryd.func19, Tryd.ntmps19
    go_wp2_with (first | (go_at_call 42; refine key.mono ?_; rintro ev w' ⟨rfl, rfl⟩))
    go_ret
    exact ⟨by simp [hk], rfl⟩
def b19 : BF Tryd.prog ids := ⟨19, ⟨lfState [.err, .int .i64], leafOut .bool, false, [], ⟨[], [], [], []⟩, none⟩, .pair .err (.int .i64), .bool, fun _ x => zIs x.1 x.2, fun _ => FnOk.grown (ts := [.err, .int .i64]) (B := .bool) (F := fun x => zIs x.1 x.2) ⟨_, Tryd.func19, by kernel_rfl, by kernel_rfl⟩ (fun (x : Err × Int) (r : Bool) hF vs hx hty w Fr us hgw hFr hus hrep => by
  have h2 : vs.length = 2 := by have := congrArg List.length hty; rwa [List.length_map] at this
  obtain ⟨v, v', rfl⟩ : ∃ a b, vs = [a, b] := (match vs, h2 with | [a, b], _ => ⟨a, b, rfl⟩)
  have hty' : v.ty = .err ∧ v'.ty = .int .i64 := by simpa using hty
  obtain ⟨vt, vv⟩ := v
  obtain ⟨vt', vv'⟩ := v'
  obtain ⟨h3, h4⟩ := hty'
  simp only at h3 h4
  subst h3; subst h4
  have hx := as_some hx
  have hx : (⟨.pair .err (.int .i64), (vv, vv')⟩ : L) = ⟨.pair .err (.int .i64), x⟩ := hx
  have hx : (vv, vv') = x := eq_of_heq (L.mk.inj hx).2
  subst hx
  obtain ⟨u, hu, hr⟩ := hrep 0 _ rfl
  obtain ⟨u', hu', hr'⟩ := hrep 1 _ rfl
  obtain rfl := two_args hu hu' hus
  have hr : RepT Tryd.prog w Fr (trE ids vv) u := hr
  have hr' : RepT Tryd.prog w Fr (.i .i64 vv') u' := hr'
  obtain rfl : u' = .int .i64 vv' := by cases hr'; rfl
  have hF : zIs vv vv' = some r := hF
  unfold zIs at hF
  cases he : errOk vv with
  | false => rw [he] at hF; cases hF
  | true =>
    rw [he] at hF
    obtain rfl := Option.some.inj hF
    exact (fIs_call w Fr vv u vv' he hr).mono fun ev w' ⟨h1, h2⟩ => by
      subst h2
      exact ⟨_, Fr, h1, ⟨rfl, rfl, rfl, Nat.le_refl _, fun _ _ => rfl, fun _ h => h, fun _ h => .inl h⟩, .b _⟩)⟩
end Go.Proofs.YtgenmananhffoaaDoor
set_option maxRecDepth 100000
set_option linter.unusedVariables false
noncomputable section
namespace Go.Y
open Go
abbrev ZP030 : Type := Int × Int
def avermentlaw03_Set_l7 (N : Nat) (k0 : Int × (List Int) × Int × List Int → Option (List Int)) : Nat → Int → (List Int) → Int → Int → (List Int) → Option (List Int)
  | 0, _, _, _, _, _ => none
  | n + 1, n0, raw1, xv6, i7, s5 =>
    pLet (pick (decide (i7 < (len raw1))) (decide (i7 < 200)) false) fun x0 =>
    pIf x0
      (pIdx raw1 i7 fun x1 =>
      pCk (!decide ((wr .u64 n0) = 0)) <|
      pIf (decide ((wr .i64 (remI (wr .u64 x1) (wr .u64 n0))) = xv6))
        (pCk (room 8 (len (s5 ++ [xv6]))) <|
        k0 (n0, raw1, xv6, (s5 ++ [xv6])))
        (avermentlaw03_Set_l7 N k0 n n0 raw1 xv6 (wr .i64 (i7 + 1)) s5))
      (k0 (n0, raw1, xv6, s5))
def avermentlaw03_Set_l4 (N : Nat) (k0 : List Int → Option (List Int)) : Nat → Int → (List Int) → Int → (List Int) → Option (List Int)
  | 0, _, _, _, _ => none
  | n + 1, n0, raw1, xv6, s5 =>
    pLet (pick (decide (xv6 < n0)) (decide (xv6 < 4096)) false) fun x0 =>
    pIf x0
      (avermentlaw03_Set_l7 N
        (fun x1 => avermentlaw03_Set_l4 N k0 n x1.1 x1.2.1 (wr .i64 (x1.2.2.1 + 1)) x1.2.2.2) N n0 raw1 xv6 0 s5)
      (k0 s5)
def avermentlaw03_Set (N : Nat) (n0 : Int) (raw1 : List Int) : Option (List Int) :=
  avermentlaw03_Set_l4 N
    (fun x0 => some x0) N n0 raw1 0 []
def bits_Right_l6 (N : Nat) (k0 : Unit → Option (Bool)) (k1 : Bool → Option (Bool)) : Nat → Int → Int → (List Int) → Int → Int → Option (Bool)
  | 0, _, _, _, _, _ => none
  | n + 1, n0, last5, t14, t15, t16 =>
    pIf (decide (t16 < t15))
      (pIdx t14 t16 fun x0 =>
      pLet (pick (decide (x0 ≤ last5)) true (decide (n0 ≤ x0))) fun x1 =>
      pIf x1
        (k1 false)
        (bits_Right_l6 N k0 k1 n n0 x0 t14 t15 (wr .i64 (t16 + 1))))
      (k0 ())
def bits_Right (N : Nat) (n0 : Int) (s1 : List Int) : Option (Bool) :=
  pLet (pick (decide (n0 < 0)) true (decide (4096 < n0))) fun x0 =>
  pIf x0
    (some false)
    (bits_Right_l6 N
      (fun x1 => some true)
      (fun x1 => some x1) N n0 (-1) s1 (len s1) 0)
def bits_plain_l4 (N : Nat) (k0 : List Int → Option (List Int)) : Nat → (List Int) → Int → Int → (List Int) → Option (List Int)
  | 0, _, _, _, _ => none
  | n + 1, t14, t15, t16, b5 =>
    pIf (decide (t16 < t15))
      (pIdx t14 t16 fun x0 =>
      pCk ((decide (0 ≤ (wr .i64 (1 + (quoI .i64 x0 8))))) && (decide ((wr .i64 (1 + (quoI .i64 x0 8))) < (len b5)))) <|
      pIdx b5 (wr .i64 (1 + (quoI .i64 x0 8))) fun x1 =>
      pCk (decide (0 ≤ (remI x0 8))) <|
      pCk ((decide (0 ≤ (wr .i64 (1 + (quoI .i64 x0 8))))) && (decide ((wr .i64 (1 + (quoI .i64 x0 8))) < (len b5)))) <|
      pIdx b5 (wr .i64 (1 + (quoI .i64 x0 8))) fun x2 =>
      bits_plain_l4 N k0 n t14 t15 (wr .i64 (t16 + 1)) (setI b5 (wr .i64 (1 + (quoI .i64 x0 8))) (bor .u8 x1 (shlI .u8 1 (remI x0 8)))))
      (k0 b5)
def bits_plain (N : Nat) (n0 : Int) (s1 : List Int) : Option (List Int) :=
  pCk ((decide (0 ≤ (wr .i64 (1 + (quoI .i64 (wr .i64 ((wr .i64 (n0 + 8)) - 1)) 8))))) && (decide ((wr .i64 (1 + (quoI .i64 (wr .i64 ((wr .i64 (n0 + 8)) - 1)) 8))) ≤ (wr .i64 (1 + (quoI .i64 (wr .i64 ((wr .i64 (n0 + 8)) - 1)) 8)))))) <|
  pCk (room 1 (wr .i64 (1 + (quoI .i64 (wr .i64 ((wr .i64 (n0 + 8)) - 1)) 8)))) <|
  bits_plain_l4 N
    (fun x0 => some x0) N s1 (len s1) 0 (rep (wr .i64 (1 + (quoI .i64 (wr .i64 ((wr .i64 (n0 + 8)) - 1)) 8))) 0)
def wire_New (N : Nat) : Option (List Int) :=
  some []
def p_wire_Writer_Byte (N : Nat) (b1 : Int) (w0 : List Int) : Option (List Int) :=
  pCk (room 1 (len (w0 ++ [b1]))) <|
  some (w0 ++ [b1])
def p_wire_Writer_Uint_l1 (N : Nat) (k0 : Int × List Int → Option (List Int)) : Nat → Int → (List Int) → Option (List Int)
  | 0, _, _ => none
  | n + 1, n1, w0 =>
    pIf (decide (127 < n1))
      (pCall (p_wire_Writer_Byte N (bor .u8 (wr .u8 (band .u64 n1 127)) 128) w0) fun x0 =>
      p_wire_Writer_Uint_l1 N k0 n (shrI .u64 n1 7) x0)
      (k0 (n1, w0))
def p_wire_Writer_Uint (N : Nat) (n1 : Int) (w0 : List Int) : Option (List Int) :=
  p_wire_Writer_Uint_l1 N
    (fun x0 => pCall (p_wire_Writer_Byte N (wr .u8 x0.1) x0.2) fun x1 =>
      some x1) N n1 w0
def slices_Clone_byte_byte (N : Nat) (s0 : List Int) : Option (List Int) :=
  pNil s0
    (some [])
    (pCk (room 1 (len ([] ++ s0))) <|
    some ([] ++ s0))
def p_wire_Writer_Bytes (N : Nat) (w0 : List Int) : Option ((List Int) × List Int) :=
  pCall (slices_Clone_byte_byte N w0) fun x0 =>
  some (x0, w0)
def bits_gaps_l7 (N : Nat) (k0 : List Int → Option (List Int)) : Nat → Int → (List Int) → Int → Int → (List Int) → Option (List Int)
  | 0, _, _, _, _, _ => none
  | n + 1, next4, t15, t16, t17, w3 =>
    pIf (decide (t17 < t16))
      (pIdx t15 t17 fun x0 =>
      pCall (p_wire_Writer_Uint N (wr .u64 (wr .i64 (x0 - next4))) w3) fun x1 =>
      bits_gaps_l7 N k0 n (wr .i64 (x0 + 1)) t15 t16 (wr .i64 (t17 + 1)) x1)
      (k0 w3)
def bits_gaps (N : Nat) (s0 : List Int) : Option (List Int) :=
  pCall (wire_New N) fun x0 =>
  pCall (p_wire_Writer_Byte N 1 x0) fun x1 =>
  pCall (p_wire_Writer_Uint N (wr .u64 (len s0)) x1) fun x2 =>
  bits_gaps_l7 N
    (fun x3 => pCall (p_wire_Writer_Bytes N x3) fun x4 =>
      some x4.1) N 0 s0 (len s0) 0 x2
def bits_split_l4 (N : Nat) (k0 : List ZP030 → Option (List ZP030)) : Nat → (List Int) → Int → Int → (List ZP030) → Option (List ZP030)
  | 0, _, _, _, _ => none
  | n + 1, t7, t8, t9, out3 =>
    pIf (decide (t9 < t8))
      (pJoin (fun (x0 : (List Int) × Int × Int × List ZP030) =>
        bits_split_l4 N k0 n x0.1 x0.2.1 (wr .i64 (x0.2.2.1 + 1)) x0.2.2.2) fun J0 =>
      pIdx t7 t9 fun x1 =>
      pCk (!(decide (0 ≤ (wr .i64 ((len out3) - 1)))) || ((decide (0 ≤ (wr .i64 ((len out3) - 1)))) && (decide ((wr .i64 ((len out3) - 1)) < (len out3))))) <|
      pIdxG (decide (0 ≤ (wr .i64 ((len out3) - 1)))) (0, 0) out3 (wr .i64 ((len out3) - 1)) fun x2 =>
      pCk (!(decide (0 ≤ (wr .i64 ((len out3) - 1)))) || ((decide (0 ≤ (wr .i64 ((len out3) - 1)))) && (decide ((wr .i64 ((len out3) - 1)) < (len out3))))) <|
      pIdxG (decide (0 ≤ (wr .i64 ((len out3) - 1)))) (0, 0) out3 (wr .i64 ((len out3) - 1)) fun x3 =>
      pLet (pick (decide (0 ≤ (wr .i64 ((len out3) - 1)))) (decide ((wr .i64 (x2.1 + x3.2)) = x1)) false) fun x4 =>
      pIf x4
        (pCk ((decide (0 ≤ (wr .i64 ((len out3) - 1)))) && (decide ((wr .i64 ((len out3) - 1)) < (len out3)))) <|
        pIdx out3 (wr .i64 ((len out3) - 1)) fun x5 =>
        pCk ((decide (0 ≤ (wr .i64 ((len out3) - 1)))) && (decide ((wr .i64 ((len out3) - 1)) < (len out3)))) <|
        pIdx out3 (wr .i64 ((len out3) - 1)) fun x6 =>
        J0 (t7, t8, t9, (setI out3 (wr .i64 ((len out3) - 1)) (x6.1, (wr .i64 (x5.2 + 1))))))
        (pCk (room 16 (len (out3 ++ [(x1, 1)]))) <|
        J0 (t7, t8, t9, (out3 ++ [(x1, 1)]))))
      (k0 out3)
def bits_split (N : Nat) (s0 : List Int) : Option (List ZP030) :=
  bits_split_l4 N
    (fun x0 => some x0) N s0 (len s0) 0 []
def bits_runs_l8 (N : Nat) (k0 : List Int → Option (List Int)) : Nat → Int → (List ZP030) → Int → Int → (List Int) → Option (List Int)
  | 0, _, _, _, _, _ => none
  | n + 1, next5, t18, t19, t20, w4 =>
    pIf (decide (t20 < t19))
      (pIdx t18 t20 fun x0 =>
      pCall (p_wire_Writer_Uint N (wr .u64 (wr .i64 (x0.1 - next5))) w4) fun x1 =>
      pCall (p_wire_Writer_Uint N (wr .u64 (wr .i64 (x0.2 - 1))) x1) fun x2 =>
      bits_runs_l8 N k0 n (wr .i64 ((wr .i64 (x0.1 + x0.2)) + 1)) t18 t19 (wr .i64 (t20 + 1)) x2)
      (k0 w4)
def bits_runs (N : Nat) (s0 : List Int) : Option (List Int) :=
  pCall (bits_split N s0) fun x0 =>
  pCall (wire_New N) fun x1 =>
  pCall (p_wire_Writer_Byte N 2 x1) fun x2 =>
  pCall (p_wire_Writer_Uint N (wr .u64 (len x0)) x2) fun x3 =>
  bits_runs_l8 N
    (fun x4 => pCall (p_wire_Writer_Bytes N x4) fun x5 =>
      some x5.1) N 0 x0 (len x0) 0 x3
def bits_laid (N : Nat) (n0 : Int) (s1 : List Int) (way2 : Int) : Option (List Int) :=
  pIf (decide (way2 = 0))
    (pCall (bits_plain N n0 s1) fun x0 =>
    some x0)
    (pIf (decide (way2 = 1))
      (pCall (bits_gaps N s1) fun x0 =>
      some x0)
      (pIf (decide (way2 = 2))
        (pCall (bits_runs N s1) fun x0 =>
        some x0)
        (some [])))
def bits_Size (N : Nat) (n0 : Int) (s1 : List Int) (way2 : Int) : Option (Int) :=
  pCall (bits_Right N n0 s1) fun x0 =>
  pLet (pick (!x0) true (decide (way2 < 0))) fun x1 =>
  pLet (pick x1 true (decide (2 < way2))) fun x2 =>
  pIf x2
    (some (-1))
    (pCall (bits_laid N n0 s1 way2) fun x3 =>
    some (len x3))
def bits_Way_l6 (N : Nat) (k0 : Int → Option (Int)) : Nat → Int → (List Int) → Int → ZP030 → Int → Option (Int)
  | 0, _, _, _, _, _ => none
  | n + 1, n0, s1, best5, t12, t13 =>
    pIf (decide (t13 < 2))
      (pIdx [t12.1, t12.2] t13 fun x0 =>
      pCall (bits_laid N n0 s1 x0) fun x1 =>
      pCall (bits_laid N n0 s1 best5) fun x2 =>
      pJoin (fun (x3 : Int × (List Int) × Int × ZP030 × Int) =>
        bits_Way_l6 N k0 n x3.1 x3.2.1 x3.2.2.1 x3.2.2.2.1 (wr .i64 (x3.2.2.2.2 + 1))) fun J3 =>
      pIf (decide ((len x1) < (len x2)))
        (J3 (n0, s1, x0, t12, t13))
        (J3 (n0, s1, best5, t12, t13)))
      (k0 best5)
def bits_Way (N : Nat) (n0 : Int) (s1 : List Int) : Option (Int) :=
  pCall (bits_Right N n0 s1) fun x0 =>
  pIf (!x0)
    (some (-1))
    (bits_Way_l6 N
      (fun x1 => some x1) N n0 s1 0 (1, 2) 0)
def p_wire_Writer_Raw (N : Nat) (b1 : List Int) (w0 : List Int) : Option (List Int) :=
  pCk (room 1 (len (w0 ++ b1))) <|
  some (w0 ++ b1)
def bits_Write (N : Nat) (n1 : Int) (s2 : List Int) (w0 : List Int) : Option (Err × List Int) :=
  pCall (bits_Right N n1 s2) fun x0 =>
  pIf (!x0)
    (some ((Err.no 1), w0))
    (pCall (bits_Way N n1 s2) fun x1 =>
    pCall (bits_laid N n1 s2 x1) fun x2 =>
    pCall (p_wire_Writer_Raw N x2 w0) fun x3 =>
    some (Err.nil, x3))
def wire_Read (N : Nat) (b0 : List Int) : Option ((List Int) × Int) :=
  pCall (slices_Clone_byte_byte N b0) fun x0 =>
  some (x0, 0)
def p_wire_Reader_At (N : Nat) (r0_0 : List Int) (r0_1 : Int) : Option (Int × (List Int) × Int) :=
  some (r0_1, r0_0, r0_1)
def fault_At (N : Nat) (x : Err) (y : List Int) : Option Err := zAt x y
def p_wire_Reader_Copy (N : Nat) (r0_0 : List Int) (r0_1 : Int) : Option ((List Int) × Int × (List Int) × Int) :=
  some (r0_0, r0_1, r0_0, r0_1)
def p_wire_Reader_wrong (N : Nat) (kv1 : Int) (r0_0 : List Int) (r0_1 : Int) : Option (Err × (List Int) × Int) :=
  pCall (p_wire_Reader_At N r0_0 r0_1) fun x0 =>
  pCall (fault_At N (Err.no kv1) [x0.1]) fun x1 =>
  some (x1, x0.2.1, x0.2.2)
def p_wire_Reader_Byte (N : Nat) (r0_0 : List Int) (r0_1 : Int) : Option (Int × Err × (List Int) × Int) :=
  pIf (decide (r0_1 = (len r0_0)))
    (pCall (p_wire_Reader_wrong N 2 r0_0 r0_1) fun x0 =>
    some (0, x0.1, x0.2.1, x0.2.2))
    (pIdx r0_0 (wr .i64 ((wr .i64 (r0_1 + 1)) - 1)) fun x0 =>
    some (x0, Err.nil, r0_0, (wr .i64 (r0_1 + 1))))
def p_wire_Reader_Left (N : Nat) (r0_0 : List Int) (r0_1 : Int) : Option (Int × (List Int) × Int) :=
  some ((wr .i64 ((len r0_0) - r0_1)), r0_0, r0_1)
def p_wire_Reader_Raw (N : Nat) (n1 : Int) (r0_0 : List Int) (r0_1 : Int) : Option ((List Int) × Err × (List Int) × Int) :=
  pLet (pick false true (decide (n1 < 0))) fun x0 =>
  pIf x0
    (pCall (p_wire_Reader_wrong N 1 r0_0 r0_1) fun x1 =>
    some ([], x1.1, x1.2.1, x1.2.2))
    (pCall (p_wire_Reader_Left N r0_0 r0_1) fun x1 =>
    pIf (decide (x1.1 < n1))
      (pCall (p_wire_Reader_wrong N 2 x1.2.1 x1.2.2) fun x2 =>
      some ([], x2.1, x2.2.1, x2.2.2))
      (pCk ((decide (0 ≤ (wr .i64 (x1.2.2 + n1)))) && (decide ((wr .i64 (x1.2.2 + n1)) ≤ (len x1.2.1)))) <|
      pCk ((decide (0 ≤ (wr .i64 ((wr .i64 (x1.2.2 + n1)) - n1)))) && (decide ((wr .i64 ((wr .i64 (x1.2.2 + n1)) - n1)) ≤ (wr .i64 (x1.2.2 + n1))))) <|
      pCall (slices_Clone_byte_byte N (sub x1.2.1 (wr .i64 ((wr .i64 (x1.2.2 + n1)) - n1)) (wr .i64 (x1.2.2 + n1)))) fun x2 =>
      some (x2, Err.nil, x1.2.1, (wr .i64 (x1.2.2 + n1)))))
def bits_fromPlain_l7 (N : Nat) (k0 : (List Int) × Int × List Int → Option ((List Int) × Err × (List Int) × Int)) (k1 : (List Int) × Err × (List Int) × Int → Option ((List Int) × Err × (List Int) × Int)) : Nat → Int → (List Int) → Int → Int → (List Int) → Int → (List Int) → Option ((List Int) × Err × (List Int) × Int)
  | 0, _, _, _, _, _, _, _ => none
  | n + 1, n1, b6, t24, t25, r0_0, r0_1, s8 =>
    pIf (decide (t25 < t24))
      (pJoin (fun (x0 : Int × (List Int) × Int × Int × (List Int) × Int × List Int) =>
        bits_fromPlain_l7 N k0 k1 n x0.1 x0.2.1 x0.2.2.1 (wr .i64 (x0.2.2.2.1 + 1)) x0.2.2.2.2.1 x0.2.2.2.2.2.1 x0.2.2.2.2.2.2) fun J0 =>
      pIdx b6 (quoI .i64 t25 8) fun x1 =>
      pCk (decide (0 ≤ (remI t25 8))) <|
      pIf (decide ((band .u8 (shrI .u8 x1 (remI t25 8)) 1) = 0))
        (J0 (n1, b6, t24, t25, r0_0, r0_1, s8))
        (pIf (decide (n1 ≤ t25))
          (k1 ([], (Err.no 3), r0_0, r0_1))
          (pCk (room 8 (len (s8 ++ [t25]))) <|
          J0 (n1, b6, t24, t25, r0_0, r0_1, (s8 ++ [t25])))))
      (k0 (r0_0, r0_1, s8))
def bits_fromPlain (N : Nat) (n1 : Int) (r0_0 : List Int) (r0_1 : Int) : Option ((List Int) × Err × (List Int) × Int) :=
  pCall (p_wire_Reader_Raw N (quoI .i64 (wr .i64 ((wr .i64 (n1 + 8)) - 1)) 8) r0_0 r0_1) fun x0 =>
  pIf (!(errNil x0.2.1))
    (some ([], x0.2.1, x0.2.2.1, x0.2.2.2))
    (bits_fromPlain_l7 N
      (fun x1 => some (x1.2.2, Err.nil, x1.1, x1.2.1))
      (fun x1 => some x1) N n1 x0.1 (wr .i64 (8 * (len x0.1))) 0 x0.2.2.1 x0.2.2.2 [])
def p_wire_Reader_look_l4 (N : Nat) (k0 : (List Int) × Int → Option (Int × Int × Int × (List Int) × Int)) (k1 : Int × Int × Int × (List Int) × Int → Option (Int × Int × Int × (List Int) × Int)) : Nat → Int → Int → Int → (List Int) → Int → Option (Int × Int × Int × (List Int) × Int)
  | 0, _, _, _, _, _ => none
  | n + 1, most1, n7, t10, r0_0, r0_1 =>
    pIf (decide (t10 < 10))
      (pIf (decide ((wr .i64 (r0_1 + t10)) = (len r0_0)))
        (k1 (0, 0, 2, r0_0, r0_1))
        (pIdx r0_0 (wr .i64 (r0_1 + t10)) fun x0 =>
        pLet (pick (decide (t10 = 9)) (decide (1 < x0)) false) fun x1 =>
        pIf x1
          (k1 (0, 0, 3, r0_0, r0_1))
          (pCk (decide (0 ≤ (wr .i64 (7 * t10)))) <|
          pIf (!decide ((band .u8 x0 128) = 0))
            (p_wire_Reader_look_l4 N k0 k1 n most1 (bor .u64 n7 (shlI .u64 (wr .u64 (band .u8 x0 127)) (wr .i64 (7 * t10)))) (wr .i64 (t10 + 1)) r0_0 r0_1)
            (pLet (pick (decide (x0 = 0)) (decide (0 < t10)) false) fun x2 =>
            pIf x2
              (k1 (0, 0, 3, r0_0, r0_1))
              (pIf (decide (most1 < (bor .u64 n7 (shlI .u64 (wr .u64 (band .u8 x0 127)) (wr .i64 (7 * t10))))))
                (k1 (0, 0, 4, r0_0, r0_1))
                (k1 ((bor .u64 n7 (shlI .u64 (wr .u64 (band .u8 x0 127)) (wr .i64 (7 * t10)))), (wr .i64 (t10 + 1)), 0, r0_0, r0_1)))))))
      (k0 (r0_0, r0_1))
def p_wire_Reader_look (N : Nat) (most1 : Int) (r0_0 : List Int) (r0_1 : Int) : Option (Int × Int × Int × (List Int) × Int) :=
  p_wire_Reader_look_l4 N
    (fun x0 => some (0, 0, 3, x0.1, x0.2))
    (fun x0 => some x0) N most1 0 0 r0_0 r0_1
def p_wire_Reader_Uint (N : Nat) (most1 : Int) (r0_0 : List Int) (r0_1 : Int) : Option (Int × Err × (List Int) × Int) :=
  pCall (p_wire_Reader_look N most1 r0_0 r0_1) fun x0 =>
  pIf (!decide (x0.2.2.1 = 0))
    (pCall (p_wire_Reader_wrong N x0.2.2.1 x0.2.2.2.1 x0.2.2.2.2) fun x1 =>
    some (0, x1.1, x1.2.1, x1.2.2))
    (some (x0.1, Err.nil, x0.2.2.2.1, (wr .i64 (x0.2.2.2.2 + x0.2.1))))
def bits_taken (N : Nat) (above1 : Int) (n2 : Int) (r0_0 : List Int) (r0_1 : Int) : Option (Int × Err × (List Int) × Int) :=
  pIf (decide (n2 ≤ above1))
    (some (0, (Err.no 4), r0_0, r0_1))
    (pCall (p_wire_Reader_Uint N (wr .u64 (wr .i64 ((wr .i64 (n2 - 1)) - above1))) r0_0 r0_1) fun x0 =>
    some ((wr .i64 (above1 + (wr .i64 x0.1))), x0.2.1, x0.2.2.1, x0.2.2.2))
def bits_fromGaps_l8 (N : Nat) (k0 : (List Int) × Int × List Int → Option ((List Int) × Err × (List Int) × Int)) (k1 : (List Int) × Err × (List Int) × Int → Option ((List Int) × Err × (List Int) × Int)) : Nat → Int → Int → Int → Int → (List Int) → Int → (List Int) → Option ((List Int) × Err × (List Int) × Int)
  | 0, _, _, _, _, _, _, _ => none
  | n + 1, n1, next9, t22, t23, r0_0, r0_1, s8 =>
    pIf (decide (t23 < t22))
      (pCall (bits_taken N next9 n1 r0_0 r0_1) fun x0 =>
      pIf (!(errNil x0.2.1))
        (k1 ([], x0.2.1, x0.2.2.1, x0.2.2.2))
        (pCk (room 8 (len (s8 ++ [x0.1]))) <|
        bits_fromGaps_l8 N k0 k1 n n1 (wr .i64 (x0.1 + 1)) t22 (wr .u64 (t23 + 1)) x0.2.2.1 x0.2.2.2 (s8 ++ [x0.1])))
      (k0 (r0_0, r0_1, s8))
def bits_fromGaps (N : Nat) (n1 : Int) (r0_0 : List Int) (r0_1 : Int) : Option ((List Int) × Err × (List Int) × Int) :=
  pCall (p_wire_Reader_Uint N (wr .u64 n1) r0_0 r0_1) fun x0 =>
  pIf (!(errNil x0.2.1))
    (some ([], x0.2.1, x0.2.2.1, x0.2.2.2))
    (bits_fromGaps_l8 N
      (fun x1 => some (x1.2.2, Err.nil, x1.1, x1.2.1))
      (fun x1 => some x1) N n1 0 x0.1 0 x0.2.2.1 x0.2.2.2 [])
def bits_fromRuns_l16 (N : Nat) (k0 : Int × Int × Int × Int × (List Int) × Int × List Int → Option ((List Int) × Err × (List Int) × Int)) : Nat → Int → Int → Int → Int → Int → (List Int) → Int → (List Int) → Option ((List Int) × Err × (List Int) × Int)
  | 0, _, _, _, _, _, _, _, _ => none
  | n + 1, n1, last12, xv13, t24, t25, r0_0, r0_1, s8 =>
    pIf (decide (xv13 ≤ last12))
      (pCk (room 8 (len (s8 ++ [xv13]))) <|
      bits_fromRuns_l16 N k0 n n1 last12 (wr .i64 (xv13 + 1)) t24 t25 r0_0 r0_1 (s8 ++ [xv13]))
      (k0 (n1, last12, t24, t25, r0_0, r0_1, s8))
def bits_fromRuns_l8 (N : Nat) (k0 : (List Int) × Int × List Int → Option ((List Int) × Err × (List Int) × Int)) (k1 : (List Int) × Err × (List Int) × Int → Option ((List Int) × Err × (List Int) × Int)) : Nat → Int → Int → Int → Int → (List Int) → Int → (List Int) → Option ((List Int) × Err × (List Int) × Int)
  | 0, _, _, _, _, _, _, _ => none
  | n + 1, n1, next9, t24, t25, r0_0, r0_1, s8 =>
    pIf (decide (t25 < t24))
      (pCall (bits_taken N next9 n1 r0_0 r0_1) fun x0 =>
      pIf (!(errNil x0.2.1))
        (k1 ([], x0.2.1, x0.2.2.1, x0.2.2.2))
        (pCall (bits_taken N x0.1 n1 x0.2.2.1 x0.2.2.2) fun x1 =>
        pIf (!(errNil x1.2.1))
          (k1 ([], x1.2.1, x1.2.2.1, x1.2.2.2))
          (bits_fromRuns_l16 N
            (fun x2 => bits_fromRuns_l8 N k0 k1 n x2.1 (wr .i64 (x2.2.1 + 2)) x2.2.2.1 (wr .u64 (x2.2.2.2.1 + 1)) x2.2.2.2.2.1 x2.2.2.2.2.2.1 x2.2.2.2.2.2.2) N n1 x1.1 x0.1 t24 t25 x1.2.2.1 x1.2.2.2 s8)))
      (k0 (r0_0, r0_1, s8))
def bits_fromRuns (N : Nat) (n1 : Int) (r0_0 : List Int) (r0_1 : Int) : Option ((List Int) × Err × (List Int) × Int) :=
  pCall (p_wire_Reader_Uint N (wr .u64 n1) r0_0 r0_1) fun x0 =>
  pIf (!(errNil x0.2.1))
    (some ([], x0.2.1, x0.2.2.1, x0.2.2.2))
    (bits_fromRuns_l8 N
      (fun x1 => some (x1.2.2, Err.nil, x1.1, x1.2.1))
      (fun x1 => some x1) N n1 0 x0.1 0 x0.2.2.1 x0.2.2.2 [])
def bits_body (N : Nat) (n1 : Int) (r0_0 : List Int) (r0_1 : Int) : Option ((List Int) × Err × (List Int) × Int) :=
  pCall (p_wire_Reader_Byte N r0_0 r0_1) fun x0 =>
  pIf (!(errNil x0.2.1))
    (some ([], x0.2.1, x0.2.2.1, x0.2.2.2))
    (pIf (decide (x0.1 = 0))
      (pCall (bits_fromPlain N n1 x0.2.2.1 x0.2.2.2) fun x1 =>
      some (x1.1, x1.2.1, x1.2.2.1, x1.2.2.2))
      (pIf (decide (x0.1 = 1))
        (pCall (bits_fromGaps N n1 x0.2.2.1 x0.2.2.2) fun x1 =>
        some (x1.1, x1.2.1, x1.2.2.1, x1.2.2.2))
        (pIf (decide (x0.1 = 2))
          (pCall (bits_fromRuns N n1 x0.2.2.1 x0.2.2.2) fun x1 =>
          some (x1.1, x1.2.1, x1.2.2.1, x1.2.2.2))
          (some ([], (Err.no 5), x0.2.2.1, x0.2.2.2)))))
def fault_Kind (N : Nat) (x : Err) : Option Int := zKind x
def bytes_Equal (N : Nat) (a0 : List Int) (b1 : List Int) : Option (Bool) :=
  some (decide ((toStr a0) = (toStr b1)))
def bits_Read (N : Nat) (n1 : Int) (r0_0 : List Int) (r0_1 : Int) : Option ((List Int) × Err × (List Int) × Int) :=
  pCall (p_wire_Reader_At N r0_0 r0_1) fun x0 =>
  pLet (pick false true (decide (n1 < 0))) fun x1 =>
  pLet (pick x1 true (decide (4096 < n1))) fun x2 =>
  pIf x2
    (pCall (fault_At N (Err.no 1) [x0.1]) fun x3 =>
    some ([], x3, x0.2.1, x0.2.2))
    (pCall (p_wire_Reader_Copy N x0.2.1 x0.2.2) fun x3 =>
    pCall (bits_body N n1 x3.1 x3.2.1) fun x4 =>
    pIf (!(errNil x4.2.1))
      (pCall (fault_Kind N x4.2.1) fun x5 =>
      pCall (fault_At N (Err.no x5) [x0.1]) fun x6 =>
      some ([], x6, x3.2.2.1, x3.2.2.2))
      (pCall (p_wire_Reader_At N x4.2.2.1 x4.2.2.2) fun x5 =>
      pCall (p_wire_Reader_Copy N x3.2.2.1 x3.2.2.2) fun x6 =>
      pCall (p_wire_Reader_Raw N (wr .i64 (x5.1 - x0.1)) x6.1 x6.2.1) fun x7 =>
      pCallG (!(!(errNil x7.2.1))) 0 (bits_Way N n1 x4.1) fun x8 =>
      pCallG (!(!(errNil x7.2.1))) [] (bits_laid N n1 x4.1 x8) fun x9 =>
      pCallG (!(!(errNil x7.2.1))) false (bytes_Equal N x7.1 x9) fun x10 =>
      pLet (pick (!(errNil x7.2.1)) true (!x10)) fun x11 =>
      pIf x11
        (pCall (fault_At N (Err.no 3) [x0.1]) fun x12 =>
        some ([], x12, x6.2.2.1, x6.2.2.2))
        (pCall (p_wire_Reader_Raw N (wr .i64 (x5.1 - x0.1)) x6.2.2.1 x6.2.2.2) fun x12 =>
        some (x4.1, x12.2.1, x12.2.2.1, x12.2.2.2))))
def avermentref01_Same_l5 (N : Nat) (k0 : Unit → Option (Bool)) (k1 : Bool → Option (Bool)) : Nat → (List Int) → (List Int) → Int → Option (Bool)
  | 0, _, _, _ => none
  | n + 1, a0, b1, i5 =>
    pIf (decide (i5 < (len a0)))
      (pIdx a0 i5 fun x0 =>
      pIdx b1 i5 fun x1 =>
      pIf (!decide (x0 = x1))
        (k1 false)
        (avermentref01_Same_l5 N k0 k1 n a0 b1 (wr .i64 (i5 + 1))))
      (k0 ())
def avermentref01_Same (N : Nat) (a0 : List Int) (b1 : List Int) : Option (Bool) :=
  pIf (!decide ((len a0) = (len b1)))
    (some false)
    (avermentref01_Same_l5 N
      (fun x0 => some true)
      (fun x0 => some x0) N a0 b1 0)
def avermentlaw03_lays (N : Nat) : Option (Bool) :=
  pCall (wire_New N) fun x0 =>
  pCall (bits_Write N 16 [0, 1, 2, 3] x0) fun x1 =>
  pCall (p_wire_Writer_Bytes N x1.2) fun x2 =>
  pCall (wire_Read N x2.1) fun x3 =>
  pCall (bits_Read N 16 x3.1 x3.2) fun x4 =>
  pLet (pick (errNil x1.1) (errNil x4.2.1) false) fun x5 =>
  pIf x5
    (pCall (p_wire_Writer_Bytes N x2.2) fun x6 =>
    pLet (pick x5 (decide ((toStr x6.1) = [0, 15, 0])) false) fun x7 =>
    pCallG x7 false (avermentref01_Same N x4.1 [0, 1, 2, 3]) fun x8 =>
    pLet (pick x7 x8 false) fun x9 =>
    pCallG x9 0 (bits_Way N 16 []) fun x10 =>
    pLet (pick x9 (decide (x10 = 1)) false) fun x11 =>
    some x11)
    (pLet (pick x5 (decide ((toStr []) = [0, 15, 0])) false) fun x6 =>
    pCallG x6 false (avermentref01_Same N x4.1 [0, 1, 2, 3]) fun x7 =>
    pLet (pick x6 x7 false) fun x8 =>
    pCallG x8 0 (bits_Way N 16 []) fun x9 =>
    pLet (pick x8 (decide (x9 = 1)) false) fun x10 =>
    some x10)
def avermentref03_Plain_l4 (N : Nat) (k0 : List Int → Option (List Int)) : Nat → (List Int) → Int → (List Int) → Option (List Int)
  | 0, _, _, _ => none
  | n + 1, s1, i6, b5 =>
    pIf (decide (i6 < (len s1)))
      (pIdx s1 i6 fun x0 =>
      pIdx s1 i6 fun x1 =>
      pCk ((decide (0 ≤ (wr .i64 (1 + (quoI .i64 x1 8))))) && (decide ((wr .i64 (1 + (quoI .i64 x1 8))) < (len b5)))) <|
      pIdx b5 (wr .i64 (1 + (quoI .i64 x1 8))) fun x2 =>
      pIdx s1 i6 fun x3 =>
      pCk (decide (0 ≤ (remI x3 8))) <|
      pCk ((decide (0 ≤ (wr .i64 (1 + (quoI .i64 x0 8))))) && (decide ((wr .i64 (1 + (quoI .i64 x0 8))) < (len b5)))) <|
      pIdx b5 (wr .i64 (1 + (quoI .i64 x0 8))) fun x4 =>
      avermentref03_Plain_l4 N k0 n s1 (wr .i64 (i6 + 1)) (setI b5 (wr .i64 (1 + (quoI .i64 x0 8))) (bor .u8 x2 (shlI .u8 1 (remI x3 8)))))
      (k0 b5)
def avermentref03_Plain (N : Nat) (n0 : Int) (s1 : List Int) : Option (List Int) :=
  pCk ((decide (0 ≤ (wr .i64 (1 + (quoI .i64 (wr .i64 (n0 + 7)) 8))))) && (decide ((wr .i64 (1 + (quoI .i64 (wr .i64 (n0 + 7)) 8))) ≤ (wr .i64 (1 + (quoI .i64 (wr .i64 (n0 + 7)) 8)))))) <|
  pCk (room 1 (wr .i64 (1 + (quoI .i64 (wr .i64 (n0 + 7)) 8)))) <|
  avermentref03_Plain_l4 N
    (fun x0 => some x0) N s1 0 (rep (wr .i64 (1 + (quoI .i64 (wr .i64 (n0 + 7)) 8))) 0)
def avermentref02_Uint_b (self : Nat → Int → Option (List Int)) (N : Nat) (n0 : Int) : Option (List Int) :=
    pIf (decide (n0 < 128))
      (some [(wr .u8 n0)])
      (pCall (self N (quoI .u64 n0 128)) fun x0 =>
      pCk (room 1 (len ([(wr .u8 ((wr .u8 (remI n0 128)) + 128))] ++ x0))) <|
      some ([(wr .u8 ((wr .u8 (remI n0 128)) + 128))] ++ x0))
def avermentref02_Uint_f (self : Nat → Int → Option (List Int)) (N : Nat) (x : Int) : Option (List Int) := avermentref02_Uint_b (fun N n0 => self N (n0)) N x
def avermentref02_Uint (N : Nat) (n0 : Int) : Option (List Int) := recF avermentref02_Uint_f N N (n0)
def avermentref03_Gaps_l4 (N : Nat) (k0 : List Int → Option (List Int)) : Nat → (List Int) → Int → (List Int) → Option (List Int)
  | 0, _, _, _ => none
  | n + 1, s0, i4, b3 =>
    pIf (decide (i4 < (len s0)))
      (pIdx s0 i4 fun x0 =>
      pJoin (fun (x1 : (List Int) × Int × Int × List Int) =>
        pCall (avermentref02_Uint N (wr .u64 x1.2.2.1)) fun x2 =>
        pCk (room 1 (len (x1.2.2.2 ++ x2))) <|
        avermentref03_Gaps_l4 N k0 n x1.1 (wr .i64 (x1.2.1 + 1)) (x1.2.2.2 ++ x2)) fun J1 =>
      pIf (decide (0 < i4))
        (pIdx s0 i4 fun x2 =>
        pIdx s0 (wr .i64 (i4 - 1)) fun x3 =>
        J1 (s0, i4, (wr .i64 ((wr .i64 (x2 - x3)) - 1)), b3))
        (J1 (s0, i4, x0, b3)))
      (k0 b3)
def avermentref03_Gaps (N : Nat) (s0 : List Int) : Option (List Int) :=
  pCall (avermentref02_Uint N (wr .u64 (len s0))) fun x0 =>
  pCk (room 1 (len ([1] ++ x0))) <|
  avermentref03_Gaps_l4 N
    (fun x1 => some x1) N s0 0 ([1] ++ x0)
def avermentref03_Runs_l7 (N : Nat) (k0 : (List Int) × Int × Int × Int × Int × List Int → Option (List Int)) : Nat → (List Int) → Int → Int → Int → Int → (List Int) → Option (List Int)
  | 0, _, _, _, _, _, _ => none
  | n + 1, s0, runs4, end5, i6, kv7, l3 =>
    pIdxG (decide (kv7 < (len s0))) 0 s0 kv7 fun x0 =>
    pIdxG (decide (kv7 < (len s0))) 0 s0 (wr .i64 (kv7 - 1)) fun x1 =>
    pLet (pick (decide (kv7 < (len s0))) (decide (x0 = (wr .i64 (x1 + 1)))) false) fun x2 =>
    pIf x2
      (avermentref03_Runs_l7 N k0 n s0 runs4 end5 i6 (wr .i64 (kv7 + 1)) l3)
      (k0 (s0, runs4, end5, i6, kv7, l3))
def avermentref03_Runs_l5 (N : Nat) (k0 : Int × List Int → Option (List Int)) : Nat → (List Int) → Int → Int → Int → (List Int) → Option (List Int)
  | 0, _, _, _, _, _ => none
  | n + 1, s0, runs4, end5, i6, l3 =>
    pIf (decide (i6 < (len s0)))
      (avermentref03_Runs_l7 N
        (fun x0 => pIdx x0.1 x0.2.2.2.1 fun x1 =>
          pJoin (fun (x2 : (List Int) × Int × Int × Int × Int × List Int) =>
            pCall (avermentref02_Uint N (wr .u64 x2.2.2.2.2.1)) fun x3 =>
            pCk (room 1 (len (x2.2.2.2.2.2 ++ x3))) <|
            pCall (avermentref02_Uint N (wr .u64 (wr .i64 ((wr .i64 (x2.2.2.2.1 - x2.2.2.1)) - 1)))) fun x4 =>
            pCk (room 1 (len ((x2.2.2.2.2.2 ++ x3) ++ x4))) <|
            pIdx x2.1 (wr .i64 (x2.2.2.2.1 - 1)) fun x5 =>
            avermentref03_Runs_l5 N k0 n x2.1 (wr .i64 (x2.2.1 + 1)) x5 x2.2.2.2.1 ((x2.2.2.2.2.2 ++ x3) ++ x4)) fun J2 =>
          pIf (decide (0 < x0.2.1))
            (pIdx x0.1 x0.2.2.2.1 fun x3 =>
            J2 (x0.1, x0.2.1, x0.2.2.2.1, x0.2.2.2.2.1, (wr .i64 ((wr .i64 (x3 - x0.2.2.1)) - 2)), x0.2.2.2.2.2))
            (J2 (x0.1, x0.2.1, x0.2.2.2.1, x0.2.2.2.2.1, x1, x0.2.2.2.2.2))) N s0 runs4 end5 i6 (wr .i64 (i6 + 1)) l3)
      (k0 (runs4, l3))
def avermentref03_Runs (N : Nat) (s0 : List Int) : Option (List Int) :=
  avermentref03_Runs_l5 N
    (fun x0 => pCall (avermentref02_Uint N (wr .u64 x0.1)) fun x1 =>
      pCk (room 1 (len ([2] ++ x1))) <|
      pCk (room 1 (len (([2] ++ x1) ++ x0.2))) <|
      some (([2] ++ x1) ++ x0.2)) N s0 0 0 0 []
def avermentlaw03_BitsSmall (N : Nat) (n0 : Int) (raw1 : List Int) (way2 : Int) : Option (Bool) :=
  pCall (avermentlaw03_Set N (wr .i64 (remI (wr .u64 n0) 4097)) raw1) fun x0 =>
  pCall (bits_Size N (wr .i64 (remI (wr .u64 n0) 4097)) x0 0) fun x1 =>
  pCall (bits_Size N (wr .i64 (remI (wr .u64 n0) 4097)) x0 1) fun x2 =>
  pCall (bits_Size N (wr .i64 (remI (wr .u64 n0) 4097)) x0 2) fun x3 =>
  pCall (wire_New N) fun x4 =>
  pCall (bits_Write N (wr .i64 (remI (wr .u64 n0) 4097)) x0 x4) fun x5 =>
  pCall (p_wire_Writer_Bytes N x5.2) fun x6 =>
  pCall (bits_Size N (wr .i64 (remI (wr .u64 n0) 4097)) x0 way2) fun x7 =>
  pCall (avermentlaw03_lays N) fun x8 =>
  pLet (pick x8 (errNil x5.1) false) fun x9 =>
  pCallG x9 [] (avermentref03_Plain N (wr .i64 (remI (wr .u64 n0) 4097)) x0) fun x10 =>
  pLet (pick x9 (decide (x1 = (len x10))) false) fun x11 =>
  pCallG x11 [] (avermentref03_Gaps N x0) fun x12 =>
  pLet (pick x11 (decide (x2 = (len x12))) false) fun x13 =>
  pCallG x13 [] (avermentref03_Runs N x0) fun x14 =>
  pLet (pick x13 (decide (x3 = (len x14))) false) fun x15 =>
  pLet (pick x15 (decide ((len x6.1) = (mnI (mnI x1 x2) x3))) false) fun x16 =>
  pLet (pick (decide (0 ≤ way2)) (decide (way2 ≤ 2)) false) fun x17 =>
  pLet (pick x17 true (decide (x7 = (-1)))) fun x18 =>
  pLet (pick x16 x18 false) fun x19 =>
  some x19
def fault_Is (N : Nat) (x : Err) (y : Int) : Option Bool := zIs x y
def avermentlaw03_BitsOnce_l10 (N : Nat) (k0 : (List Int) × (List Int) × Int × (List Int) × List Int → Option (Bool)) (k1 : Bool → Option (Bool)) : Nat → Int → (List Int) → (List Int) → Int → Int → (List Int) → (List Int) → (List (List Int)) → Option (Bool)
  | 0, _, _, _, _, _, _, _, _ => none
  | n + 1, kv7, a8, b9, taken13, i14, v10, w11, ways12 =>
    pIf (decide (i14 < 3))
      (pCk ((decide (0 ≤ i14)) && (decide (i14 < (len ways12)))) <|
      pIdx ways12 i14 fun x0 =>
      pCall (wire_Read N x0) fun x1 =>
      pCall (bits_Read N kv7 x1.1 x1.2) fun x2 =>
      pJoin (fun (x3 : Int × (List Int) × (List Int) × Int × Int × (List Int) × (List Int) × List (List Int)) =>
        avermentlaw03_BitsOnce_l10 N k0 k1 n x3.1 x3.2.1 x3.2.2.1 x3.2.2.2.1 (wr .i64 (x3.2.2.2.2.1 + 1)) x3.2.2.2.2.2.1 x3.2.2.2.2.2.2.1 x3.2.2.2.2.2.2.2) fun J3 =>
      pIf (errNil x2.2.1)
        (pCall (avermentref01_Same N x2.1 a8) fun x4 =>
        pIf (!x4)
          (k1 false)
          (J3 (kv7, a8, b9, (wr .i64 (taken13 + 1)), i14, v10, w11, ways12)))
        (pCall (fault_Is N x2.2.1 3) fun x4 =>
        pIf (!x4)
          (k1 false)
          (J3 (kv7, a8, b9, taken13, i14, v10, w11, ways12))))
      (k0 (a8, b9, taken13, v10, w11))
def avermentlaw03_BitsOnce (N : Nat) (n0 : Int) (xv1 : List Int) (yv2 : List Int) : Option (Bool) :=
  pCall (avermentlaw03_Set N (wr .i64 (1 + (wr .i64 (remI (wr .u64 n0) 200)))) xv1) fun x0 =>
  pCall (avermentlaw03_Set N (wr .i64 (1 + (wr .i64 (remI (wr .u64 n0) 200)))) yv2) fun x1 =>
  pCall (wire_New N) fun x2 =>
  pCall (wire_New N) fun x3 =>
  pCall (bits_Write N (wr .i64 (1 + (wr .i64 (remI (wr .u64 n0) 200)))) x0 x2) fun x4 =>
  pIf (!(!(errNil x4.1)))
    (pCall (bits_Write N (wr .i64 (1 + (wr .i64 (remI (wr .u64 n0) 200)))) x1 x3) fun x5 =>
    pLet (pick (!(errNil x4.1)) true (!(errNil x5.1))) fun x6 =>
    pIf x6
      (some false)
      (pCall (avermentref03_Plain N (wr .i64 (1 + (wr .i64 (remI (wr .u64 n0) 200)))) x0) fun x7 =>
      pCall (avermentref03_Gaps N x0) fun x8 =>
      pCall (avermentref03_Runs N x0) fun x9 =>
      avermentlaw03_BitsOnce_l10 N
        (fun x10 => pCall (avermentlaw03_lays N) fun x11 =>
          pLet (pick x11 (decide (x10.2.2.1 = 1)) false) fun x12 =>
          pIf x12
            (pCall (p_wire_Writer_Bytes N x10.2.2.2.1) fun x13 =>
            pIf x12
              (pCall (p_wire_Writer_Bytes N x10.2.2.2.2) fun x14 =>
              pCallG x12 false (avermentref01_Same N x10.1 x10.2.1) fun x15 =>
              pLet (pick x12 (((decide ((toStr x13.1) = (toStr x14.1))) == x15)) false) fun x16 =>
              some x16)
              (pCallG x12 false (avermentref01_Same N x10.1 x10.2.1) fun x14 =>
              pLet (pick x12 (((decide ((toStr x13.1) = (toStr []))) == x14)) false) fun x15 =>
              some x15))
            (pIf x12
              (pCall (p_wire_Writer_Bytes N x10.2.2.2.2) fun x13 =>
              pCallG x12 false (avermentref01_Same N x10.1 x10.2.1) fun x14 =>
              pLet (pick x12 (((decide ((toStr []) = (toStr x13.1))) == x14)) false) fun x15 =>
              some x15)
              (pCallG x12 false (avermentref01_Same N x10.1 x10.2.1) fun x13 =>
              pLet (pick x12 (((decide ((toStr []) = (toStr []))) == x13)) false) fun x14 =>
              some x14)))
        (fun x10 => some x10) N (wr .i64 (1 + (wr .i64 (remI (wr .u64 n0) 200)))) x0 x1 0 0 x4.2 x5.2 [x7, x8, x9]))
    (pLet (pick (!(errNil x4.1)) true (!(errNil Err.nil))) fun x5 =>
    pIf x5
      (some false)
      (pCall (avermentref03_Plain N (wr .i64 (1 + (wr .i64 (remI (wr .u64 n0) 200)))) x0) fun x6 =>
      pCall (avermentref03_Gaps N x0) fun x7 =>
      pCall (avermentref03_Runs N x0) fun x8 =>
      avermentlaw03_BitsOnce_l10 N
        (fun x9 => pCall (avermentlaw03_lays N) fun x10 =>
          pLet (pick x10 (decide (x9.2.2.1 = 1)) false) fun x11 =>
          pIf x11
            (pCall (p_wire_Writer_Bytes N x9.2.2.2.1) fun x12 =>
            pIf x11
              (pCall (p_wire_Writer_Bytes N x9.2.2.2.2) fun x13 =>
              pCallG x11 false (avermentref01_Same N x9.1 x9.2.1) fun x14 =>
              pLet (pick x11 (((decide ((toStr x12.1) = (toStr x13.1))) == x14)) false) fun x15 =>
              some x15)
              (pCallG x11 false (avermentref01_Same N x9.1 x9.2.1) fun x13 =>
              pLet (pick x11 (((decide ((toStr x12.1) = (toStr []))) == x13)) false) fun x14 =>
              some x14))
            (pIf x11
              (pCall (p_wire_Writer_Bytes N x9.2.2.2.2) fun x12 =>
              pCallG x11 false (avermentref01_Same N x9.1 x9.2.1) fun x13 =>
              pLet (pick x11 (((decide ((toStr []) = (toStr x12.1))) == x13)) false) fun x14 =>
              some x14)
              (pCallG x11 false (avermentref01_Same N x9.1 x9.2.1) fun x12 =>
              pLet (pick x11 (((decide ((toStr []) = (toStr []))) == x12)) false) fun x13 =>
              some x13)))
        (fun x9 => some x9) N (wr .i64 (1 + (wr .i64 (remI (wr .u64 n0) 200)))) x0 x1 0 0 x4.2 x3 [x6, x7, x8]))
def avermentref03_Right_l5 (N : Nat) (k0 : Unit → Option (Bool)) (k1 : Bool → Option (Bool)) : Nat → Int → (List Int) → Int → Option (Bool)
  | 0, _, _, _ => none
  | n + 1, n0, s1, i5 =>
    pIf (decide (i5 < (len s1)))
      (pIdx s1 i5 fun x0 =>
      pIdxG (!(decide (x0 < 0))) 0 s1 i5 fun x1 =>
      pLet (pick (decide (x0 < 0)) true (decide (n0 ≤ x1))) fun x2 =>
      pIdxG ((!x2) && (decide (0 < i5))) 0 s1 i5 fun x3 =>
      pIdxG ((!x2) && (decide (0 < i5))) 0 s1 (wr .i64 (i5 - 1)) fun x4 =>
      pLet (pick (decide (0 < i5)) (decide (x3 ≤ x4)) false) fun x5 =>
      pLet (pick x2 true x5) fun x6 =>
      pIf x6
        (k1 false)
        (avermentref03_Right_l5 N k0 k1 n n0 s1 (wr .i64 (i5 + 1))))
      (k0 ())
def avermentref03_Right (N : Nat) (n0 : Int) (s1 : List Int) : Option (Bool) :=
  pLet (pick (decide (n0 < 0)) true (decide (4096 < n0))) fun x0 =>
  pIf x0
    (some false)
    (avermentref03_Right_l5 N
      (fun x1 => some true)
      (fun x1 => some x1) N n0 s1 0)
def avermentref03_Bytes (N : Nat) (n0 : Int) (s1 : List Int) : Option ((List Int) × Int) :=
  pCall (avermentref03_Plain N n0 s1) fun x0 =>
  pCall (avermentref03_Gaps N s1) fun x1 =>
  pCall (avermentref03_Runs N s1) fun x2 =>
  pLet (pick (decide ((len x0) ≤ (len x1))) (decide ((len x0) ≤ (len x2))) false) fun x3 =>
  pIf x3
    (some (x0, 0))
    (pIf (decide ((len x1) ≤ (len x2)))
      (some (x1, 1))
      (some (x2, 2)))
def avermentlaw03_BitsLays (N : Nat) (n0 : Int) (s1 : List Int) : Option (Bool) :=
  pCk ((decide (0 ≤ (mnI (len s1) 300))) && (decide ((mnI (len s1) 300) ≤ (len s1)))) <|
  pCk ((decide (0 ≤ 0)) && (decide (0 ≤ (mnI (len s1) 300)))) <|
  pCk (room 8 (len ([] ++ (sub s1 0 (mnI (len s1) 300))))) <|
  pCk (room 8 (len ([] ++ ([] ++ (sub s1 0 (mnI (len s1) 300)))))) <|
  pCall (avermentref03_Right N n0 ([] ++ (sub s1 0 (mnI (len s1) 300)))) fun x0 =>
  pCall (wire_New N) fun x1 =>
  pCall (bits_Write N n0 ([] ++ (sub s1 0 (mnI (len s1) 300))) x1) fun x2 =>
  pCall (avermentlaw03_lays N) fun x3 =>
  pCallG (!(!x3)) false (bits_Right N n0 ([] ++ (sub s1 0 (mnI (len s1) 300)))) fun x4 =>
  pLet (pick (!x3) true (!((x4 == x0)))) fun x5 =>
  pLet (pick x5 true (!(((errNil x2.1) == x0)))) fun x6 =>
  pCallG (!x6) false (avermentref01_Same N ([] ++ (sub s1 0 (mnI (len s1) 300))) ([] ++ ([] ++ (sub s1 0 (mnI (len s1) 300))))) fun x7 =>
  pLet (pick x6 true (!x7)) fun x8 =>
  pIf x8
    (some false)
    (pIf (!x0)
      (pCall (fault_Is N x2.1 1) fun x9 =>
      pIf x9
        (pCall (p_wire_Writer_Bytes N x2.2) fun x10 =>
        pLet (pick x9 (decide ((len x10.1) = 0)) false) fun x11 =>
        pCallG x11 0 (bits_Way N n0 ([] ++ (sub s1 0 (mnI (len s1) 300)))) fun x12 =>
        pLet (pick x11 (decide (x12 = (-1))) false) fun x13 =>
        pCallG x13 0 (bits_Size N n0 ([] ++ (sub s1 0 (mnI (len s1) 300))) 0) fun x14 =>
        pLet (pick x13 (decide (x14 = (-1))) false) fun x15 =>
        some x15)
        (pLet (pick x9 (decide ((len ([] : List Int)) = 0)) false) fun x10 =>
        pCallG x10 0 (bits_Way N n0 ([] ++ (sub s1 0 (mnI (len s1) 300)))) fun x11 =>
        pLet (pick x10 (decide (x11 = (-1))) false) fun x12 =>
        pCallG x12 0 (bits_Size N n0 ([] ++ (sub s1 0 (mnI (len s1) 300))) 0) fun x13 =>
        pLet (pick x12 (decide (x13 = (-1))) false) fun x14 =>
        some x14))
      (pCall (avermentref03_Bytes N n0 ([] ++ (sub s1 0 (mnI (len s1) 300)))) fun x9 =>
      pCall (wire_Read N x9.1) fun x10 =>
      pCall (bits_Read N n0 x10.1 x10.2) fun x11 =>
      pCall (p_wire_Writer_Bytes N x2.2) fun x12 =>
      pCallG (decide ((toStr x12.1) = (toStr x9.1))) 0 (bits_Way N n0 ([] ++ (sub s1 0 (mnI (len s1) 300)))) fun x13 =>
      pLet (pick (decide ((toStr x12.1) = (toStr x9.1))) (decide (x13 = x9.2)) false) fun x14 =>
      pLet (pick x14 (errNil x11.2.1) false) fun x15 =>
      pCallG x15 false (avermentref01_Same N x11.1 ([] ++ (sub s1 0 (mnI (len s1) 300)))) fun x16 =>
      pLet (pick x15 x16 false) fun x17 =>
      pIf x17
        (pCall (p_wire_Reader_Left N x11.2.2.1 x11.2.2.2) fun x18 =>
        pLet (pick x17 (decide (x18.1 = 0)) false) fun x19 =>
        some x19)
        (pLet (pick x17 (decide (0 = 0)) false) fun x18 =>
        some x18)))
def slices_Grow_int_int (N : Nat) (x : Int) : Option (List Int) := zGrow x
def slices_Concat_int_int_l4 (N : Nat) (k0 : (List (List Int)) × Int → Option (List Int)) : Nat → (List (List Int)) → Int → (List (List Int)) → Int → Int → Option (List Int)
  | 0, _, _, _, _, _ => none
  | n + 1, slices0, size3, t9, t10, t11 =>
    pIf (decide (t11 < t10))
      (pIdx t9 t11 fun x0 =>
      pIf (decide ((wr .i64 (size3 + (len x0))) < 0))
        (none)
        (slices_Concat_int_int_l4 N k0 n slices0 (wr .i64 (size3 + (len x0))) t9 t10 (wr .i64 (t11 + 1))))
      (k0 (slices0, size3))
def slices_Concat_int_int_l12 (N : Nat) (k0 : List Int → Option (List Int)) : Nat → (List (List Int)) → Int → Int → (List Int) → Option (List Int)
  | 0, _, _, _, _ => none
  | n + 1, t25, t26, t27, newslice6 =>
    pIf (decide (t27 < t26))
      (pIdx t25 t27 fun x0 =>
      pCk (room 8 (len (newslice6 ++ x0))) <|
      slices_Concat_int_int_l12 N k0 n t25 t26 (wr .i64 (t27 + 1)) (newslice6 ++ x0))
      (k0 newslice6)
def slices_Concat_int_int (N : Nat) (slices0 : List (List Int)) : Option (List Int) :=
  slices_Concat_int_int_l4 N
    (fun x0 => pCall (slices_Grow_int_int N x0.2) fun x1 =>
      slices_Concat_int_int_l12 N
        (fun x2 => some x2) N x0.1 (len x0.1) 0 x1) N slices0 0 slices0 (len slices0) 0
def slices_Sort_int_int (N : Nat) (x : List Int) : Option (List Int) := zSort x
def slices_Compact_int_int (N : Nat) (x : List Int) : Option (List Int) := zCompact x
def bits_Union (N : Nat) (a0 : List Int) (b1 : List Int) : Option (List Int) :=
  pCall (slices_Concat_int_int N [a0, b1]) fun x0 =>
  pCall (slices_Sort_int_int N x0) fun x1 =>
  pCall (slices_Compact_int_int N x1) fun x2 =>
  some x2
def cmp_isNaN_int (N : Nat) (xv0 : Int) : Option (Bool) :=
  some (!decide (xv0 = xv0))
def cmp_Less_int (N : Nat) (xv0 : Int) (yv1 : Int) : Option (Bool) :=
  pCall (cmp_isNaN_int N xv0) fun x0 =>
  pCallG x0 false (cmp_isNaN_int N yv1) fun x1 =>
  pLet (pick x0 (!x1) false) fun x2 =>
  pLet (pick x2 true (decide (xv0 < yv1))) fun x3 =>
  some x3
def slices_isNaN_int (N : Nat) (xv0 : Int) : Option (Bool) :=
  some (!decide (xv0 = xv0))
def slices_BinarySearch_int_int_l4 (N : Nat) (k0 : (List Int) × Int × Int × Int → Option (Int × Bool)) : Nat → (List Int) → Int → Int → Int → Int → Option (Int × Bool)
  | 0, _, _, _, _, _ => none
  | n + 1, xv0, target1, n6, i7, j8 =>
    pIf (decide (i7 < j8))
      (pIdx xv0 (wr .i64 (shrI .u64 (wr .u64 (wr .i64 (i7 + j8))) 1)) fun x0 =>
      pCall (cmp_Less_int N x0 target1) fun x1 =>
      pJoin (fun (x2 : (List Int) × Int × Int × Int × Int) =>
        slices_BinarySearch_int_int_l4 N k0 n x2.1 x2.2.1 x2.2.2.1 x2.2.2.2.1 x2.2.2.2.2) fun J2 =>
      pIf x1
        (J2 (xv0, target1, n6, (wr .i64 ((wr .i64 (shrI .u64 (wr .u64 (wr .i64 (i7 + j8))) 1)) + 1)), j8))
        (J2 (xv0, target1, n6, i7, (wr .i64 (shrI .u64 (wr .u64 (wr .i64 (i7 + j8))) 1)))))
      (k0 (xv0, target1, n6, i7))
def slices_BinarySearch_int_int (N : Nat) (xv0 : List Int) (target1 : Int) : Option (Int × Bool) :=
  slices_BinarySearch_int_int_l4 N
    (fun x0 => pIdxG (decide (x0.2.2.2 < x0.2.2.1)) 0 x0.1 x0.2.2.2 fun x1 =>
      pIdxG ((decide (x0.2.2.2 < x0.2.2.1)) && (!(decide (x1 = x0.2.1)))) 0 x0.1 x0.2.2.2 fun x2 =>
      pCallG ((decide (x0.2.2.2 < x0.2.2.1)) && (!(decide (x1 = x0.2.1)))) false (slices_isNaN_int N x2) fun x3 =>
      pCallG (((decide (x0.2.2.2 < x0.2.2.1)) && (!(decide (x1 = x0.2.1)))) && x3) false (slices_isNaN_int N x0.2.1) fun x4 =>
      pLet (pick x3 x4 false) fun x5 =>
      pLet (pick (decide (x1 = x0.2.1)) true x5) fun x6 =>
      pLet (pick (decide (x0.2.2.2 < x0.2.2.1)) x6 false) fun x7 =>
      some (x0.2.2.2, x7)) N xv0 target1 (len xv0) 0 (len xv0)
def bits_Has (N : Nat) (a0 : List Int) (xv1 : Int) : Option (Bool) :=
  pCall (slices_BinarySearch_int_int N a0 xv1) fun x0 =>
  some x0.2
def bits_Minus_l4 (N : Nat) (k0 : List Int → Option (List Int)) : Nat → (List Int) → (List Int) → Int → Int → (List Int) → Option (List Int)
  | 0, _, _, _, _, _ => none
  | n + 1, b1, t8, t9, t10, out5 =>
    pIf (decide (t10 < t9))
      (pIdx t8 t10 fun x0 =>
      pCall (bits_Has N b1 x0) fun x1 =>
      pJoin (fun (x2 : (List Int) × (List Int) × Int × Int × List Int) =>
        bits_Minus_l4 N k0 n x2.1 x2.2.1 x2.2.2.1 (wr .i64 (x2.2.2.2.1 + 1)) x2.2.2.2.2) fun J2 =>
      pIf (!x1)
        (pCk (room 8 (len (out5 ++ [x0]))) <|
        J2 (b1, t8, t9, t10, (out5 ++ [x0])))
        (J2 (b1, t8, t9, t10, out5)))
      (k0 out5)
def bits_Minus (N : Nat) (a0 : List Int) (b1 : List Int) : Option (List Int) :=
  bits_Minus_l4 N
    (fun x0 => some x0) N b1 a0 (len a0) 0 []
def avermentref03_Has_l3 (N : Nat) (k0 : Unit → Option (Bool)) (k1 : Bool → Option (Bool)) : Nat → (List Int) → Int → Int → Option (Bool)
  | 0, _, _, _ => none
  | n + 1, s0, xv1, i5 =>
    pIf (decide (i5 < (len s0)))
      (pIdx s0 i5 fun x0 =>
      pIf (decide (x0 = xv1))
        (k1 true)
        (avermentref03_Has_l3 N k0 k1 n s0 xv1 (wr .i64 (i5 + 1))))
      (k0 ())
def avermentref03_Has (N : Nat) (s0 : List Int) (xv1 : Int) : Option (Bool) :=
  avermentref03_Has_l3 N
    (fun x0 => some false)
    (fun x0 => some x0) N s0 xv1 0
def bits_Within (N : Nat) (a0 : List Int) (b1 : List Int) : Option (Bool) :=
  pCall (bits_Minus N a0 b1) fun x0 =>
  some (decide ((len x0) = 0))
def slices_Equal_int_int_l5 (N : Nat) (k0 : Unit → Option (Bool)) (k1 : Bool → Option (Bool)) : Nat → (List Int) → (List Int) → Int → Int → Option (Bool)
  | 0, _, _, _, _ => none
  | n + 1, s10, s21, t12, t13 =>
    pIf (decide (t13 < t12))
      (pIdx s10 t13 fun x0 =>
      pIdx s21 t13 fun x1 =>
      pIf (!decide (x0 = x1))
        (k1 false)
        (slices_Equal_int_int_l5 N k0 k1 n s10 s21 t12 (wr .i64 (t13 + 1))))
      (k0 ())
def slices_Equal_int_int (N : Nat) (s10 : List Int) (s21 : List Int) : Option (Bool) :=
  pIf (!decide ((len s10) = (len s21)))
    (some false)
    (slices_Equal_int_int_l5 N
      (fun x0 => some true)
      (fun x0 => some x0) N s10 s21 (len s10) 0)
def bits_Same (N : Nat) (a0 : List Int) (b1 : List Int) : Option (Bool) :=
  pCall (slices_Equal_int_int N a0 b1) fun x0 =>
  some x0
def avermentlaw03_BitsSets_l7 (N : Nat) (k0 : Int × (List Int) × (List Int) × (List Int) × (List Int) × Bool × Int × Int → Option (Bool)) (k1 : Bool → Option (Bool)) : Nat → Int → (List Int) → (List Int) → (List Int) → (List Int) → Bool → Int → Int → Int → Option (Bool)
  | 0, _, _, _, _, _, _, _, _, _ => none
  | n + 1, z2, a7, b8, u9, m10, within11, i12, j13, kv14 =>
    pIf (decide (kv14 < 60))
      (pCall (avermentref03_Has N a7 kv14) fun x0 =>
      pCall (avermentref03_Has N b8 kv14) fun x1 =>
      pLet (pick (!x0) true x1) fun x2 =>
      pLet (pick within11 x2 false) fun x3 =>
      pLet (pick x0 true x1) fun x4 =>
      pJoin (fun (x5 : Int × (List Int) × (List Int) × (List Int) × (List Int) × Bool × Int × Int × Int × Bool × Bool) =>
        pLet (pick x5.2.2.2.2.2.2.2.2.2.1 (!x5.2.2.2.2.2.2.2.2.2.2) false) fun x6 =>
        pJoin (fun (x7 : Int × (List Int) × (List Int) × (List Int) × (List Int) × Bool × Int × Int × Int × Bool × Bool) =>
          pCall (bits_Has N x7.2.1 x7.2.2.2.2.2.2.2.2.1) fun x8 =>
          pCallG (!(!((x8 == x7.2.2.2.2.2.2.2.2.2.1)))) false (bits_Has N x7.2.2.1 x7.2.2.2.2.2.2.2.2.1) fun x9 =>
          pLet (pick (!((x8 == x7.2.2.2.2.2.2.2.2.2.1))) true (!((x9 == x7.2.2.2.2.2.2.2.2.2.2)))) fun x10 =>
          pIf x10
            (k1 false)
            (avermentlaw03_BitsSets_l7 N k0 k1 n x7.1 x7.2.1 x7.2.2.1 x7.2.2.2.1 x7.2.2.2.2.1 x7.2.2.2.2.2.1 x7.2.2.2.2.2.2.1 x7.2.2.2.2.2.2.2.1 (wr .i64 (x7.2.2.2.2.2.2.2.2.1 + 1)))) fun J7 =>
        pIf x6
          (pIdxG (!(decide ((len x5.2.2.2.2.1) ≤ x5.2.2.2.2.2.2.2.1))) 0 x5.2.2.2.2.1 x5.2.2.2.2.2.2.2.1 fun x8 =>
          pLet (pick (decide ((len x5.2.2.2.2.1) ≤ x5.2.2.2.2.2.2.2.1)) true (!decide (x8 = x5.2.2.2.2.2.2.2.2.1))) fun x9 =>
          pIf x9
            (k1 false)
            (J7 (x5.1, x5.2.1, x5.2.2.1, x5.2.2.2.1, x5.2.2.2.2.1, x5.2.2.2.2.2.1, x5.2.2.2.2.2.2.1, (wr .i64 (x5.2.2.2.2.2.2.2.1 + 1)), x5.2.2.2.2.2.2.2.2.1, x5.2.2.2.2.2.2.2.2.2.1, x5.2.2.2.2.2.2.2.2.2.2)))
          (J7 (x5.1, x5.2.1, x5.2.2.1, x5.2.2.2.1, x5.2.2.2.2.1, x5.2.2.2.2.2.1, x5.2.2.2.2.2.2.1, x5.2.2.2.2.2.2.2.1, x5.2.2.2.2.2.2.2.2.1, x5.2.2.2.2.2.2.2.2.2.1, x5.2.2.2.2.2.2.2.2.2.2))) fun J5 =>
      pIf x4
        (pIdxG (!(decide ((len u9) ≤ i12))) 0 u9 i12 fun x6 =>
        pLet (pick (decide ((len u9) ≤ i12)) true (!decide (x6 = kv14))) fun x7 =>
        pIf x7
          (k1 false)
          (J5 (z2, a7, b8, u9, m10, x3, (wr .i64 (i12 + 1)), j13, kv14, x0, x1)))
        (J5 (z2, a7, b8, u9, m10, x3, i12, j13, kv14, x0, x1)))
      (k0 (z2, a7, b8, u9, m10, within11, i12, j13))
def avermentlaw03_BitsSets (N : Nat) (xv0 : List Int) (yv1 : List Int) (z2 : Int) : Option (Bool) :=
  pCall (avermentlaw03_Set N 60 xv0) fun x0 =>
  pCall (avermentlaw03_Set N 60 yv1) fun x1 =>
  pCall (bits_Union N x0 x1) fun x2 =>
  pCall (bits_Minus N x0 x1) fun x3 =>
  avermentlaw03_BitsSets_l7 N
    (fun x4 => pCall (avermentlaw03_lays N) fun x5 =>
      pLet (pick x5 (decide (x4.2.2.2.2.2.2.1 = (len x4.2.2.2.1))) false) fun x6 =>
      pLet (pick x6 (decide (x4.2.2.2.2.2.2.2 = (len x4.2.2.2.2.1))) false) fun x7 =>
      pCallG x7 false (bits_Within N x4.2.1 x4.2.2.1) fun x8 =>
      pLet (pick x7 ((x8 == x4.2.2.2.2.2.1)) false) fun x9 =>
      pCallG x9 false (bits_Same N x4.2.1 x4.2.2.1) fun x10 =>
      pCallG x9 false (avermentref01_Same N x4.2.1 x4.2.2.1) fun x11 =>
      pLet (pick x9 ((x10 == x11)) false) fun x12 =>
      pCallG x12 false (bits_Has N x4.2.1 x4.1) fun x13 =>
      pCallG x12 false (avermentref03_Has N x4.2.1 x4.1) fun x14 =>
      pLet (pick x12 ((x13 == x14)) false) fun x15 =>
      some x15)
    (fun x4 => some x4) N z2 x0 x1 x2 x3 true 0 0 0
end Go.Y
set_option maxRecDepth 100000
set_option linter.unusedVariables false
noncomputable section
namespace Go.Proofs.YtgenmananhffoaaDoor
open Go.Y Go Go.Shelf
@[reducible] def Y0 : Ty := .int .u8
@[reducible] def Y1 : Ty := .int .i64
@[reducible] def Y2 : Ty := .int .u64
@[reducible] def Y3 : Ty := .sl 5 Y0
@[reducible] def Y4 : Ty := .sl 3 Y1
@[reducible] def Y5 : Ty := .sl 31 Y3
@[reducible] def Y6 : Ty := .sl 22 Y4
@[reducible] def Y7 : Ty := .pair Y1 Y1
@[reducible] def Y8 : Ty := .st Y7
@[reducible] def Y9 : Ty := .pair Y3 Y1
@[reducible] def Y10 : Ty := .pair Y1 Y3
@[reducible] def Y11 : Ty := .pair Y1 Y4
@[reducible] def Y12 : Ty := .st Y9
@[reducible] def Y13 : Ty := .pair Y3 Y3
@[reducible] def Y14 : Ty := .pair .bool Y7
@[reducible] def Y15 : Ty := .sl 99 Y8
@[reducible] def Y16 : Ty := .pair Y6 Y1
@[reducible] def Y17 : Ty := .pair .err Y9
@[reducible] def Y18 : Ty := .pair Y1 Y7
@[reducible] def Y19 : Ty := .pair Y1 Y9
@[reducible] def Y20 : Ty := .pair Y1 Y10
@[reducible] def Y21 : Ty := .pair Y1 Y13
@[reducible] def Y22 : Ty := .pair Y3 Y11
@[reducible] def Y23 : Ty := .pair Y4 Y11
@[reducible] def Y24 : Ty := .pair Y4 Y14
@[reducible] def Y25 : Ty := .pair Y1 Y19
@[reducible] def Y26 : Ty := .pair Y1 Y20
@[reducible] def Y27 : Ty := .pair Y4 Y17
@[reducible] def Y28 : Ty := .pair Y4 Y18
@[reducible] def Y29 : Ty := .pair Y2 Y22
@[reducible] def Y30 : Ty := .pair Y1 Y23
@[reducible] def Y31 : Ty := .pair Y4 Y21
@[reducible] def Y32 : Ty := .pair Y2 Y25
@[reducible] def Y33 : Ty := .pair Y1 Y26
@[reducible] def Y34 : Ty := .pair Y4 Y24
@[reducible] def Y35 : Ty := .pair Y2 Y29
@[reducible] def Y36 : Ty := .pair Y4 Y31
@[reducible] def Y37 : Ty := .pair Y1 Y35
@[reducible] def Y38 : Ty := .pair Y4 Y33
@[reducible] def Y39 : Ty := .pair Y4 Y34
@[reducible] def Y40 : Ty := .pair Y1 Y37
@[reducible] def Y41 : Ty := .pair Y4 Y39
@[reducible] def Y42 : Ty := .pair Y1 Y41
@[reducible] def R0 : Root Ty := rs [(oc 1 Y4)]
@[reducible] def R1 : Root Ty := rs [(oc 1 Y3)]
@[reducible] def R2 : Root Ty := rv 56 [(oc 1 Y3)]
@[reducible] def R3 : Root Ty := rv 67 [(oc 0 Y3), (oc 0 Y1)]
theorem mix : Tryd.prog.follows .mixedOrders = true := by kernel_rfl
noncomputable def TT : List (Nat × TI) := [(3, ⟨Y1, 1, false, 8, 0, [], true, true⟩), (4, ⟨.bool, 1, false, 1, 0, [], true, true⟩), (5, ⟨Y0, 1, false, 1, 0, [], true, true⟩), (9, ⟨.str, 1, false, 16, 0, [], true, true⟩), (22, ⟨Y4, 1, false, 24, 3, [], false, true⟩), (23, ⟨Y2, 1, false, 8, 0, [], true, true⟩), (26, ⟨(.ptr 56 (.st Y3)), 1, false, 8, 56, [], false, true⟩), (29, ⟨.err, 1, false, 16, 0, [], false, true⟩), (31, ⟨Y3, 1, false, 24, 5, [], false, true⟩), (37, ⟨Y5, 1, false, 24, 31, [], false, true⟩), (40, ⟨(.ptr 67 Y12), 1, false, 8, 67, [], false, true⟩), (44, ⟨Y1, 1, false, 8, 1, [], true, true⟩), (56, ⟨(.st Y3), 1, true, 24, 0, [(0, 31)], false, true⟩), (67, ⟨Y12, 2, true, 32, 0, [(0, 31), (1, 3)], false, true⟩), (69, ⟨Y8, 2, true, 16, 3, [], false, true⟩), (87, ⟨Y6, 1, false, 24, 22, [], false, true⟩), (91, ⟨Y2, 1, false, 8, 0, [], true, true⟩), (96, ⟨Y15, 1, false, 24, 99, [], false, true⟩), (99, ⟨Y8, 2, true, 16, 0, [(0, 3), (1, 3)], true, true⟩)]
theorem tt_ok : ∀ tb : Tabs, tb.tt = TT → TabOk Tryd.prog ids tb := TabOk.tt (by kernel_rfl)
noncomputable def q7 : FD Tryd.prog ids := ⟨7, Tryd.f7, [], [], TT, [40], ⟨[], [], [(4, ⟨⟨[6, 5, 0, 1], [5], [], []⟩, ⟨[(0, (.lf Y1)), (1, (.lf Y4)), (5, (ar 1005 0)), (6, (.lf Y1))], [], [(1005, R0)]⟩, [(0, ⟨(jl [5]), ⟨[(5, (ar 1005 0))], [], [(1005, R0)]⟩⟩)]⟩), (7, ⟨(jl [0, 1, 6, 5, 7]), ⟨[(0, (.lf Y1)), (1, (.lf Y4)), (5, (ar 1005 0)), (6, (.lf Y1)), (7, (.lf Y1))], [], [(1005, R0)]⟩, [(2, ⟨(jl [5, 0, 1, 6]), ⟨[(0, (.lf Y1)), (1, (.lf Y4)), (5, (ar 1005 0)), (6, (.lf Y1))], [], [(1005, R0)]⟩⟩)]⟩)], (lfS [Y4]), none⟩, (lfState [Y1, Y4]), [], j0, [Y1, Y4], Y4, fun N x => avermentlaw03_Set N x.1 x.2, [⟨7, [Y1, Y4, Y1, Y1, Y4], [Y30], fun N n x ks => avermentlaw03_Set_l7 N (fun y => kget ks 0 ⟨Y30, y⟩) n x.1 x.2.1 x.2.2.1 x.2.2.2.1 x.2.2.2.2⟩, ⟨4, [Y1, Y4, Y1, Y4], [Y4], fun N n x ks => avermentlaw03_Set_l4 N (fun y => kget ks 0 ⟨Y4, y⟩) n x.1 x.2.1 x.2.2.1 x.2.2.2⟩]⟩
noncomputable def b7 : BF Tryd.prog ids := q7.bf mix Tryd.func7 tt_ok (fun N => by kernel_rfl) (fun N x => by kernel_rfl) fun N => .cons ⟨by kernel_rfl, fun _ _ => by kernel_rfl, fun _ _ _ => by kernel_rfl⟩ (.cons ⟨by kernel_rfl, fun _ _ => by kernel_rfl, fun _ _ _ => by kernel_rfl⟩ .nil)
noncomputable def q21 : FD Tryd.prog ids := ⟨21, Tryd.f21, [], [], TT, [], ⟨[], [], [(6, ⟨(jl [16, 0, 5, 14, 15]), ⟨[(0, (.lf Y1)), (5, (.lf Y1)), (14, (.lf Y4)), (15, (.lf Y1)), (16, (.lf Y1))], [], []⟩, [(0, (lfS []))]⟩)], (lfS [.bool]), none⟩, (lfState [Y1, Y4]), [], j0, [Y1, Y4], .bool, fun N x => bits_Right N x.1 x.2, [⟨6, [Y1, Y1, Y4, Y1, Y1], [.unit, .bool], fun N n x ks => bits_Right_l6 N (fun y => kget ks 0 ⟨.unit, y⟩) (fun y => kget ks 1 ⟨.bool, y⟩) n x.1 x.2.1 x.2.2.1 x.2.2.2.1 x.2.2.2.2⟩]⟩
noncomputable def b21 : BF Tryd.prog ids := q21.bf mix Tryd.func21 tt_ok (fun N => by kernel_rfl) (fun N x => by kernel_rfl) fun N => .cons ⟨by kernel_rfl, fun _ _ => by kernel_rfl, fun _ _ _ => by kernel_rfl⟩ .nil
noncomputable def q48 : FD Tryd.prog ids := ⟨48, Tryd.f48, [], [], TT, [], ⟨[], [], [(4, ⟨(jl [16, 5, 14, 15]), ⟨[(5, (ar 1005 0)), (14, (.lf Y4)), (15, (.lf Y1)), (16, (.lf Y1))], [], [(1005, R1)]⟩, [(0, ⟨(jl [5]), ⟨[(5, (ar 1005 0))], [], [(1005, R1)]⟩⟩)]⟩)], (lfS [Y3]), none⟩, (lfState [Y1, Y4]), [], j0, [Y1, Y4], Y3, fun N x => bits_plain N x.1 x.2, [⟨4, [Y4, Y1, Y1, Y3], [Y3], fun N n x ks => bits_plain_l4 N (fun y => kget ks 0 ⟨Y3, y⟩) n x.1 x.2.1 x.2.2.1 x.2.2.2⟩]⟩
noncomputable def b48 : BF Tryd.prog ids := q48.bf mix Tryd.func48 tt_ok (fun N => by kernel_rfl) (fun N x => by kernel_rfl) fun N => .cons ⟨by kernel_rfl, fun _ _ => by kernel_rfl, fun _ _ _ => by kernel_rfl⟩ .nil
noncomputable def q9 : FD Tryd.prog ids := ⟨9, Tryd.f9, [], [], TT, [], ⟨[], [], [], ⟨(jl [0]), ⟨[(0, (pt 1000))], [], [(1000, R2)]⟩⟩, none⟩, (lfState []), [], j0, [], Y3, fun N x => wire_New N, []⟩
noncomputable def b9 : BF Tryd.prog ids := q9.bf mix Tryd.func9 tt_ok (fun N => by kernel_rfl) (fun N x => by kernel_rfl) fun N => .nil
noncomputable def q64 : FD Tryd.prog ids := ⟨64, Tryd.f64, [], [], TT, [12], ⟨[], [], [], ⟨(jl [0]), ⟨[(0, (pt 1000))], [], [(1000, R2)]⟩⟩, none⟩, ⟨[(0, (pt 1000)), (1, (.lf Y0))], [], [(1000, R2)]⟩, [0], ⟨[0, 1], [], [], [(1000, 0, 1)]⟩, [Y0, Y3], Y3, fun N x => p_wire_Writer_Byte N x.1 x.2, []⟩
noncomputable def b64 : BF Tryd.prog ids := q64.bf mix Tryd.func64 tt_ok (fun N => by kernel_rfl) (fun N x => by kernel_rfl) fun N => .nil
noncomputable def q65 : FD Tryd.prog ids := ⟨65, Tryd.f65, [b64], [], TT, [], ⟨[], [], [(1, ⟨(jl [1, 0]), ⟨[(0, (pt 1000)), (1, (.lf Y2))], [], [(1000, R2)]⟩, [(0, ⟨(jl [0, 1]), ⟨[(0, (pt 1000)), (1, (.lf Y2))], [], [(1000, R2)]⟩⟩)]⟩)], ⟨(jl [0]), ⟨[(0, (pt 1000))], [], [(1000, R2)]⟩⟩, none⟩, ⟨[(0, (pt 1000)), (1, (.lf Y2))], [], [(1000, R2)]⟩, [0], ⟨[0, 1], [], [], [(1000, 0, 1)]⟩, [Y2, Y3], Y3, fun N x => p_wire_Writer_Uint N x.1 x.2, [⟨1, [Y2, Y3], [(.pair Y2 Y3)], fun N n x ks => p_wire_Writer_Uint_l1 N (fun y => kget ks 0 ⟨(.pair Y2 Y3), y⟩) n x.1 x.2⟩]⟩
noncomputable def b65 : BF Tryd.prog ids := q65.bf mix Tryd.func65 tt_ok (fun N => by kernel_rfl) (fun N x => by kernel_rfl) fun N => .cons ⟨by kernel_rfl, fun _ _ => by kernel_rfl, fun _ _ _ => by kernel_rfl⟩ .nil
noncomputable def q33 : FD Tryd.prog ids := ⟨33, Tryd.f33, [], [], TT, [], ⟨[], [], [], ⟨⟨[0], [0], [], []⟩, ⟨[(0, (ar 1000 0))], [], [(1000, R1)]⟩⟩, none⟩, (lfState [Y3]), [], j0, [Y3], Y3, fun N x => slices_Clone_byte_byte N x, []⟩
noncomputable def b33 : BF Tryd.prog ids := q33.bf mix Tryd.func33 tt_ok (fun N => by kernel_rfl) (fun N x => by kernel_rfl) fun N => .nil
noncomputable def q11 : FD Tryd.prog ids := ⟨11, Tryd.f11, [b33], [], TT, [], ⟨[], [], [], ⟨(jl [0, 1]), ⟨[(0, (ar 1000 0)), (1, (pt 1001))], [], [(1000, R1), (1001, R2)]⟩⟩, none⟩, ⟨[(0, (pt 1000))], [], [(1000, R2)]⟩, [0], ⟨[0], [], [], [(1000, 0, 1)]⟩, [Y3], Y13, fun N x => p_wire_Writer_Bytes N x, []⟩
noncomputable def b11 : BF Tryd.prog ids := q11.bf mix Tryd.func11 tt_ok (fun N => by kernel_rfl) (fun N x => by kernel_rfl) fun N => .nil
noncomputable def q49 : FD Tryd.prog ids := ⟨49, Tryd.f49, [b9, b64, b65, b11], [], TT, [], ⟨[], [], [(7, ⟨(jl [17, 4, 3, 15, 16]), ⟨[(3, (pt 1003)), (4, (.lf Y1)), (15, (.lf Y4)), (16, (.lf Y1)), (17, (.lf Y1))], [], [(1003, R2)]⟩, [(0, ⟨(jl [3]), ⟨[(3, (pt 1003))], [], [(1003, R2)]⟩⟩)]⟩)], (lfS [Y3]), none⟩, (lfState [Y4]), [], j0, [Y4], Y3, fun N x => bits_gaps N x, [⟨7, [Y1, Y4, Y1, Y1, Y3], [Y3], fun N n x ks => bits_gaps_l7 N (fun y => kget ks 0 ⟨Y3, y⟩) n x.1 x.2.1 x.2.2.1 x.2.2.2.1 x.2.2.2.2⟩]⟩
noncomputable def b49 : BF Tryd.prog ids := q49.bf mix Tryd.func49 tt_ok (fun N => by kernel_rfl) (fun N x => by kernel_rfl) fun N => .cons ⟨by kernel_rfl, fun _ _ => by kernel_rfl, fun _ _ _ => by kernel_rfl⟩ .nil
noncomputable def q66 : FD Tryd.prog ids := ⟨66, Tryd.f66, [], [], TT, [44], ⟨[], [(1, ⟨(jl [3, 7, 8, 9]), ⟨[(3, (ar 1003 0)), (7, (.lf Y4)), (8, (.lf Y1)), (9, (.lf Y1))], [], [(1003, (rs [(oc 1 Y15)]))]⟩⟩)], [(4, ⟨⟨[9, 3, 7, 8], [3], [], []⟩, ⟨[(3, (ar 1003 0)), (7, (.lf Y4)), (8, (.lf Y1)), (9, (.lf Y1))], [], [(1003, (rs [(oc 1 Y15)]))]⟩, [(0, ⟨(jl [3]), ⟨[(3, (ar 1003 0))], [], [(1003, (rs [(oc 1 Y15)]))]⟩⟩)]⟩)], (lfS [Y15]), none⟩, (lfState [Y4]), [], j0, [Y4], Y15, fun N x => bits_split N x, [⟨4, [Y4, Y1, Y1, Y15], [Y15], fun N n x ks => bits_split_l4 N (fun y => kget ks 0 ⟨Y15, y⟩) n x.1 x.2.1 x.2.2.1 x.2.2.2⟩]⟩
noncomputable def b66 : BF Tryd.prog ids := q66.bf mix Tryd.func66 tt_ok (fun N => by kernel_rfl) (fun N x => by kernel_rfl) fun N => .cons ⟨by kernel_rfl, fun _ _ => by kernel_rfl, fun _ _ _ => by kernel_rfl⟩ .nil
noncomputable def q50 : FD Tryd.prog ids := ⟨50, Tryd.f50, [b9, b64, b65, b11, b66], [], TT, [], ⟨[], [], [(8, ⟨(jl [20, 4, 5, 18, 19]), ⟨[(4, (pt 1004)), (5, (.lf Y1)), (18, (.lf Y15)), (19, (.lf Y1)), (20, (.lf Y1))], [], [(1004, R2)]⟩, [(0, ⟨(jl [4]), ⟨[(4, (pt 1004))], [], [(1004, R2)]⟩⟩)]⟩)], (lfS [Y3]), none⟩, (lfState [Y4]), [], j0, [Y4], Y3, fun N x => bits_runs N x, [⟨8, [Y1, Y15, Y1, Y1, Y3], [Y3], fun N n x ks => bits_runs_l8 N (fun y => kget ks 0 ⟨Y3, y⟩) n x.1 x.2.1 x.2.2.1 x.2.2.2.1 x.2.2.2.2⟩]⟩
noncomputable def b50 : BF Tryd.prog ids := q50.bf mix Tryd.func50 tt_ok (fun N => by kernel_rfl) (fun N x => by kernel_rfl) fun N => .cons ⟨by kernel_rfl, fun _ _ => by kernel_rfl, fun _ _ _ => by kernel_rfl⟩ .nil
noncomputable def q31 : FD Tryd.prog ids := ⟨31, Tryd.f31, [b48, b49, b50], [], TT, [], (hl [Y3]), (lfState [Y1, Y4, Y1]), [], j0, [Y1, Y4, Y1], Y3, fun N x => bits_laid N x.1 x.2.1 x.2.2, []⟩
noncomputable def b31 : BF Tryd.prog ids := q31.bf mix Tryd.func31 tt_ok (fun N => by kernel_rfl) (fun N x => by kernel_rfl) fun N => .nil
noncomputable def q8 : FD Tryd.prog ids := ⟨8, Tryd.f8, [b21, b31], [], TT, [], (hl [Y1]), (lfState [Y1, Y4, Y1]), [], j0, [Y1, Y4, Y1], Y1, fun N x => bits_Size N x.1 x.2.1 x.2.2, []⟩
noncomputable def b8 : BF Tryd.prog ids := q8.bf mix Tryd.func8 tt_ok (fun N => by kernel_rfl) (fun N x => by kernel_rfl) fun N => .nil
noncomputable def q22 : FD Tryd.prog ids := ⟨22, Tryd.f22, [b21, b31], [], TT, [], ⟨[(26, ⟨(jl [5, 1, 0, 12, 13]), ⟨[(0, (.lf Y1)), (1, (.lf Y4)), (5, (.lf Y1)), (12, (.lf Y8)), (13, (.lf Y1))], [], []⟩⟩)], [], [(6, ⟨(jl [13, 5, 1, 0, 12]), ⟨[(0, (.lf Y1)), (1, (.lf Y4)), (5, (.lf Y1)), (12, (.lf Y8)), (13, (.lf Y1))], [], []⟩, [(0, ⟨(jl [5]), ⟨[(5, (.lf Y1))], [], []⟩⟩)]⟩)], (lfS [Y1]), none⟩, (lfState [Y1, Y4]), [], j0, [Y1, Y4], Y1, fun N x => bits_Way N x.1 x.2, [⟨6, [Y1, Y4, Y1, Y8, Y1], [Y1], fun N n x ks => bits_Way_l6 N (fun y => kget ks 0 ⟨Y1, y⟩) n x.1 x.2.1 x.2.2.1 x.2.2.2.1 x.2.2.2.2⟩]⟩
noncomputable def b22 : BF Tryd.prog ids := q22.bf mix Tryd.func22 tt_ok (fun N => by kernel_rfl) (fun N x => by kernel_rfl) fun N => .cons ⟨by kernel_rfl, fun _ _ => by kernel_rfl, fun _ _ _ => by kernel_rfl⟩ .nil
noncomputable def q32 : FD Tryd.prog ids := ⟨32, Tryd.f32, [], [], TT, [], ⟨[], [], [], ⟨(jl [0]), ⟨[(0, (pt 1000))], [], [(1000, R2)]⟩⟩, none⟩, ⟨[(0, (pt 1000)), (1, (.lf Y3))], [], [(1000, R2)]⟩, [0], ⟨[0, 1], [], [], [(1000, 0, 1)]⟩, [Y3, Y3], Y3, fun N x => p_wire_Writer_Raw N x.1 x.2, []⟩
noncomputable def b32 : BF Tryd.prog ids := q32.bf mix Tryd.func32 tt_ok (fun N => by kernel_rfl) (fun N x => by kernel_rfl) fun N => .nil
noncomputable def q10 : FD Tryd.prog ids := ⟨10, Tryd.f10, [b21, b31, b22, b32], [], TT, [], ⟨[], [], [], ⟨(jl [0, 1]), ⟨[(0, (.lf .err)), (1, (pt 1001))], [], [(1001, R2)]⟩⟩, none⟩, ⟨[(0, (pt 1000)), (1, (.lf Y1)), (2, (.lf Y4))], [], [(1000, R2)]⟩, [0], ⟨[0, 1, 2], [], [], [(1000, 0, 1)]⟩, [Y1, Y4, Y3], (.pair .err Y3), fun N x => bits_Write N x.1 x.2.1 x.2.2, []⟩
noncomputable def b10 : BF Tryd.prog ids := q10.bf mix Tryd.func10 tt_ok (fun N => by kernel_rfl) (fun N x => by kernel_rfl) fun N => .nil
noncomputable def q17 : FD Tryd.prog ids := ⟨17, Tryd.f17, [b33], [], TT, [], ⟨[], [], [], ⟨(jl [0]), ⟨[(0, (pt 1000))], [], [(1000, (rv 67 [(oc 1 Y3), (oc 0 Y1)]))]⟩⟩, none⟩, (lfState [Y3]), [], j0, [Y3], Y9, fun N x => wire_Read N x, []⟩
noncomputable def b17 : BF Tryd.prog ids := q17.bf mix Tryd.func17 tt_ok (fun N => by kernel_rfl) (fun N x => by kernel_rfl) fun N => .nil
noncomputable def q35 : FD Tryd.prog ids := ⟨35, Tryd.f35, [], [], TT, [], ⟨[], [], [], ⟨(jl [0, 1]), ⟨[(0, (.lf Y1)), (1, (pt 1001))], [], [(1001, R3)]⟩⟩, none⟩, ⟨[(0, (pt 1000))], [], [(1000, R3)]⟩, [0], ⟨[0], [], [], [(1000, 0, 0), (1000, 1, 0)]⟩, [Y3, Y1], Y19, fun N x => p_wire_Reader_At N x.1 x.2, []⟩
noncomputable def b35 : BF Tryd.prog ids := q35.bf mix Tryd.func35 tt_ok (fun N => by kernel_rfl) (fun N x => by kernel_rfl) fun N => .nil
noncomputable def q37 : FD Tryd.prog ids := ⟨37, Tryd.f37, [], [], TT, [], ⟨[], [], [], ⟨(jl [0, 1]), ⟨[(0, (pt 1000)), (1, (pt 1001))], [], [(1000, R3), (1001, R3)]⟩⟩, none⟩, ⟨[(0, (pt 1000))], [], [(1000, R3)]⟩, [0], ⟨[0], [], [], [(1000, 0, 0), (1000, 1, 0)]⟩, [Y3, Y1], (.pair Y3 Y19), fun N x => p_wire_Reader_Copy N x.1 x.2, []⟩
noncomputable def b37 : BF Tryd.prog ids := q37.bf mix Tryd.func37 tt_ok (fun N => by kernel_rfl) (fun N x => by kernel_rfl) fun N => .nil
noncomputable def q56 : FD Tryd.prog ids := ⟨56, Tryd.f56, [b35, b36], [], TT, [9], ⟨[], [], [], ⟨(jl [0, 1]), ⟨[(0, (.lf .err)), (1, (pt 1001))], [], [(1001, R3)]⟩⟩, none⟩, ⟨[(0, (pt 1000)), (1, (.lf Y1))], [], [(1000, R3)]⟩, [0], ⟨[0, 1], [], [], [(1000, 0, 0), (1000, 1, 0)]⟩, [Y1, Y3, Y1], Y17, fun N x => p_wire_Reader_wrong N x.1 x.2.1 x.2.2, []⟩
noncomputable def b56 : BF Tryd.prog ids := q56.bf mix Tryd.func56 tt_ok (fun N => by kernel_rfl) (fun N x => by kernel_rfl) fun N => .nil
noncomputable def q51 : FD Tryd.prog ids := ⟨51, Tryd.f51, [b56], [], TT, [], ⟨[], [], [], ⟨(jl [0, 1, 2]), ⟨[(0, (.lf Y0)), (1, (.lf .err)), (2, (pt 1002))], [], [(1002, R3)]⟩⟩, none⟩, ⟨[(0, (pt 1000))], [], [(1000, R3)]⟩, [0], ⟨[0], [], [], [(1000, 0, 0), (1000, 1, 0)]⟩, [Y3, Y1], (.pair Y0 Y17), fun N x => p_wire_Reader_Byte N x.1 x.2, []⟩
noncomputable def b51 : BF Tryd.prog ids := q51.bf mix Tryd.func51 tt_ok (fun N => by kernel_rfl) (fun N x => by kernel_rfl) fun N => .nil
noncomputable def q24 : FD Tryd.prog ids := ⟨24, Tryd.f24, [], [], TT, [], ⟨[], [], [], ⟨(jl [0, 1]), ⟨[(0, (.lf Y1)), (1, (pt 1001))], [], [(1001, R3)]⟩⟩, none⟩, ⟨[(0, (pt 1000))], [], [(1000, R3)]⟩, [0], ⟨[0], [], [], [(1000, 0, 0), (1000, 1, 0)]⟩, [Y3, Y1], Y19, fun N x => p_wire_Reader_Left N x.1 x.2, []⟩
noncomputable def b24 : BF Tryd.prog ids := q24.bf mix Tryd.func24 tt_ok (fun N => by kernel_rfl) (fun N x => by kernel_rfl) fun N => .nil
noncomputable def q40 : FD Tryd.prog ids := ⟨40, Tryd.f40, [b33, b56, b24], [], TT, [], ⟨[], [], [], ⟨(jl [0, 1, 2]), ⟨[(0, (.lf Y3)), (1, (.lf .err)), (2, (pt 1002))], [], [(1002, R3)]⟩⟩, none⟩, ⟨[(0, (pt 1000)), (1, (.lf Y1))], [], [(1000, R3)]⟩, [0], ⟨[0, 1], [], [], [(1000, 0, 0), (1000, 1, 0)]⟩, [Y1, Y3, Y1], (.pair Y3 Y17), fun N x => p_wire_Reader_Raw N x.1 x.2.1 x.2.2, []⟩
noncomputable def b40 : BF Tryd.prog ids := q40.bf mix Tryd.func40 tt_ok (fun N => by kernel_rfl) (fun N x => by kernel_rfl) fun N => .nil
noncomputable def q52 : FD Tryd.prog ids := ⟨52, Tryd.f52, [b40], [], TT, [44], ⟨[], [(1, ⟨(jl [0, 8, 1, 6, 24, 25]), ⟨[(0, (pt 1000)), (1, (.lf Y1)), (6, (.lf Y3)), (8, (ar 1008 0)), (24, (.lf Y1)), (25, (.lf Y1))], [], [(1000, R3), (1008, R0)]⟩⟩)], [(7, ⟨⟨[25, 0, 8, 1, 6, 24], [8], [], []⟩, ⟨[(0, (pt 1000)), (1, (.lf Y1)), (6, (.lf Y3)), (8, (ar 1008 0)), (24, (.lf Y1)), (25, (.lf Y1))], [], [(1000, R3), (1008, R0)]⟩, [(0, ⟨(jl [0, 8]), ⟨[(0, (pt 1000)), (8, (ar 1008 0))], [], [(1000, R3), (1008, R0)]⟩⟩)]⟩)], ⟨(jl [0, 1, 2]), ⟨[(0, (.lf Y4)), (1, (.lf .err)), (2, (pt 1002))], [], [(1002, R3)]⟩⟩, none⟩, ⟨[(0, (pt 1000)), (1, (.lf Y1))], [], [(1000, R3)]⟩, [0], ⟨[0, 1], [], [], [(1000, 0, 0), (1000, 1, 0)]⟩, [Y1, Y3, Y1], Y27, fun N x => bits_fromPlain N x.1 x.2.1 x.2.2, [⟨7, [Y1, Y3, Y1, Y1, Y3, Y1, Y4], [Y22, Y27], fun N n x ks => bits_fromPlain_l7 N (fun y => kget ks 0 ⟨Y22, y⟩) (fun y => kget ks 1 ⟨Y27, y⟩) n x.1 x.2.1 x.2.2.1 x.2.2.2.1 x.2.2.2.2.1 x.2.2.2.2.2.1 x.2.2.2.2.2.2⟩]⟩
noncomputable def b52 : BF Tryd.prog ids := q52.bf mix Tryd.func52 tt_ok (fun N => by kernel_rfl) (fun N x => by kernel_rfl) fun N => .cons ⟨by kernel_rfl, fun _ _ => by kernel_rfl, fun _ _ _ => by kernel_rfl⟩ .nil
noncomputable def q84 : FD Tryd.prog ids := ⟨84, Tryd.f84, [], [], TT, [], ⟨[], [], [(4, ⟨(jl [0, 10, 1, 7]), ⟨[(0, (pt 1000)), (1, (.lf Y2)), (7, (.lf Y2)), (10, (.lf Y1))], [], [(1000, R3)]⟩, [(0, ⟨(jl [0]), ⟨[(0, (pt 1000))], [], [(1000, R3)]⟩⟩)]⟩)], ⟨(jl [0, 1, 2, 3]), ⟨[(0, (.lf Y2)), (1, (.lf Y1)), (2, (.lf Y1)), (3, (pt 1003))], [], [(1003, R3)]⟩⟩, none⟩, ⟨[(0, (pt 1000)), (1, (.lf Y2))], [], [(1000, R3)]⟩, [0], ⟨[0, 1], [], [], [(1000, 0, 0), (1000, 1, 0)]⟩, [Y2, Y3, Y1], Y32, fun N x => p_wire_Reader_look N x.1 x.2.1 x.2.2, [⟨4, [Y2, Y2, Y1, Y3, Y1], [Y9, Y32], fun N n x ks => p_wire_Reader_look_l4 N (fun y => kget ks 0 ⟨Y9, y⟩) (fun y => kget ks 1 ⟨Y32, y⟩) n x.1 x.2.1 x.2.2.1 x.2.2.2.1 x.2.2.2.2⟩]⟩
noncomputable def b84 : BF Tryd.prog ids := q84.bf mix Tryd.func84 tt_ok (fun N => by kernel_rfl) (fun N x => by kernel_rfl) fun N => .cons ⟨by kernel_rfl, fun _ _ => by kernel_rfl, fun _ _ _ => by kernel_rfl⟩ .nil
noncomputable def q67 : FD Tryd.prog ids := ⟨67, Tryd.f67, [b56, b84], [], TT, [], ⟨[], [], [], ⟨(jl [0, 1, 2]), ⟨[(0, (.lf Y2)), (1, (.lf .err)), (2, (pt 1002))], [], [(1002, R3)]⟩⟩, none⟩, ⟨[(0, (pt 1000)), (1, (.lf Y2))], [], [(1000, R3)]⟩, [0], ⟨[0, 1], [], [], [(1000, 0, 0), (1000, 1, 0)]⟩, [Y2, Y3, Y1], (.pair Y2 Y17), fun N x => p_wire_Reader_Uint N x.1 x.2.1 x.2.2, []⟩
noncomputable def b67 : BF Tryd.prog ids := q67.bf mix Tryd.func67 tt_ok (fun N => by kernel_rfl) (fun N x => by kernel_rfl) fun N => .nil
noncomputable def q68 : FD Tryd.prog ids := ⟨68, Tryd.f68, [b67], [], TT, [], ⟨[], [], [], ⟨(jl [0, 1, 2]), ⟨[(0, (.lf Y1)), (1, (.lf .err)), (2, (pt 1002))], [], [(1002, R3)]⟩⟩, none⟩, ⟨[(0, (pt 1000)), (1, (.lf Y1)), (2, (.lf Y1))], [], [(1000, R3)]⟩, [0], ⟨[0, 1, 2], [], [], [(1000, 0, 0), (1000, 1, 0)]⟩, [Y1, Y1, Y3, Y1], (.pair Y1 Y17), fun N x => bits_taken N x.1 x.2.1 x.2.2.1 x.2.2.2, []⟩
noncomputable def b68 : BF Tryd.prog ids := q68.bf mix Tryd.func68 tt_ok (fun N => by kernel_rfl) (fun N x => by kernel_rfl) fun N => .nil
noncomputable def q53 : FD Tryd.prog ids := ⟨53, Tryd.f53, [b67, b68], [], TT, [37], ⟨[], [], [(8, ⟨⟨[0, 23, 8, 1, 9, 22], [8], [], []⟩, ⟨[(0, (pt 1000)), (1, (.lf Y1)), (8, (ar 1008 0)), (9, (.lf Y1)), (22, (.lf Y2)), (23, (.lf Y2))], [], [(1000, R3), (1008, R0)]⟩, [(0, ⟨(jl [0, 8]), ⟨[(0, (pt 1000)), (8, (ar 1008 0))], [], [(1000, R3), (1008, R0)]⟩⟩)]⟩)], ⟨(jl [0, 1, 2]), ⟨[(0, (.lf Y4)), (1, (.lf .err)), (2, (pt 1002))], [], [(1002, R3)]⟩⟩, none⟩, ⟨[(0, (pt 1000)), (1, (.lf Y1))], [], [(1000, R3)]⟩, [0], ⟨[0, 1], [], [], [(1000, 0, 0), (1000, 1, 0)]⟩, [Y1, Y3, Y1], Y27, fun N x => bits_fromGaps N x.1 x.2.1 x.2.2, [⟨8, [Y1, Y1, Y2, Y2, Y3, Y1, Y4], [Y22, Y27], fun N n x ks => bits_fromGaps_l8 N (fun y => kget ks 0 ⟨Y22, y⟩) (fun y => kget ks 1 ⟨Y27, y⟩) n x.1 x.2.1 x.2.2.1 x.2.2.2.1 x.2.2.2.2.1 x.2.2.2.2.2.1 x.2.2.2.2.2.2⟩]⟩
noncomputable def b53 : BF Tryd.prog ids := q53.bf mix Tryd.func53 tt_ok (fun N => by kernel_rfl) (fun N x => by kernel_rfl) fun N => .cons ⟨by kernel_rfl, fun _ _ => by kernel_rfl, fun _ _ _ => by kernel_rfl⟩ .nil
noncomputable def q54 : FD Tryd.prog ids := ⟨54, Tryd.f54, [b67, b68], [], TT, [55], ⟨[], [], [(8, ⟨⟨[0, 8, 25, 1, 9, 24], [8], [], []⟩, ⟨[(0, (pt 1000)), (1, (.lf Y1)), (8, (ar 1008 0)), (9, (.lf Y1)), (24, (.lf Y2)), (25, (.lf Y2))], [], [(1000, R3), (1008, R0)]⟩, [(0, ⟨(jl [0, 8]), ⟨[(0, (pt 1000)), (8, (ar 1008 0))], [], [(1000, R3), (1008, R0)]⟩⟩)]⟩), (16, ⟨(jl [13, 8, 0, 1, 24, 25, 12]), ⟨[(0, (pt 1000)), (1, (.lf Y1)), (8, (ar 1008 0)), (12, (.lf Y1)), (13, (.lf Y1)), (24, (.lf Y2)), (25, (.lf Y2))], [], [(1000, R3), (1008, R0)]⟩, [(2, ⟨(jl [0, 8, 1, 24, 25, 12]), ⟨[(0, (pt 1000)), (1, (.lf Y1)), (8, (ar 1008 0)), (12, (.lf Y1)), (24, (.lf Y2)), (25, (.lf Y2))], [], [(1000, R3), (1008, R0)]⟩⟩)]⟩)], ⟨(jl [0, 1, 2]), ⟨[(0, (.lf Y4)), (1, (.lf .err)), (2, (pt 1002))], [], [(1002, R3)]⟩⟩, none⟩, ⟨[(0, (pt 1000)), (1, (.lf Y1))], [], [(1000, R3)]⟩, [0], ⟨[0, 1], [], [], [(1000, 0, 0), (1000, 1, 0)]⟩, [Y1, Y3, Y1], Y27, fun N x => bits_fromRuns N x.1 x.2.1 x.2.2, [⟨16, [Y1, Y1, Y1, Y2, Y2, Y3, Y1, Y4], [Y40], fun N n x ks => bits_fromRuns_l16 N (fun y => kget ks 0 ⟨Y40, y⟩) n x.1 x.2.1 x.2.2.1 x.2.2.2.1 x.2.2.2.2.1 x.2.2.2.2.2.1 x.2.2.2.2.2.2.1 x.2.2.2.2.2.2.2⟩, ⟨8, [Y1, Y1, Y2, Y2, Y3, Y1, Y4], [Y22, Y27], fun N n x ks => bits_fromRuns_l8 N (fun y => kget ks 0 ⟨Y22, y⟩) (fun y => kget ks 1 ⟨Y27, y⟩) n x.1 x.2.1 x.2.2.1 x.2.2.2.1 x.2.2.2.2.1 x.2.2.2.2.2.1 x.2.2.2.2.2.2⟩]⟩
noncomputable def b54 : BF Tryd.prog ids := q54.bf mix Tryd.func54 tt_ok (fun N => by kernel_rfl) (fun N x => by kernel_rfl) fun N => .cons ⟨by kernel_rfl, fun _ _ => by kernel_rfl, fun _ _ _ => by kernel_rfl⟩ (.cons ⟨by kernel_rfl, fun _ _ => by kernel_rfl, fun _ _ _ => by kernel_rfl⟩ .nil)
noncomputable def q38 : FD Tryd.prog ids := ⟨38, Tryd.f38, [b51, b52, b53, b54], [], TT, [], ⟨[], [], [], ⟨(jl [0, 1, 2]), ⟨[(0, (.lf Y4)), (1, (.lf .err)), (2, (pt 1002))], [], [(1002, R3)]⟩⟩, none⟩, ⟨[(0, (pt 1000)), (1, (.lf Y1))], [], [(1000, R3)]⟩, [0], ⟨[0, 1], [], [], [(1000, 0, 0), (1000, 1, 0)]⟩, [Y1, Y3, Y1], Y27, fun N x => bits_body N x.1 x.2.1 x.2.2, []⟩
noncomputable def b38 : BF Tryd.prog ids := q38.bf mix Tryd.func38 tt_ok (fun N => by kernel_rfl) (fun N x => by kernel_rfl) fun N => .nil
noncomputable def q41 : FD Tryd.prog ids := ⟨41, Tryd.f41, [], [], TT, [], (hl [.bool]), (lfState [Y3, Y3]), [], j0, [Y3, Y3], .bool, fun N x => bytes_Equal N x.1 x.2, []⟩
noncomputable def b41 : BF Tryd.prog ids := q41.bf mix Tryd.func41 tt_ok (fun N => by kernel_rfl) (fun N x => by kernel_rfl) fun N => .nil
noncomputable def q16 : FD Tryd.prog ids := ⟨16, Tryd.f16, [b31, b22, b35, b36, b37, b40, b38, b39, b41], [], TT, [26, 42, 70], ⟨[], [], [], ⟨(jl [0, 1, 2]), ⟨[(0, (.lf Y4)), (1, (.lf .err)), (2, (pt 1002))], [], [(1002, R3)]⟩⟩, none⟩, ⟨[(0, (pt 1000)), (1, (.lf Y1))], [], [(1000, R3)]⟩, [0], ⟨[0, 1], [], [], [(1000, 0, 0), (1000, 1, 0)]⟩, [Y1, Y3, Y1], Y27, fun N x => bits_Read N x.1 x.2.1 x.2.2, []⟩
noncomputable def b16 : BF Tryd.prog ids := q16.bf mix Tryd.func16 tt_ok (fun N => by kernel_rfl) (fun N x => by kernel_rfl) fun N => .nil
noncomputable def q18 : FD Tryd.prog ids := ⟨18, Tryd.f18, [], [], TT, [], ⟨[], [], [(5, ⟨(jl [5, 1, 0]), ⟨[(0, (.lf Y4)), (1, (.lf Y4)), (5, (.lf Y1))], [], []⟩, [(0, (lfS []))]⟩)], (lfS [.bool]), none⟩, (lfState [Y4, Y4]), [], j0, [Y4, Y4], .bool, fun N x => avermentref01_Same N x.1 x.2, [⟨5, [Y4, Y4, Y1], [.unit, .bool], fun N n x ks => avermentref01_Same_l5 N (fun y => kget ks 0 ⟨.unit, y⟩) (fun y => kget ks 1 ⟨.bool, y⟩) n x.1 x.2.1 x.2.2⟩]⟩
noncomputable def b18 : BF Tryd.prog ids := q18.bf mix Tryd.func18 tt_ok (fun N => by kernel_rfl) (fun N x => by kernel_rfl) fun N => .cons ⟨by kernel_rfl, fun _ _ => by kernel_rfl, fun _ _ _ => by kernel_rfl⟩ .nil
noncomputable def q12 : FD Tryd.prog ids := ⟨12, Tryd.f12, [b9, b11, b22, b10, b17, b16, b18], [], TT, [7, 30], (hl [.bool]), (lfState []), [], j0, [], .bool, fun N x => avermentlaw03_lays N, []⟩
noncomputable def b12 : BF Tryd.prog ids := q12.bf mix Tryd.func12 tt_ok (fun N => by kernel_rfl) (fun N x => by kernel_rfl) fun N => .nil
noncomputable def q13 : FD Tryd.prog ids := ⟨13, Tryd.f13, [], [], TT, [], ⟨[], [], [(4, ⟨(jl [6, 1, 5]), ⟨[(1, (.lf Y4)), (5, (ar 1005 0)), (6, (.lf Y1))], [], [(1005, R1)]⟩, [(0, ⟨(jl [5]), ⟨[(5, (ar 1005 0))], [], [(1005, R1)]⟩⟩)]⟩)], (lfS [Y3]), none⟩, (lfState [Y1, Y4]), [], j0, [Y1, Y4], Y3, fun N x => avermentref03_Plain N x.1 x.2, [⟨4, [Y4, Y1, Y3], [Y3], fun N n x ks => avermentref03_Plain_l4 N (fun y => kget ks 0 ⟨Y3, y⟩) n x.1 x.2.1 x.2.2⟩]⟩
noncomputable def b13 : BF Tryd.prog ids := q13.bf mix Tryd.func13 tt_ok (fun N => by kernel_rfl) (fun N x => by kernel_rfl) fun N => .cons ⟨by kernel_rfl, fun _ _ => by kernel_rfl, fun _ _ _ => by kernel_rfl⟩ .nil
noncomputable def q34 (self : Nat → Int → Option (List Int)) (c : BF Tryd.prog ids) : FD Tryd.prog ids := ⟨34, Tryd.f34, [c], [], TT, [], ⟨[], [], [], ⟨(jl [0]), ⟨[(0, (ar 1000 0))], [], [(1000, R1)]⟩⟩, none⟩, (lfState [Y2]), [], j0, [Y2], Y3, fun N x => avermentref02_Uint_f self N x, []⟩
noncomputable def b34 : BF Tryd.prog ids := recBF 34 ⟨(lfState [Y2]), ⟨[(0, (ar 1000 0))], [], [(1000, R1)]⟩, false, [], j0, none⟩ (tupTy [Y2]) Y3 avermentref02_Uint_f ⟨_, Tryd.func34, by kernel_rfl, by kernel_rfl⟩ (by kernel_rfl) fun self ok => ((q34 self ⟨34, ⟨(lfState [Y2]), ⟨[(0, (ar 1000 0))], [], [(1000, R1)]⟩, false, [], j0, none⟩, tupTy [Y2], Y3, self, ok⟩).bf mix Tryd.func34 tt_ok (fun N => by kernel_rfl) (fun N x => by kernel_rfl) fun N => .nil).ok
noncomputable def q14 : FD Tryd.prog ids := ⟨14, Tryd.f14, [b34], [], TT, [], ⟨[(23, ⟨(jl [0, 4, 5, 3]), ⟨[(0, (.lf Y4)), (3, (ar 1003 0)), (4, (.lf Y1)), (5, (.lf Y1))], [], [(1003, R1)]⟩⟩)], [], [(4, ⟨(jl [4, 3, 0]), ⟨[(0, (.lf Y4)), (3, (ar 1003 0)), (4, (.lf Y1))], [], [(1003, R1)]⟩, [(0, ⟨(jl [3]), ⟨[(3, (ar 1003 0))], [], [(1003, R1)]⟩⟩)]⟩)], (lfS [Y3]), none⟩, (lfState [Y4]), [], j0, [Y4], Y3, fun N x => avermentref03_Gaps N x, [⟨4, [Y4, Y1, Y3], [Y3], fun N n x ks => avermentref03_Gaps_l4 N (fun y => kget ks 0 ⟨Y3, y⟩) n x.1 x.2.1 x.2.2⟩]⟩
noncomputable def b14 : BF Tryd.prog ids := q14.bf mix Tryd.func14 tt_ok (fun N => by kernel_rfl) (fun N x => by kernel_rfl) fun N => .cons ⟨by kernel_rfl, fun _ _ => by kernel_rfl, fun _ _ _ => by kernel_rfl⟩ .nil
noncomputable def q15 : FD Tryd.prog ids := ⟨15, Tryd.f15, [b34], [], TT, [], ⟨[(39, ⟨(jl [0, 7, 4, 6, 8, 3]), ⟨[(0, (.lf Y4)), (3, (ar 1003 0)), (4, (.lf Y1)), (6, (.lf Y1)), (7, (.lf Y1)), (8, (.lf Y1))], [], [(1003, R1)]⟩⟩)], [], [(5, ⟨⟨[4, 0, 6, 3, 5], [3], [], []⟩, ⟨[(0, (.lf Y4)), (3, (ar 1003 0)), (4, (.lf Y1)), (5, (.lf Y1)), (6, (.lf Y1))], [], [(1003, R1)]⟩, [(0, ⟨(jl [3, 4]), ⟨[(3, (ar 1003 0)), (4, (.lf Y1))], [], [(1003, R1)]⟩⟩)]⟩), (7, ⟨(jl [7, 0, 4, 6, 3, 5]), ⟨[(0, (.lf Y4)), (3, (ar 1003 0)), (4, (.lf Y1)), (5, (.lf Y1)), (6, (.lf Y1)), (7, (.lf Y1))], [], [(1003, R1)]⟩, [(2, ⟨(jl [0, 7, 4, 6, 3, 5]), ⟨[(0, (.lf Y4)), (3, (ar 1003 0)), (4, (.lf Y1)), (5, (.lf Y1)), (6, (.lf Y1)), (7, (.lf Y1))], [], [(1003, R1)]⟩⟩)]⟩)], (lfS [Y3]), none⟩, (lfState [Y4]), [], j0, [Y4], Y3, fun N x => avermentref03_Runs N x, [⟨7, [Y4, Y1, Y1, Y1, Y1, Y3], [Y38], fun N n x ks => avermentref03_Runs_l7 N (fun y => kget ks 0 ⟨Y38, y⟩) n x.1 x.2.1 x.2.2.1 x.2.2.2.1 x.2.2.2.2.1 x.2.2.2.2.2⟩, ⟨5, [Y4, Y1, Y1, Y1, Y3], [Y10], fun N n x ks => avermentref03_Runs_l5 N (fun y => kget ks 0 ⟨Y10, y⟩) n x.1 x.2.1 x.2.2.1 x.2.2.2.1 x.2.2.2.2⟩]⟩
noncomputable def b15 : BF Tryd.prog ids := q15.bf mix Tryd.func15 tt_ok (fun N => by kernel_rfl) (fun N x => by kernel_rfl) fun N => .cons ⟨by kernel_rfl, fun _ _ => by kernel_rfl, fun _ _ _ => by kernel_rfl⟩ (.cons ⟨by kernel_rfl, fun _ _ => by kernel_rfl, fun _ _ _ => by kernel_rfl⟩ .nil)
noncomputable def q3 : FD Tryd.prog ids := ⟨3, Tryd.f3, [b7, b9, b11, b8, b10, b12, b13, b14, b15], [], TT, [], (hl [.bool]), (lfState [Y1, Y4, Y1]), [], j0, [Y1, Y4, Y1], .bool, fun N x => avermentlaw03_BitsSmall N x.1 x.2.1 x.2.2, []⟩
noncomputable def b3 : BF Tryd.prog ids := q3.bf mix Tryd.func3 tt_ok (fun N => by kernel_rfl) (fun N x => by kernel_rfl) fun N => .nil
noncomputable def q4 : FD Tryd.prog ids := ⟨4, Tryd.f4, [b7, b9, b11, b10, b17, b16, b18, b12, b13, b14, b15, b19], [], TT, [], ⟨[(65, ⟨(jl [13, 8, 7, 12, 9, 11, 10, 14]), ⟨[(7, (.lf Y1)), (8, (.lf Y4)), (9, (.lf Y4)), (10, (pt 1010)), (11, (pt 1011)), (12, (ar 1012 0)), (13, (.lf Y1)), (14, (.lf Y1))], [], [(1010, R2), (1011, R2), (1012, (rs [(oc 1 Y5)]))]⟩⟩)], [], [(10, ⟨(jl [14, 13, 8, 7, 12, 9, 11, 10]), ⟨[(7, (.lf Y1)), (8, (.lf Y4)), (9, (.lf Y4)), (10, (pt 1010)), (11, (pt 1011)), (12, (ar 1012 0)), (13, (.lf Y1)), (14, (.lf Y1))], [], [(1010, R2), (1011, R2), (1012, (rs [(oc 1 Y5)]))]⟩, [(0, ⟨(jl [9, 8, 11, 10, 13]), ⟨[(8, (.lf Y4)), (9, (.lf Y4)), (10, (pt 1010)), (11, (pt 1011)), (13, (.lf Y1))], [], [(1010, R2), (1011, R2)]⟩⟩)]⟩)], (lfS [.bool]), none⟩, (lfState [Y1, Y4, Y4]), [], j0, [Y1, Y4, Y4], .bool, fun N x => avermentlaw03_BitsOnce N x.1 x.2.1 x.2.2, [⟨10, [Y1, Y4, Y4, Y1, Y1, Y3, Y3, Y5], [Y36, .bool], fun N n x ks => avermentlaw03_BitsOnce_l10 N (fun y => kget ks 0 ⟨Y36, y⟩) (fun y => kget ks 1 ⟨.bool, y⟩) n x.1 x.2.1 x.2.2.1 x.2.2.2.1 x.2.2.2.2.1 x.2.2.2.2.2.1 x.2.2.2.2.2.2.1 x.2.2.2.2.2.2.2⟩]⟩
noncomputable def b4 : BF Tryd.prog ids := q4.bf mix Tryd.func4 tt_ok (fun N => by kernel_rfl) (fun N x => by kernel_rfl) fun N => .cons ⟨by kernel_rfl, fun _ _ => by kernel_rfl, fun _ _ _ => by kernel_rfl⟩ .nil
noncomputable def q20 : FD Tryd.prog ids := ⟨20, Tryd.f20, [], [], TT, [], ⟨[], [], [(5, ⟨(jl [5, 1, 0]), ⟨[(0, (.lf Y1)), (1, (.lf Y4)), (5, (.lf Y1))], [], []⟩, [(0, (lfS []))]⟩)], (lfS [.bool]), none⟩, (lfState [Y1, Y4]), [], j0, [Y1, Y4], .bool, fun N x => avermentref03_Right N x.1 x.2, [⟨5, [Y1, Y4, Y1], [.unit, .bool], fun N n x ks => avermentref03_Right_l5 N (fun y => kget ks 0 ⟨.unit, y⟩) (fun y => kget ks 1 ⟨.bool, y⟩) n x.1 x.2.1 x.2.2⟩]⟩
noncomputable def b20 : BF Tryd.prog ids := q20.bf mix Tryd.func20 tt_ok (fun N => by kernel_rfl) (fun N x => by kernel_rfl) fun N => .cons ⟨by kernel_rfl, fun _ _ => by kernel_rfl, fun _ _ _ => by kernel_rfl⟩ .nil
noncomputable def q23 : FD Tryd.prog ids := ⟨23, Tryd.f23, [b13, b14, b15], [], TT, [], (hl [Y3, Y1]), (lfState [Y1, Y4]), [], j0, [Y1, Y4], Y9, fun N x => avermentref03_Bytes N x.1 x.2, []⟩
noncomputable def b23 : BF Tryd.prog ids := q23.bf mix Tryd.func23 tt_ok (fun N => by kernel_rfl) (fun N x => by kernel_rfl) fun N => .nil
noncomputable def q5 : FD Tryd.prog ids := ⟨5, Tryd.f5, [b21, b9, b11, b8, b22, b10, b17, b24, b16, b18, b12, b19, b20, b23], [], TT, [], (hl [.bool]), (lfState [Y1, Y4]), [], j0, [Y1, Y4], .bool, fun N x => avermentlaw03_BitsLays N x.1 x.2, []⟩
noncomputable def b5 : BF Tryd.prog ids := q5.bf mix Tryd.func5 tt_ok (fun N => by kernel_rfl) (fun N x => by kernel_rfl) fun N => .nil
shelf_lay_g Lays8.n4 Nm8 4 at Tryd 59 as Tryd.lays59
noncomputable def b59 : BF Tryd.prog ids := .of 59 (growSig 3) (growCon 3) (grow_lays Tryd.lays59 rfl rfl rfl rfl rfl rfl rfl ⟨_, Tryd.func59, by kernel_rfl, by kernel_rfl⟩ (by kernel_rfl) (by kernel_rfl))
noncomputable def q43 : FD Tryd.prog ids := ⟨43, Tryd.f43, [b59], [], TT, [], ⟨[], [], [(12, ⟨(jl [27, 6, 25, 26]), ⟨[(6, (ar 1006 0)), (25, (.lf Y6)), (26, (.lf Y1)), (27, (.lf Y1))], [], [(1006, R0)]⟩, [(2, ⟨(jl [6]), ⟨[(6, (ar 1006 0))], [], [(1006, R0)]⟩⟩)]⟩), (4, ⟨(jl [11, 3, 9, 0, 10]), ⟨[(0, (.lf Y6)), (3, (.lf Y1)), (9, (.lf Y6)), (10, (.lf Y1)), (11, (.lf Y1))], [], []⟩, [(0, ⟨(jl [0, 3]), ⟨[(0, (.lf Y6)), (3, (.lf Y1))], [], []⟩⟩)]⟩)], ⟨(jl [0]), ⟨[(0, (ar 1000 0))], [], [(1000, R0)]⟩⟩, none⟩, (lfState [Y6]), [], j0, [Y6], Y4, fun N x => slices_Concat_int_int N x, [⟨4, [Y6, Y1, Y6, Y1, Y1], [Y16], fun N n x ks => slices_Concat_int_int_l4 N (fun y => kget ks 0 ⟨Y16, y⟩) n x.1 x.2.1 x.2.2.1 x.2.2.2.1 x.2.2.2.2⟩, ⟨12, [Y6, Y1, Y1, Y4], [Y4], fun N n x ks => slices_Concat_int_int_l12 N (fun y => kget ks 0 ⟨Y4, y⟩) n x.1 x.2.1 x.2.2.1 x.2.2.2⟩]⟩
noncomputable def b43 : BF Tryd.prog ids := q43.bf mix Tryd.func43 tt_ok (fun N => by kernel_rfl) (fun N x => by kernel_rfl) fun N => .cons ⟨by kernel_rfl, fun _ _ => by kernel_rfl, fun _ _ _ => by kernel_rfl⟩ (.cons ⟨by kernel_rfl, fun _ _ => by kernel_rfl, fun _ _ _ => by kernel_rfl⟩ .nil)
shelf_lay Lays.n189 Nm 189 at Tryd as Tryd.lays44
noncomputable def b44 : BF Tryd.prog ids := .of 44 (sortSig 3) (sortCon 3) (sort_lays Tryd.lays44 rfl ⟨_, Tryd.func44, by kernel_rfl, by kernel_rfl⟩ (by kernel_rfl) (by kernel_rfl))
shelf_lay Lays2.n20 Nm2 20 at Tryd as Tryd.lays45
noncomputable def b45 : BF Tryd.prog ids := .of 45 (compactSig 3) (compactCon 3) (compact_lays Tryd.lays45 rfl ⟨_, Tryd.func45, by kernel_rfl, by kernel_rfl⟩ (by kernel_rfl) (by kernel_rfl))
noncomputable def q25 : FD Tryd.prog ids := ⟨25, Tryd.f25, [b43, b44, b45], [], TT, [8], (hl [Y4]), (lfState [Y4, Y4]), [], j0, [Y4, Y4], Y4, fun N x => bits_Union N x.1 x.2, []⟩
noncomputable def b25 : BF Tryd.prog ids := q25.bf mix Tryd.func25 tt_ok (fun N => by kernel_rfl) (fun N x => by kernel_rfl) fun N => .nil
noncomputable def q83 : FD Tryd.prog ids := ⟨83, Tryd.f83, [], [], TT, [], (hl [.bool]), (lfState [Y1]), [], j0, [Y1], .bool, fun N x => cmp_isNaN_int N x, []⟩
noncomputable def b83 : BF Tryd.prog ids := q83.bf mix Tryd.func83 tt_ok (fun N => by kernel_rfl) (fun N x => by kernel_rfl) fun N => .nil
noncomputable def q62 : FD Tryd.prog ids := ⟨62, Tryd.f62, [b83], [], TT, [], (hl [.bool]), (lfState [Y1, Y1]), [], j0, [Y1, Y1], .bool, fun N x => cmp_Less_int N x.1 x.2, []⟩
noncomputable def b62 : BF Tryd.prog ids := q62.bf mix Tryd.func62 tt_ok (fun N => by kernel_rfl) (fun N x => by kernel_rfl) fun N => .nil
noncomputable def q63 : FD Tryd.prog ids := ⟨63, Tryd.f63, [], [], TT, [], (hl [.bool]), (lfState [Y1]), [], j0, [Y1], .bool, fun N x => slices_isNaN_int N x, []⟩
noncomputable def b63 : BF Tryd.prog ids := q63.bf mix Tryd.func63 tt_ok (fun N => by kernel_rfl) (fun N x => by kernel_rfl) fun N => .nil
noncomputable def q46 : FD Tryd.prog ids := ⟨46, Tryd.f46, [b62, b63], [], TT, [], ⟨[(27, ⟨(jl [1, 0, 8, 7, 6]), ⟨[(0, (.lf Y4)), (1, (.lf Y1)), (6, (.lf Y1)), (7, (.lf Y1)), (8, (.lf Y1))], [], []⟩⟩)], [], [(4, ⟨(jl [1, 0, 8, 7, 6]), ⟨[(0, (.lf Y4)), (1, (.lf Y1)), (6, (.lf Y1)), (7, (.lf Y1)), (8, (.lf Y1))], [], []⟩, [(0, ⟨(jl [1, 7, 0, 6]), ⟨[(0, (.lf Y4)), (1, (.lf Y1)), (6, (.lf Y1)), (7, (.lf Y1))], [], []⟩⟩)]⟩)], (lfS [Y1, .bool]), none⟩, (lfState [Y4, Y1]), [], j0, [Y4, Y1], (.pair Y1 .bool), fun N x => slices_BinarySearch_int_int N x.1 x.2, [⟨4, [Y4, Y1, Y1, Y1, Y1], [Y28], fun N n x ks => slices_BinarySearch_int_int_l4 N (fun y => kget ks 0 ⟨Y28, y⟩) n x.1 x.2.1 x.2.2.1 x.2.2.2.1 x.2.2.2.2⟩]⟩
noncomputable def b46 : BF Tryd.prog ids := q46.bf mix Tryd.func46 tt_ok (fun N => by kernel_rfl) (fun N x => by kernel_rfl) fun N => .cons ⟨by kernel_rfl, fun _ _ => by kernel_rfl, fun _ _ _ => by kernel_rfl⟩ .nil
noncomputable def q28 : FD Tryd.prog ids := ⟨28, Tryd.f28, [b46], [], TT, [], (hl [.bool]), (lfState [Y4, Y1]), [], j0, [Y4, Y1], .bool, fun N x => bits_Has N x.1 x.2, []⟩
noncomputable def b28 : BF Tryd.prog ids := q28.bf mix Tryd.func28 tt_ok (fun N => by kernel_rfl) (fun N x => by kernel_rfl) fun N => .nil
noncomputable def q26 : FD Tryd.prog ids := ⟨26, Tryd.f26, [b28], [], TT, [20], ⟨[(17, ⟨(jl [5, 1, 8, 9, 10]), ⟨[(1, (.lf Y4)), (5, (ar 1005 0)), (8, (.lf Y4)), (9, (.lf Y1)), (10, (.lf Y1))], [], [(1005, R0)]⟩⟩)], [], [(4, ⟨⟨[10, 5, 1, 8, 9], [5], [], []⟩, ⟨[(1, (.lf Y4)), (5, (ar 1005 0)), (8, (.lf Y4)), (9, (.lf Y1)), (10, (.lf Y1))], [], [(1005, R0)]⟩, [(0, ⟨(jl [5]), ⟨[(5, (ar 1005 0))], [], [(1005, R0)]⟩⟩)]⟩)], (lfS [Y4]), none⟩, (lfState [Y4, Y4]), [], j0, [Y4, Y4], Y4, fun N x => bits_Minus N x.1 x.2, [⟨4, [Y4, Y4, Y1, Y1, Y4], [Y4], fun N n x ks => bits_Minus_l4 N (fun y => kget ks 0 ⟨Y4, y⟩) n x.1 x.2.1 x.2.2.1 x.2.2.2.1 x.2.2.2.2⟩]⟩
noncomputable def b26 : BF Tryd.prog ids := q26.bf mix Tryd.func26 tt_ok (fun N => by kernel_rfl) (fun N x => by kernel_rfl) fun N => .cons ⟨by kernel_rfl, fun _ _ => by kernel_rfl, fun _ _ _ => by kernel_rfl⟩ .nil
noncomputable def q27 : FD Tryd.prog ids := ⟨27, Tryd.f27, [], [], TT, [], ⟨[], [], [(3, ⟨(jl [5, 1, 0]), ⟨[(0, (.lf Y4)), (1, (.lf Y1)), (5, (.lf Y1))], [], []⟩, [(0, (lfS []))]⟩)], (lfS [.bool]), none⟩, (lfState [Y4, Y1]), [], j0, [Y4, Y1], .bool, fun N x => avermentref03_Has N x.1 x.2, [⟨3, [Y4, Y1, Y1], [.unit, .bool], fun N n x ks => avermentref03_Has_l3 N (fun y => kget ks 0 ⟨.unit, y⟩) (fun y => kget ks 1 ⟨.bool, y⟩) n x.1 x.2.1 x.2.2⟩]⟩
noncomputable def b27 : BF Tryd.prog ids := q27.bf mix Tryd.func27 tt_ok (fun N => by kernel_rfl) (fun N x => by kernel_rfl) fun N => .cons ⟨by kernel_rfl, fun _ _ => by kernel_rfl, fun _ _ _ => by kernel_rfl⟩ .nil
noncomputable def q29 : FD Tryd.prog ids := ⟨29, Tryd.f29, [b26], [], TT, [], (hl [.bool]), (lfState [Y4, Y4]), [], j0, [Y4, Y4], .bool, fun N x => bits_Within N x.1 x.2, []⟩
noncomputable def b29 : BF Tryd.prog ids := q29.bf mix Tryd.func29 tt_ok (fun N => by kernel_rfl) (fun N x => by kernel_rfl) fun N => .nil
noncomputable def q47 : FD Tryd.prog ids := ⟨47, Tryd.f47, [], [], TT, [], ⟨[], [], [(5, ⟨(jl [13, 1, 0, 12]), ⟨[(0, (.lf Y4)), (1, (.lf Y4)), (12, (.lf Y1)), (13, (.lf Y1))], [], []⟩, [(0, (lfS []))]⟩)], (lfS [.bool]), none⟩, (lfState [Y4, Y4]), [], j0, [Y4, Y4], .bool, fun N x => slices_Equal_int_int N x.1 x.2, [⟨5, [Y4, Y4, Y1, Y1], [.unit, .bool], fun N n x ks => slices_Equal_int_int_l5 N (fun y => kget ks 0 ⟨.unit, y⟩) (fun y => kget ks 1 ⟨.bool, y⟩) n x.1 x.2.1 x.2.2.1 x.2.2.2⟩]⟩
noncomputable def b47 : BF Tryd.prog ids := q47.bf mix Tryd.func47 tt_ok (fun N => by kernel_rfl) (fun N x => by kernel_rfl) fun N => .cons ⟨by kernel_rfl, fun _ _ => by kernel_rfl, fun _ _ _ => by kernel_rfl⟩ .nil
noncomputable def q30 : FD Tryd.prog ids := ⟨30, Tryd.f30, [b47], [], TT, [], (hl [.bool]), (lfState [Y4, Y4]), [], j0, [Y4, Y4], .bool, fun N x => bits_Same N x.1 x.2, []⟩
noncomputable def b30 : BF Tryd.prog ids := q30.bf mix Tryd.func30 tt_ok (fun N => by kernel_rfl) (fun N x => by kernel_rfl) fun N => .nil
noncomputable def q6 : FD Tryd.prog ids := ⟨6, Tryd.f6, [b7, b18, b12, b25, b28, b26, b27, b29, b30], [], TT, [], ⟨[(67, ⟨(jl [8, 7, 13, 10, 12, 9, 11, 2, 14, 16, 15]), ⟨[(2, (.lf Y1)), (7, (.lf Y4)), (8, (.lf Y4)), (9, (.lf Y4)), (10, (.lf Y4)), (11, (.lf .bool)), (12, (.lf Y1)), (13, (.lf Y1)), (14, (.lf Y1)), (15, (.lf .bool)), (16, (.lf .bool))], [], []⟩⟩), (48, ⟨(jl [8, 7, 10, 12, 9, 11, 2, 14, 16, 15, 13]), ⟨[(2, (.lf Y1)), (7, (.lf Y4)), (8, (.lf Y4)), (9, (.lf Y4)), (10, (.lf Y4)), (11, (.lf .bool)), (12, (.lf Y1)), (13, (.lf Y1)), (14, (.lf Y1)), (15, (.lf .bool)), (16, (.lf .bool))], [], []⟩⟩)], [], [(7, ⟨(jl [14, 8, 7, 13, 10, 12, 9, 11, 2]), ⟨[(2, (.lf Y1)), (7, (.lf Y4)), (8, (.lf Y4)), (9, (.lf Y4)), (10, (.lf Y4)), (11, (.lf .bool)), (12, (.lf Y1)), (13, (.lf Y1)), (14, (.lf Y1))], [], []⟩, [(0, ⟨(jl [2, 7, 8, 11, 10, 13, 9, 12]), ⟨[(2, (.lf Y1)), (7, (.lf Y4)), (8, (.lf Y4)), (9, (.lf Y4)), (10, (.lf Y4)), (11, (.lf .bool)), (12, (.lf Y1)), (13, (.lf Y1))], [], []⟩⟩)]⟩)], (lfS [.bool]), none⟩, (lfState [Y4, Y4, Y1]), [], j0, [Y4, Y4, Y1], .bool, fun N x => avermentlaw03_BitsSets N x.1 x.2.1 x.2.2, [⟨7, [Y1, Y4, Y4, Y4, Y4, .bool, Y1, Y1, Y1], [Y42, .bool], fun N n x ks => avermentlaw03_BitsSets_l7 N (fun y => kget ks 0 ⟨Y42, y⟩) (fun y => kget ks 1 ⟨.bool, y⟩) n x.1 x.2.1 x.2.2.1 x.2.2.2.1 x.2.2.2.2.1 x.2.2.2.2.2.1 x.2.2.2.2.2.2.1 x.2.2.2.2.2.2.2.1 x.2.2.2.2.2.2.2.2⟩]⟩
noncomputable def b6 : BF Tryd.prog ids := q6.bf mix Tryd.func6 tt_ok (fun N => by kernel_rfl) (fun N x => by kernel_rfl) fun N => .cons ⟨by kernel_rfl, fun _ _ => by kernel_rfl, fun _ _ _ => by kernel_rfl⟩ .nil
end Go.Proofs.YtgenmananhffoaaDoor
namespace Go.Y
def Wf (by_ : TypeId → Nat) : (A : Ty) → A.den → Prop
  | .unit, _ => True
  | .bool, _ => True
  | .int k, n => (Lit.int k n).wf = true
  | .str, s => (s : List UInt8).length ≤ reachBytes
  | .pair a b, x => Wf by_ a x.1 ∧ Wf by_ b x.2
  | .st f, x => Wf by_ f x
  | .sl e a, xs => (xs : List a.den).length * by_ e ≤ reachBytes ∧ ∀ x ∈ (xs : List a.den), Wf by_ a x
  | .ptr _ _, _ => False
  | .err, _ => False
  | .fn _ _, _ => False
theorem wf_i64 {n : Int} (h : (Lit.int .i64 n).wf = true) : -9223372036854775808 ≤ n ∧ n ≤ 9223372036854775807 := by
  simpa [Lit.wf, IntKind.min, IntKind.max, IntKind.signed, IntKind.bits] using h
theorem wf_u8 {n : Int} (h : (Lit.int .u8 n).wf = true) : 0 ≤ n ∧ n ≤ 255 := by
  simpa [Lit.wf, IntKind.min, IntKind.max, IntKind.signed, IntKind.bits] using h
theorem wf_u64 {n : Int} (h : (Lit.int .u64 n).wf = true) : 0 ≤ n ∧ n ≤ 18446744073709551615 := by
  simpa [Lit.wf, IntKind.min, IntKind.max, IntKind.signed, IntKind.bits] using h
end Go.Y
namespace Go.Y
open Go.Eng (T RepT RepM SRep Kept Base G SameOn VRep Split Live Free kn)
variable {P : Program} {I : Ids} {φ : FnP}
def rdT (P : Program) : Nat → TypeId → Ty → Bool
  | 0, _, _ => false
  | n + 1, t, A => match A with
    | .bool => match P.underlying t with | some .bool => true | _ => false
    | .int k => match P.underlying t with | some (.int k') => decide (k' = k) | _ => false
    | .str => match P.underlying t with | some .string => true | _ => false
    | .sl e a => match P.underlying t with
      | some (.slice e') => Nat.beq e' e && (rdT P n e a && (Nat.beq (P.cellsOf e) a.flat.length && (Eng.aggOf P e == a.isAgg && !a.flat.isEmpty)))
      | _ => false
    | .st f => match P.underlying t with
      | some (.struct fs) => rowF P (rdT P n) 0 fs.toList f && Nat.beq (P.cellsOf t) f.flat.length
      | _ => false
    | _ => false
def Reps (P : Program) (w : World) (F : Nat → Prop) (ts : List T) (us : List Value) : Prop := ts.length = us.length ∧ ∀ (j : Nat) t, ts[j]? = some t → ∃ u, us[j]? = some u ∧ RepT P w F t u
theorem reps_append {w : World} {F : Nat → Prop} {a b : List T} {us vs : List Value} (h1 : Reps P w F a us) (h2 : Reps P w F b vs) : Reps P w F (a ++ b) (us ++ vs) := by
  refine ⟨by simp [h1.1, h2.1], fun j t hj => ?_⟩
  by_cases hl : j < a.length
  · rw [List.getElem?_append_left hl] at hj
    obtain ⟨u, hu, hr⟩ := h1.2 j t hj
    exact ⟨u, by rw [List.getElem?_append_left (by rw [← h1.1]; exact hl)]; exact hu, hr⟩
  · rw [List.getElem?_append_right (by omega)] at hj
    obtain ⟨u, hu, hr⟩ := h2.2 _ t hj
    exact ⟨u, by rw [List.getElem?_append_right (by rw [← h1.1]; omega), ← h1.1]; exact hu, hr⟩
theorem reps_one {w : World} {F : Nat → Prop} {t : T} {u : Value} (h : RepT P w F t u) : Reps P w F [t] [u] := by
  refine ⟨rfl, fun j s hj => ?_⟩
  cases j with
  | zero => simp only [List.getElem?_cons_zero, Option.some.injEq] at hj; subst hj; exact ⟨u, rfl, h⟩
  | succ j => simp at hj
section
variable {H : Type} {enc : TypeId × Value → H} {w : World} {spare : Nat → Bool} {held : Bool}
def RdOk (enc : TypeId × Value → H) (P : Program) (I : Ids) (φ : FnP) (w : World) (spare : Nat → Bool) (held : Bool) (n : Nat) : Prop :=
  ∀ t A, rdT P n t A = true → ∀ fuel cs d ps, DataW.trod enc P w 0 spare held fuel t cs = some (d, ps) → (∀ m ∈ d.weights P t, m ≤ reachBytes) →
    ∃ x : A.den, Wf P.bytesOf A x ∧ Reps P w (fun b => b < w.heap.size) (trc I φ A x) cs
theorem weights_each {ts : List TypeId} {ds : List (DataW H)} {M : Nat} (h : ∀ m ∈ DataW.weightsEach P ts ds, m ≤ M) {j : Nat} {t : TypeId} {d : DataW H} (ht : ts[j]? = some t) (hd : ds[j]? = some d) : ∀ m ∈ d.weights P t, m ≤ M :=
  fun m hm => h m (DataW.weights_mem_each ht hd m hm)
theorem weights_all_mem {e : TypeId} : ∀ {ds : List (DataW H)} {d : DataW H}, d ∈ ds → ∀ m ∈ d.weights P e, m ∈ DataW.weightsAll P e ds
  | [], d, hd, _, _ => by simp at hd
  | d0 :: r, d, hd, m, hm => by
    simp only [DataW.weightsAll, List.mem_append]
    rcases List.mem_cons.1 hd with rfl | hd
    · exact .inl hm
    · exact .inr (weights_all_mem hd m hm)
theorem rd_row {n fuel : Nat} (IH : RdOk enc P I φ w spare held n) {cs : List Value} :
    ∀ (fs : List Field) (f : Ty) (off : Nat) (xs : List (DataW H × List MemPlace)), rowF P (rdT P n) off fs f = true → xs.length = fs.length →
      (∀ (i : Nat) q, fs[i]? = some q → DataW.trod enc P w 0 spare held fuel q.type ((cs.drop q.offset).take (P.cellsOf q.type)) = xs[i]?) →
      (∀ m ∈ DataW.weightsEach P (fs.map (·.type)) (xs.map (·.1)), m ≤ reachBytes) → cs.length = off + f.flat.length →
      ∃ x : f.den, Wf P.bytesOf f x ∧ Reps P w (fun b => b < w.heap.size) (trc I φ f x) (cs.drop off) := by
  have hd1 : ∀ (q : Field) (a : Ty) (off : Nat) (y : DataW H × List MemPlace), hdF P (rdT P n) q a off = true → DataW.trod enc P w 0 spare held fuel q.type ((cs.drop q.offset).take (P.cellsOf q.type)) = some y →
      (∀ m ∈ y.1.weights P q.type, m ≤ reachBytes) → ∃ x : a.den, Wf P.bytesOf a x ∧ Reps P w (fun b => b < w.heap.size) (trc I φ a x) ((cs.drop off).take a.flat.length) := by
    intro q a off y h hy hm
    obtain ⟨h1, h2, h3, _, _⟩ := hdF_facts h
    obtain ⟨x, hx1, hx2⟩ := IH q.type a h2 fuel _ y.1 y.2 hy hm
    rw [h1, h3] at hx2
    exact ⟨x, hx1, hx2⟩
  intro fs
  induction fs with
  | nil =>
    intro f off xs h _ _ _ hl
    cases f <;> first
      | (exact ⟨(), trivial, by simp only [Ty.flat, List.length_nil] at hl; rw [List.drop_eq_nil_of_le (by omega)]; exact ⟨rfl, fun j t hj => by simp [trc] at hj⟩⟩)
      | (simp only [rowF] at h; cases h)
  | cons q r ih =>
    intro f off xs h hlen hx hm hl
    obtain ⟨y, ys, rfl⟩ : ∃ y ys, xs = y :: ys := by
      cases xs with
      | nil => simp at hlen
      | cons y ys => exact ⟨y, ys, rfl⟩
    have hy := hx 0 q rfl
    simp only [List.getElem?_cons_zero] at hy
    have hmy : ∀ m ∈ y.1.weights P q.type, m ≤ reachBytes := weights_each hm (j := 0) rfl rfl
    cases r with
    | nil =>
      simp only [rowF, Bool.and_eq_true] at h
      obtain ⟨x, h1, h2⟩ := hd1 q f off y h.2 hy hmy
      refine ⟨x, h1, ?_⟩
      rwa [List.take_of_length_le (by rw [List.length_drop]; omega)] at h2
    | cons q2 r2 =>
      cases f with
      | pair a b =>
        simp only [rowF, Bool.and_eq_true] at h
        simp only [Ty.flat, List.length_append] at hl
        obtain ⟨x, h1, h2⟩ := hd1 q a off y h.1 hy hmy
        obtain ⟨z, h3, h4⟩ := ih b (off + a.flat.length) ys h.2 (by simpa using hlen) (fun i q' hq => by have := hx (i + 1) q' (by simpa using hq); simpa using this)
          (fun m hm' => hm m (by simp only [List.map_cons, DataW.weightsEach, List.mem_append]; exact .inr (by simpa using hm'))) (by omega)
        refine ⟨(x, z), ⟨h1, h3⟩, ?_⟩
        have := reps_append h2 h4
        rw [← List.drop_drop, List.take_append_drop] at this
        exact this
      | _ => simp only [rowF] at h; cases h
theorem rd_ok : ∀ n, RdOk (H := H) enc P I φ w spare held n
  | 0 => fun t A h => by simp [rdT] at h
  | n + 1 => by
    intro t A h fuel cs d ps htr hm
    unfold rdT at h
    cases A with
    | bool =>
      simp only at h
      split at h
      · rename_i hu
        obtain ⟨b, rfl, _⟩ := DataW.trod_bool hu htr
        exact ⟨b, trivial, reps_one (.b b)⟩
      · cases h
    | int k =>
      simp only at h
      split at h
      · rename_i k' hu
        have hk : k' = k := of_decide_eq_true h
        subst hk
        obtain ⟨m, rfl, _, hw⟩ := DataW.trod_int hu htr
        exact ⟨m, hw, reps_one (.i k' m)⟩
      · cases h
    | str =>
      simp only at h
      split at h
      · rename_i hu
        obtain ⟨s, rfl, hx, hs⟩ := DataW.trod_string hu htr
        simp only [Prod.mk.injEq] at hx
        refine ⟨s.data.toList, ?_, ?_⟩
        · rw [hx.1] at hm
          have := hm s.data.toList.length (by simp [DataW.weights])
          exact this
        · have : (⟨s.data.toList.toArray⟩ : ByteArray) = s := by
            apply ByteArray.ext; simp
          show Reps P w _ [T.s ⟨s.data.toList.toArray⟩] _
          rw [this]
          exact reps_one (.s s)
      · cases h
    | st f =>
      simp only at h
      split at h
      · rename_i fs hu
        simp only [Bool.and_eq_true] at h
        obtain ⟨xs, m, rfl, hx, hl, hlen, hel⟩ := DataW.trod_struct hu htr
        have hf := (beq_iff _ _).1 h.2
        simp only [Prod.mk.injEq] at hx
        rw [hx.1] at hm
        obtain ⟨x, h1, h2⟩ := rd_row (rd_ok n) fs.toList f 0 xs h.1 (by rw [hlen]; simp) (fun i q hq => hel i q (by simpa using hq)) (fun k hk => hm k (by simp only [DataW.weights, hu]; exact hk)) (by rw [hl, hf]; simp)
        rw [List.drop_zero] at h2
        exact ⟨x, h1, h2⟩
      · cases h
    | sl e a =>
      simp only at h
      split at h
      · rename_i e' hu
        simp only [Bool.and_eq_true] at h
        obtain ⟨h1, h2, h3, h4, h5⟩ := h
        have h1 := (beq_iff _ _).1 h1
        subst h1
        have h3 := (beq_iff _ _).1 h3
        have h4 : Eng.aggOf P e' = a.isAgg := by simpa using h4
        have hpos : 0 < a.flat.length := by
          cases hf : a.flat with
          | nil => rw [hf] at h5; cases h5
          | cons => simp
        rcases DataW.trod_slice hu htr with ⟨rfl, _⟩ | ⟨ad, len, cap, elems, rest, m, rfl, rfl, hx, _, hlc, _, hlen, hel, _, _⟩
        · exact ⟨[], ⟨by simp, fun x hx => by simp at hx⟩, reps_one (.nsl e' false)⟩
        · simp only [Prod.mk.injEq] at hx
          rw [hx.1] at hm
          simp only [DataW.weights, hu, List.mem_cons, List.mem_append] at hm
          have hbytes := hm _ (.inl rfl)
          rw [List.length_map, List.length_map] at hbytes
          have each : ∀ i, i < len → ∃ x : a.den, Wf P.bytesOf a x ∧ ∃ us, w.cells? 0 (ad.add (i * P.cellsOf e')) (P.cellsOf e') = some us ∧ Reps P w (fun b => b < w.heap.size) (trc I φ a x) us := by
            intro i hi
            have hi' : i < elems.length := by omega
            have he := hel i hi
            rw [List.getElem?_eq_getElem hi'] at he
            obtain ⟨us, hus, htr'⟩ := Option.bind_eq_some_iff.1 he
            obtain ⟨x, hx1, hx2⟩ := rd_ok n e' a h2 m us elems[i].1 elems[i].2 htr' (fun k hk => hm k (.inr (.inl (weights_all_mem (List.mem_map.2 ⟨elems[i], List.getElem_mem hi', rfl⟩) k hk))))
            exact ⟨x, hx1, us, hus, hx2⟩
          obtain ⟨xs, hxl, hxs⟩ : ∃ xs : List a.den, xs.length = len ∧ ∀ i x, xs[i]? = some x → Wf P.bytesOf a x ∧ ∃ us, w.cells? 0 (ad.add (i * P.cellsOf e')) (P.cellsOf e') = some us ∧ Reps P w (fun b => b < w.heap.size) (trc I φ a x) us := by
            have : ∀ k, k ≤ len → ∃ xs : List a.den, xs.length = k ∧ ∀ i x, xs[i]? = some x → Wf P.bytesOf a x ∧ ∃ us, w.cells? 0 (ad.add (i * P.cellsOf e')) (P.cellsOf e') = some us ∧ Reps P w (fun b => b < w.heap.size) (trc I φ a x) us := by
              intro k
              induction k with
              | zero => exact fun _ => ⟨[], rfl, fun i x hx => by simp at hx⟩
              | succ k ihk =>
                intro hk
                obtain ⟨xs, hxl, hxs⟩ := ihk (by omega)
                obtain ⟨x, hx⟩ := each k (by omega)
                refine ⟨xs ++ [x], by simp [hxl], fun i y hy => ?_⟩
                by_cases hi : i < xs.length
                · rw [List.getElem?_append_left hi] at hy; exact hxs i y hy
                · rw [List.getElem?_append_right (by omega)] at hy
                  have hik : i = k := by
                    have := lt_of_get hy
                    simp at this; omega
                  subst hik
                  rw [hxl] at hy
                  simp only [Nat.sub_self, List.getElem?_cons_zero, Option.some.injEq] at hy
                  subst hy
                  exact hx
            exact this len (Nat.le_refl _)
          refine ⟨xs, ⟨?_, fun x hx => ?_⟩, ?_⟩
          · rw [hxl, ← hlen]
            exact Nat.le_trans (Nat.mul_le_mul_right _ (Nat.le_add_right _ _)) hbytes
          · obtain ⟨i, hi⟩ := List.getElem?_of_mem hx
            exact (hxs i x hi).1
          · refine reps_one ?_
            have hfit : ∀ y ∈ xs.map (fun x => one a (trc I φ a x)), Eng.Fits P e' y := by
              intro y hy
              obtain ⟨x, _, rfl⟩ := List.mem_map.1 hy
              exact fits_of_ty h3.symm h4.symm x
            by_cases hl0 : len = 0
            · subst hl0
              have : xs = [] := List.eq_nil_of_length_eq_zero hxl
              subst this
              exact .esl e' false ad cap
            · have hcell : ∀ i x, xs[i]? = some x → ∃ us : List Value, us.length = P.cellsOf e' ∧ (∀ j, j < P.cellsOf e' → w.cell? ((ad.add (i * P.cellsOf e')).add j) = us[j]?) ∧ Reps P w (fun b => b < w.heap.size) (trc I φ a x) us := by
                intro i x hx
                obtain ⟨_, us, hus, hr⟩ := hxs i x hx
                unfold World.cells? at hus
                rw [if_pos (Nat.zero_le _)] at hus
                exact ⟨us, by simpa using mapM_some_length hus, fun j hj => mapM_some_get hus j j (by simp [hj]), hr⟩
              obtain ⟨adb, ado, ads⟩ := ad
              have hspot : ads = none ∧ adb < w.heap.size := by
                obtain ⟨us, hus, hc, hr⟩ := hcell 0 xs[0] (List.getElem?_eq_getElem (by omega))
                have h6 := hc 0 (by omega)
                simp only [Nat.zero_mul, Addr.add, if_true] at h6
                have h7 : us[0]? = some us[0] := List.getElem?_eq_getElem (by omega)
                rw [h7] at h6
                refine ⟨?_, World.block_lt_of_cell? w _ h6⟩
                unfold World.cell? at h6
                split at h6
                · split at h6
                  · cases h6
                  · rename_i hs
                    simpa using hs
                · cases h6
              obtain ⟨rfl, hlt⟩ := hspot
              have hat : ∀ j t, (Eng.flat (xs.map fun x => one a (trc I φ a x)))[j]? = some t → ∃ u, w.cell? ⟨adb, ado + j, none⟩ = some u ∧ RepT P w (fun b => b < w.heap.size) t u := by
                intro j t hj
                obtain ⟨_, _, x, hi, ho⟩ := flat_at hfit hj
                have hjo : j = j / P.cellsOf e' * P.cellsOf e' + j % P.cellsOf e' := by rw [Nat.mul_comm]; exact (Nat.div_add_mod _ _).symm
                generalize j / P.cellsOf e' = i at hi hjo
                generalize j % P.cellsOf e' = o at ho hjo
                rw [List.getElem?_map, Option.map_eq_some_iff] at hi
                obtain ⟨x', hx', rfl⟩ := hi
                have ho : (trc I φ a x')[o]? = some t := by rw [← ho]; exact congrArg (·[o]?) (tr_cells (I := I) (φ := φ) a x').symm
                obtain ⟨us, hus, hc, hr⟩ := hcell i x' hx'
                obtain ⟨u, hu, hru⟩ := hr.2 o t ho
                have hol : o < P.cellsOf e' := by
                  have := lt_of_get hu
                  omega
                have h8 := hc o hol
                rw [hu, Eng.addr_add, Eng.addr_add, Nat.add_assoc, ← hjo] at h8
                exact ⟨u, h8, hru⟩
              have hlm : len = (xs.map fun x => one a (trc I φ a x)).length := by simp [hxl]
              rw [hlm]
              refine .sl e' false _ adb ado cap (fun j => (w.cell? ⟨adb, ado + j, none⟩).getD undef) (fun _ => hlt) hfit (by rw [← hlm]; exact hlc) (fun j t hj => ?_) fun j t hj => ?_
              · obtain ⟨u, hu, _⟩ := hat j t hj
                simp [hu]
              · obtain ⟨u, hu, hr⟩ := hat j t hj
                simp only [hu, Option.getD_some]
                exact hr
      · cases h
    | _ => cases h
end
end Go.Y
namespace Go.Y
open Go.Eng (T RepT RepM SRep Kept Base G SameOn VRep Split Live Free kn)
open Go.ChangeShapes Go.WideShapes Go.RowKit
variable {P : Program} {I : Ids} {φ : FnP}
def rdAll (P : Program) : List TypeId → List Ty → Bool
  | [], [] => true
  | t :: ts, A :: As => rdT P 24 t A && (P.readableRec t && (Nat.blt t P.types.size && (Eng.aggOf P t == A.isAgg && rdAll P ts As)))
  | _, _ => false
theorem cells_one {v : Value} {c : Value} (h : v.cells.toList = [c]) : v = c ∨ v = .agg #[c] := by
  cases v with
  | agg cs =>
    refine .inr ?_
    have h : cs.toList = [c] := h
    cases cs; simp_all
  | _ => simp_all [Value.cells]
theorem rd_value {H : Type} {enc : TypeId × Value → H} {w : World} {r : Reach} {b0 : Nat} {t : TypeId} {A : Ty} {v : Value} {x : A.den} (h : rdT P 24 t A = true) (hag : Eng.aggOf P t = A.isAgg) (hval : Value.okWide P w r b0 t v)
    {F : Nat → Prop} (hr : Reps P w F (trc I φ A x) v.cells.toList) : RepT P w F (tr I φ A x) v := by
  cases hA : A.isAgg with
  | true =>
    rw [tr_agg A hA]
    have hu : ∃ cs, v = .agg cs := by
      unfold Eng.aggOf at hag
      unfold Value.okWide at hval
      rw [hA] at hag
      split at hval
      · obtain ⟨cs, hv, _⟩ := hval; exact ⟨cs, hv⟩
      · obtain ⟨cs, hv, _⟩ := hval; exact ⟨cs, hv⟩
      · split at hag
        · simp_all
        · simp_all
        · cases hag
    obtain ⟨cs, rfl⟩ := hu
    refine .ag _ cs (fun j => cs.getD j undef) (by have := hr.1; simp [Value.cells] at this; exact this.symm) (fun j t hj => ?_) fun j t hj => ?_
    · obtain ⟨u, hu, _⟩ := hr.2 j t hj
      simp only [Value.cells, Array.getElem?_toList] at hu
      simp [hu]
    · obtain ⟨u, hu, hr'⟩ := hr.2 j t hj
      simp only [Value.cells, Array.getElem?_toList] at hu
      simpa [hu] using hr'
  | false =>
    have hs := tr_single (I := I) (φ := φ) A hA x
    rw [hs] at hr
    obtain ⟨u, hu, hr'⟩ := hr.2 0 _ rfl
    have hlen := hr.1
    have hcs : v.cells.toList = [u] := by
      cases hc : v.cells.toList with
      | nil => rw [hc] at hu; simp at hu
      | cons y ys =>
        rw [hc] at hu hlen
        cases ys with
        | nil => simp only [List.getElem?_cons_zero, Option.some.injEq] at hu; subst hu; rfl
        | cons z zs => simp at hlen
    rcases cells_one hcs with rfl | rfl
    · exact hr'
    · exfalso
      rw [hA] at hag
      unfold Value.okWide at hval
      unfold Eng.aggOf at hag
      split at hval
      · rename_i h1; rw [h1] at hag; cases hag
      · rename_i h1; rw [h1] at hag; cases hag
      · unfold Cell.okWide Cell.ok at hval
        simp only at hval
        split at hval <;> simp_all
theorem rd_args {H : Type} {enc : TypeId × Value → H} {w : World} {spare : Nat → Bool} {held : Bool} {r : Reach} {b0 : Nat} :
    ∀ (ts : List TypeId) (As : List Ty) (vs : List Value) (ds : List (DataW H)) (ps : List MemPlace), rdAll P ts As = true → DataW.TrodAll enc P w 0 spare held ts vs ds ps →
      (∀ (j : Nat) t v, ts[j]? = some t → vs[j]? = some v → Value.okWide P w r b0 t v) → (∀ m ∈ DataW.weightsEach P ts ds, m ≤ reachBytes) →
      ∃ ls : List L, ls.map (·.ty) = As ∧ (∀ l ∈ ls, Wf P.bytesOf l.ty l.val) ∧ vs.length = ls.length ∧ ds.length = ts.length ∧ ∀ (j : Nat) l, ls[j]? = some l → ∃ u, vs[j]? = some u ∧ RepT P w (fun b => b < w.heap.size) (trL I φ l) u
  | [], [], vs, ds, ps, _, h, _, _ => by
    cases vs <;> cases ds <;> simp_all [DataW.TrodAll]
  | t :: ts, A :: As, vs, ds, ps, h, hT, hval, hm => by
    simp only [rdAll, Bool.and_eq_true] at h
    obtain ⟨v, vs', d, ds', p, q, rfl, rfl, rfl, hd, hrest⟩ := trodAll_cons hT
    obtain ⟨fuel, hf⟩ := hd
    obtain ⟨x, hx1, hx2⟩ := rd_ok (I := I) (φ := φ) 24 t A h.1 fuel _ d p hf (fun m hm' => hm m (by simp only [DataW.weightsEach, List.mem_append]; exact .inl hm'))
    obtain ⟨ls, h1, h2, h3, h5, h4⟩ := rd_args ts As vs' ds' q h.2.2.2.2 hrest (fun j t v ht hv => hval (j + 1) t v (by simpa using ht) (by simpa using hv)) (fun m hm' => hm m (by simp only [DataW.weightsEach, List.mem_append]; exact .inr hm'))
    refine ⟨⟨A, x⟩ :: ls, by simp [h1], ?_, by simp [h3], by simp [h5], ?_⟩
    · intro l hl
      rcases List.mem_cons.1 hl with rfl | hl
      · exact hx1
      · exact h2 l hl
    · intro j l hj
      cases j with
      | zero =>
        simp only [List.getElem?_cons_zero, Option.some.injEq] at hj
        subst hj
        exact ⟨v, rfl, rd_value (enc := enc) h.1 (by simpa using h.2.2.2.1) (hval 0 t v rfl rfl) hx2⟩
      | succ j => exact h4 j l (by simpa using hj)
  | [], _ :: _, _, _, _, h, _, _, _ => by simp [rdAll] at h
  | _ :: _, [], _, _, _, h, _, _, _ => by simp [rdAll] at h
theorem rd_back {H : Type} {enc : TypeId × Value → H} {W W' : World} (hl : laidOutB P = true) (hb : Below W.heap.size W W') :
    ∀ (ts : List TypeId) (As : List Ty) (vs : List Value) (ds : List (DataW H)) (ps : List MemPlace), rdAll P ts As = true → DataW.TrodAll enc P W 0 (fun _ => true) true ts vs ds ps →
      DataW.TrodAll enc P W' 0 (fun b => decide (b < W.heap.size)) true ts vs ds ps
  | [], [], vs, ds, ps, _, h => by
    cases vs <;> cases ds <;> simp_all [DataW.TrodAll]
  | t :: ts, A :: As, vs, ds, ps, h, hT => by
    simp only [rdAll, Bool.and_eq_true] at h
    obtain ⟨v, vs', d, ds', p, q, rfl, rfl, rfl, hd, hrest⟩ := trodAll_cons hT
    refine ⟨p, q, Below.trod hl h.2.1 (by have := h.2.2.1; rwa [Nat.blt_eq] at this) hd hb ?_, rd_back hl hb ts As vs' ds' q h.2.2.2.2 hrest, rfl⟩
    obtain ⟨fuel, hf⟩ := hd
    exact DataW.trod_lt fuel _ _ _ hf
  | [], _ :: _, _, _, _, h, _ => by simp [rdAll] at h
  | _ :: _, [], _, _, _, h, _ => by simp [rdAll] at h
theorem tupL_wf (by_ : TypeId → Nat) : ∀ (vs : List L), (∀ l ∈ vs, Wf by_ l.ty l.val) → Wf by_ (tupL vs).ty (tupL vs).val
  | [], _ => trivial
  | [v], h => h v (by simp)
  | v :: w :: r, h => ⟨h v (by simp), tupL_wf by_ (w :: r) fun l hl => h l (by simp [hl])⟩
def boolOut : St Ty := ⟨[(0, .lf .bool)], [], []⟩
theorem law_calls {H : Type} {enc : TypeId × Value → H} {f : FuncId} {fn : Func} {s : ChangeSpec} {As : List Ty} {F : Nat → (tupTy As).den → Option Bool} {ins : St Ty} {h0 : JH}
    (hl : laidOutB P = true) (hrd : rdAll P fn.params.toList As = true) (hvars : s.vars = []) (hspec : ∀ ds : List (DataW H), ds.length = fn.params.toList.length → s.fn H ds = { results := [.lit (.bool true)], args := ds })
    (hres : ∃ t, fn.resultTypes = #[t] ∧ P.underlying t = some .bool) (hins : ins = lfState As)
    (hOk : ∀ N, FnOk P I φ f ⟨ins, boolOut, false, [], h0, none⟩ ⟨tupTy As, .bool, F N⟩)
    (pure : ∀ x : (tupTy As).den, Wf P.bytesOf (tupTy As) x → ∃ N, F N x = some true)
    {W : World} {base : Nat} {args : Array Value} {ds gs : List (DataW H)} {before : List MemPlace}
    (hval : ∀ (j : Nat) t v, fn.params[j]? = some t → args[j]? = some v → Value.okWide P W .any base t v)
    (hW : DataW.Whole enc P fn.params.toList s.vars false W args.toList ds gs before)
    (hsz : (DataW.weightsEach P (fn.params.toList ++ s.plain.varTypes P) (ds ++ gs)).all (· ≤ reachBytes) = true) (hgl : GlobW I W) :
    Calls P f args W fun e W' => ∃ v, e = .returned v ∧ s.post enc P fn false true false false W args v W' := by
  have hW' := hW
  obtain ⟨p, q, hA, hV, rfl, hfz, hnd⟩ := hW
  rw [hvars] at hV
  obtain ⟨rfl, rfl⟩ := trodVars_none hV
  have hm : ∀ m ∈ DataW.weightsEach P fn.params.toList ds, m ≤ reachBytes := by
    intro m hm
    have hvt : s.plain.varTypes P = [] := by
      have : s.plain.vars = [] := hvars
      unfold DataSpec.varTypes
      rw [this]; rfl
    rw [hvt, List.append_nil, List.append_nil] at hsz
    simpa using List.all_eq_true.1 hsz m hm
  obtain ⟨ls, h1, h2, h3, h5, h4⟩ := rd_args (I := I) (φ := φ) fn.params.toList As args.toList ds p hrd hA (fun j t v ht hv => hval j t v (by simpa using ht) (by simpa using hv)) hm
  have hx : ∃ x, (tupL ls).as (tupTy As) = some x ∧ Wf P.bytesOf (tupTy As) x := by
    rw [← h1, ← tupL_ty]
    exact ⟨_, as_self _, tupL_wf _ ls h2⟩
  obtain ⟨x, hx1, hx2⟩ := hx
  obtain ⟨N, hN⟩ := pure x hx2
  refine ((hOk N).leaf (ts := As) rfl hins rfl x true hN ls hx1 h1 W (fun b => b < W.heap.size) args hgl (fun b hb => hb) (by simpa using h3) (fun j l hj => by
    obtain ⟨u, hu, hr⟩ := h4 j l hj
    exact ⟨u, by simpa using hu, hr⟩)).mono fun e W' ⟨u, he, g', rs, hrs, hinv, hrep⟩ => ?_
  have hrs := hrs []
  have hrs : some [(⟨.bool, true⟩ : L)] = some rs := hrs
  simp only [Option.some.injEq] at hrs
  subst hrs
  have hu := hrep (.lf ⟨.bool, true⟩) rfl
  have hu := repB (arep_lf hu)
  subst hu
  have bel : Below W.heap.size W W' := ⟨hinv.k.os, hinv.k.tape, hinv.k.output, hinv.k.size, fun b hb => hinv.k.block b hb (fun h => h)⟩
  obtain ⟨t, ht1, ht2⟩ := hres
  have hsp := hspec ds h5
  refine ⟨_, he, ds, [], _, [], p, [], hW', ?_, ?_, ?_, bel.frame _, fun h => by cases h⟩
  · rw [List.append_nil, hsp, ht1]
    exact trodAll_mk1 (shut_bool ht2 _)
  · rw [List.append_nil, hsp]
    exact rd_back hl bel _ _ _ _ _ hrd hA
  · rw [List.append_nil, hsp, hvars]
    rfl
end Go.Y
namespace Go.Y
variable {α β ρ : Type}
theorem wr_i64 {n : Int} (h0 : -9223372036854775808 ≤ n) (h1 : n ≤ 9223372036854775807) : wr .i64 n = n := by
  show (if true && decide (n % (2 ^ 64 : Int) ≥ (2 ^ 63 : Int)) then n % (2 ^ 64 : Int) - (2 ^ 64 : Int) else n % (2 ^ 64 : Int)) = n
  simp only [Bool.true_and, decide_eq_true_eq]
  split <;> omega
theorem wr_u64_mod (n : Int) : wr .u64 n = n % 18446744073709551616 := rfl
theorem wr_u64 {n : Int} (h0 : 0 ≤ n) (h1 : n ≤ 18446744073709551615) : wr .u64 n = n := by rw [wr_u64_mod]; omega
theorem wr_u8_mod (n : Int) : wr .u8 n = n % 256 := rfl
theorem wr_u8 {n : Int} (h0 : 0 ≤ n) (h1 : n ≤ 255) : wr .u8 n = n := by rw [wr_u8_mod]; omega
theorem wr_succ {i m : Nat} (h : i < m) (hm : m ≤ 9223372036854775807) : wr .i64 ((i : Int) + 1) = ((i + 1 : Nat) : Int) := by
  rw [wr_i64 (by omega) (by omega)]; omega
@[simp] theorem pIf_t (a b : Option ρ) : pIf true a b = a := rfl
@[simp] theorem pIf_f (a b : Option ρ) : pIf false a b = b := rfl
@[simp] theorem pCk_t (k : Option ρ) : pCk true k = k := rfl
@[simp] theorem pCall_s (x : α) (k : α → Option ρ) : pCall (some x) k = k x := rfl
@[simp] theorem pCallG_t (d : α) (o : Option α) (k : α → Option ρ) : pCallG true d o k = pCall o k := rfl
@[simp] theorem pCallG_f (d : α) (o : Option α) (k : α → Option ρ) : pCallG false d o k = k d := rfl
@[simp] theorem pIdxG_t (d : α) (xs : List α) (i : Int) (k : α → Option ρ) : pIdxG true d xs i k = pIdx xs i k := rfl
@[simp] theorem pIdxG_f (d : α) (xs : List α) (i : Int) (k : α → Option ρ) : pIdxG false d xs i k = k d := rfl
@[simp] theorem pLet_ (a : α) (k : α → Option ρ) : pLet a k = k a := rfl
@[simp] theorem pJoin_ (k : α → Option ρ) (b : (α → Option ρ) → Option ρ) : pJoin k b = b k := rfl
@[simp] theorem pick_t (a b : α) : pick true a b = a := rfl
@[simp] theorem pick_f (a b : α) : pick false a b = b := rfl
theorem pick_and (a b : Bool) : pick a b false = (a && b) := by cases a <;> rfl
theorem pick_or (a b : Bool) : pick a true b = (a || b) := by cases a <;> rfl
@[simp] theorem len_ (xs : List α) : len xs = (xs.length : Int) := rfl
theorem ix_nat {xs : List α} {i : Nat} : ix xs (i : Int) = xs[i]? := by
  unfold ix
  rw [decide_eq_true (Int.natCast_nonneg i), Int.toNat_natCast]
theorem pIdx_nat {xs : List α} {i : Nat} {x : α} (h : xs[i]? = some x) (k : α → Option ρ) : pIdx xs (i : Int) k = k x := by
  unfold pIdx; rw [ix_nat, h]; rfl
theorem pIdx_lt {xs : List α} {i : Nat} (h : i < xs.length) (k : α → Option ρ) : pIdx xs (i : Int) k = k xs[i] :=
  pIdx_nat (List.getElem?_eq_getElem h) k
theorem pIdx_int {xs : List α} {i : Int} (h0 : 0 ≤ i) (h : i.toNat < xs.length) (k : α → Option ρ) : pIdx xs i k = k xs[i.toNat] := by
  have := pIdx_lt h k
  rwa [Int.toNat_of_nonneg h0] at this
theorem room_of {b : Nat} {n : Int} (h : n * b ≤ 140737488355328) (h1 : n ≤ 140737488355328) : room b n = true := by
  exact room_iff.2 ⟨h, h1⟩
end Go.Y
namespace Go.Y
abbrev Val := Int × (Bool × Int) × (Int × Int) × Int
def riseB (n : Int) : Int → List Int → Bool
  | _, [] => true
  | last, x :: r => decide (last < x) && (decide (x < n) && riseB n x r)
def setR (n : Int) (s : List Int) : Bool := decide (0 ≤ n) && (decide (n ≤ 4096) && riseB n (-1) s)
theorem bits_Right_loop (N : Nat) (k0 : Unit → Option Bool) (k1 : Bool → Option Bool) (n0 : Int) (s : List Int) (hs : s.length ≤ 4611686018427387904) :
    ∀ (n i : Nat) (last : Int), i ≤ s.length → s.length < n + i → bits_Right_l6 N k0 k1 n n0 last s s.length i = if riseB n0 last (s.drop i) then k0 () else k1 false := by
  intro n
  induction n with
  | zero => intro i last h1 h2; omega
  | succ n ih =>
    intro i last h1 h2
    unfold bits_Right_l6
    by_cases hi : i < s.length
    · rw [decide_eq_true (by omega), pIf_t, pIdx_lt hi, List.drop_eq_getElem_cons hi]
      simp only [pLet_, pick_or, riseB]
      by_cases h3 : s[i] ≤ last
      · simp [h3, show ¬ last < s[i] by omega]
      · by_cases h4 : n0 ≤ s[i]
        · simp [h3, h4, show ¬ s[i] < n0 by omega]
        · simp only [h3, h4, decide_false, Bool.or_self, pIf_f]
          rw [wr_succ hi (by omega), ih (i + 1) s[i] (by omega) (by omega)]
          simp [show last < s[i] by omega, show s[i] < n0 by omega]
    · have : i = s.length := by omega
      subst this
      simp [riseB]
theorem bits_Right_ok {N : Nat} {n : Int} {s : List Int} (hs : s.length ≤ 4611686018427387904) (hN : s.length < N) : bits_Right N n s = some (setR n s) := by
  unfold bits_Right
  simp only [pLet_, pick_or, len_]
  unfold setR
  by_cases h1 : n < 0
  · simp [h1, show ¬ 0 ≤ n by omega]
  · by_cases h2 : 4096 < n
    · simp [h2, show ¬ n ≤ 4096 by omega]
    · simp only [h1, h2, decide_false, Bool.or_self, pIf_f]
      rw [show (0 : Int) = ((0 : Nat) : Int) from rfl, bits_Right_loop N _ _ n s hs N 0 (-1) (by omega) (by omega)]
      simp only [List.drop_zero]
      cases riseB n (-1) s <;> simp <;> omega
theorem riseB_prev (n : Int) (l : List Int) : ∀ last, last < -1 → True := fun _ _ => trivial
def valR (v : Val) : Bool := decide (1 ≤ v.1) && (decide (v.1 ≤ 7) && ((v.2.1.1 || decide (v.2.1.2 = 0)) && (decide (v.2.2.1.1 ≤ v.2.2.1.2) && (decide (1 ≤ v.2.2.2) && decide (v.2.2.2 ≤ 3)))))
theorem IndexFunc_loop {α : Type} (L : Nat → (Unit → Option Int) → (Int → Option Int) → Nat → List α → (α → Option Bool) → Int → Int → Option Int)
    (h0 : ∀ N k0 k1 n s f t i, L N k0 k1 (n + 1) s f t i = pIf (decide (i < t)) (pIdx s i fun x0 => pCall (f x0) fun x1 => pIf x1 (k1 i) (L N k0 k1 n s f t (wr .i64 (i + 1)))) (k0 ()))
    (N : Nat) (k0 : Unit → Option Int) (k1 : Int → Option Int) (s : List α) (f : α → Option Bool) (p : α → Bool) (hf : ∀ x ∈ s, f x = some (p x)) (hs : s.length ≤ 4611686018427387904) :
    ∀ (n i : Nat), i ≤ s.length → s.length < n + i → L N k0 k1 n s f s.length i = match (s.drop i).findIdx? p with | some j => k1 ((i + j : Nat) : Int) | none => k0 () := by
  intro n
  induction n with
  | zero => intro i h1 h2; omega
  | succ n ih =>
    intro i h1 h2
    rw [h0]
    by_cases hi : i < s.length
    · rw [decide_eq_true (by omega), pIf_t, pIdx_lt hi, List.drop_eq_getElem_cons hi, hf _ (List.getElem_mem hi), pCall_s, List.findIdx?_cons]
      cases p s[i] with
      | true => simp
      | false =>
        rw [pIf_f, wr_succ hi (by omega), ih (i + 1) (by omega) (by omega)]
        cases (List.drop (i + 1) s).findIdx? p with
        | none => rfl
        | some j => simp; congr 1; omega
    · have : i = s.length := by omega
      subst this
      simp
theorem any_find {α : Type} (p : α → Bool) (s : List α) : s.any p = (s.findIdx? p).isSome := by
  induction s with
  | nil => rfl
  | cons x r ih =>
    rw [List.any_cons, ih, List.findIdx?_cons]
    cases p x <;> simp
end Go.Y
namespace Go.Y
end Go.Y
namespace Go.Y
def Inc (l : List Int) : Prop := l.Pairwise (· < ·)
theorem inc_insert {out : List Int} {v : Int} {a : Nat} (h : Inc out) (ha : a ≤ out.length) (h1 : ∀ j x, out[j]? = some x → j < a → x < v) (h2 : ∀ x, out[a]? = some x → v < x) : Inc (out.take a ++ [v] ++ out.drop a) := by
  have hall : ∀ x ∈ out.drop a, v < x := by
    intro x hx
    cases hd : out.drop a with
    | nil => rw [hd] at hx; simp at hx
    | cons y r =>
      have hy : out[a]? = some y := by
        have := List.head?_drop (l := out) (i := a)
        rw [hd] at this; simpa using this.symm
      have hvy := h2 y hy
      have hs : (out.drop a).Pairwise (· < ·) := h.sublist (List.drop_sublist a out)
      rw [hd] at hs hx
      rcases List.mem_cons.1 hx with rfl | hx
      · exact hvy
      · have := (List.pairwise_cons.1 hs).1 x hx
        omega
  have hlow : ∀ x ∈ out.take a, x < v := by
    intro x hx
    obtain ⟨j, hj⟩ := List.getElem?_of_mem hx
    rw [List.getElem?_take] at hj
    split at hj
    · exact h1 j x hj (by omega)
    · cases hj
  unfold Inc
  rw [List.append_assoc, List.singleton_append, List.pairwise_append]
  refine ⟨h.sublist (List.take_sublist a out), List.pairwise_cons.2 ⟨hall, h.sublist (List.drop_sublist a out)⟩, fun x hx y hy => ?_⟩
  rcases List.mem_cons.1 hy with rfl | hy
  · exact hlow x hx
  · have := hlow x hx
    have := hall y hy
    omega
end Go.Y
namespace Go.Y
theorem loop_all {ρ : Type} (L : Nat → Nat → ρ) (m : Nat) (p : Nat → Bool) (yes no : ρ) (hs : ∀ n i, i < m → L (n + 1) i = bif p i then L n (i + 1) else no) (h1 : ∀ n, L (n + 1) m = yes) :
    ∀ n i, i ≤ m → m < n + i → L n i = bif (List.range' i (m - i)).all p then yes else no
  | 0, i, hi, hn => by omega
  | n + 1, i, hi, hn => by
    by_cases h : i = m
    · subst h
      rw [h1, Nat.sub_self]; rfl
    · have ih := loop_all L m p yes no hs h1 n (i + 1) (by omega) (by omega)
      rw [hs n i (by omega), ih, show m - i = (m - (i + 1)) + 1 by omega, List.range'_succ, List.all_cons]
      cases p i <;> simp
theorem loop_all0 {ρ : Type} (L : Nat → Nat → ρ) (m : Nat) (p : Nat → Bool) (yes no : ρ) (hs : ∀ n i, i < m → L (n + 1) i = bif p i then L n (i + 1) else no) (h1 : ∀ n, L (n + 1) m = yes) {n : Nat} (hn : m < n) :
    L n 0 = bif (List.range m).all p then yes else no := by
  have := loop_all L m p yes no hs h1 n 0 (Nat.zero_le _) hn
  rw [this, List.range_eq_range', Nat.sub_zero]
theorem loop_run {ρ : Type} (L : Nat → Nat → ρ) (m : Nat) (yes : ρ) (hs : ∀ n i, i < m → L (n + 1) i = L n (i + 1)) (h1 : ∀ n, L (n + 1) m = yes) {n : Nat} (hn : m < n) : L n 0 = yes := by
  have := loop_all0 L m (fun _ => true) yes yes (fun n i hi => by rw [hs n i hi]; rfl) h1 hn
  rw [this]
  cases (List.range m).all fun _ => true <;> rfl
end Go.Y
namespace Go.Y
theorem getLt {α : Type} {l : List α} {j : Nat} {x : α} (h : l[j]? = some x) : j < l.length := (List.getElem?_eq_some_iff.1 h).1
theorem inc_ext : ∀ {l l' : List Int}, Inc l → Inc l' → (∀ x, x ∈ l ↔ x ∈ l') → l = l'
  | [], [], _, _, _ => rfl
  | [], y :: r, _, _, h => by simpa using (h y).2 (by simp)
  | x :: r, [], _, _, h => by simpa using (h x).1 (by simp)
  | x :: r, y :: s, h1, h2, h => by
    obtain ⟨h3, h4⟩ := List.pairwise_cons.1 h1
    obtain ⟨h5, h6⟩ := List.pairwise_cons.1 h2
    have hxy : x = y := by
      have hx := (h x).1 (by simp)
      have hy := (h y).2 (by simp)
      rcases List.mem_cons.1 hx with e | hx
      · exact e
      · rcases List.mem_cons.1 hy with e | hy
        · exact e.symm
        · have := h3 _ hy
          have := h5 _ hx
          omega
    subst hxy
    refine congrArg _ (inc_ext h4 h6 fun z => ?_)
    have hz := h z
    simp only [List.mem_cons] at hz
    constructor
    · intro hm
      rcases hz.1 (.inr hm) with e | hm2
      · have := h3 _ hm; omega
      · exact hm2
    · intro hm
      rcases hz.2 (.inr hm) with e | hm2
      · have := h5 _ hm; omega
      · exact hm2
theorem zgo_mem : ∀ (l : List Int) (y x : Int), x ∈ y :: zComp.go y l ↔ x ∈ y :: l
  | [], y, x => Iff.rfl
  | z :: l, y, x => by
    simp only [zComp.go]
    by_cases h : z = y
    · subst h
      simp only [decide_true]
      rw [zgo_mem l z x]
      simp
    · simp only [h, decide_false]
      have := zgo_mem l z x
      simp only [List.mem_cons] at this ⊢
      rw [this]
theorem zComp_mem (l : List Int) (x : Int) : x ∈ zComp l ↔ x ∈ l := by
  cases l with
  | nil => exact Iff.rfl
  | cons y l => exact zgo_mem l y x
theorem zgo_inc : ∀ (l : List Int) (y : Int), (y :: l).Pairwise (· ≤ ·) → Inc (y :: zComp.go y l)
  | [], y, _ => List.pairwise_singleton _ _
  | z :: l, y, h => by
    obtain ⟨h1, h2⟩ := List.pairwise_cons.1 h
    simp only [zComp.go]
    by_cases he : z = y
    · subst he
      simp only [decide_true]
      exact zgo_inc l z h2
    · simp only [he, decide_false]
      have ih := zgo_inc l z h2
      refine List.pairwise_cons.2 ⟨fun x hx => ?_, ih⟩
      have hz := h1 z (by simp)
      have hx := (zgo_mem l z x).1 hx
      rcases List.mem_cons.1 hx with e | hx
      · omega
      · have := (List.pairwise_cons.1 h2).1 x hx
        omega
theorem zComp_inc {l : List Int} (h : l.Pairwise (· ≤ ·)) : Inc (zComp l) := by
  cases l with
  | nil => exact List.Pairwise.nil
  | cons y l => exact zgo_inc l y h
def setU (a b : List Int) : List Int := zComp ((a ++ b).mergeSort fun x y => decide (x ≤ y))
theorem setU_mem (a b : List Int) (x : Int) : x ∈ setU a b ↔ x ∈ a ∨ x ∈ b := by
  unfold setU
  rw [zComp_mem, List.mem_mergeSort, List.mem_append]
theorem setU_inc (a b : List Int) : Inc (setU a b) := by
  refine zComp_inc ?_
  have := List.pairwise_mergeSort (le := fun x y : Int => decide (x ≤ y)) (fun a b c h1 h2 => by simp only [decide_eq_true_eq] at *; omega) (fun a b => by simp only [Bool.or_eq_true, decide_eq_true_eq]; omega) (a ++ b)
  exact this.imp fun h => by simpa using h
theorem zgo_len : ∀ (l : List Int) (y : Int), (zComp.go y l).length ≤ l.length
  | [], _ => Nat.le_refl _
  | z :: l, y => by
    simp only [zComp.go]
    split
    · have := zgo_len l y; simp only [List.length_cons]; omega
    · have := zgo_len l z; simp only [List.length_cons]; omega
theorem setU_len (a b : List Int) : (setU a b).length ≤ a.length + b.length := by
  unfold setU
  have h : (zComp ((a ++ b).mergeSort fun x y => decide (x ≤ y))).length ≤ ((a ++ b).mergeSort fun x y => decide (x ≤ y)).length := by
    generalize (a ++ b).mergeSort (fun x y => decide (x ≤ y)) = l
    cases l with
    | nil => exact Nat.le_refl _
    | cons y l => have := zgo_len l y; simp only [zComp, List.length_cons]; omega
  rw [List.length_mergeSort, List.length_append] at h
  exact h
theorem c4_step (N : Nat) (k0 : (List (List Int)) × Int → Option (List Int)) (n : Nat) (s t9 : List (List Int)) (size t10 t11 : Int) (x : List Int) (h1 : t11 < t10) (h2 : ix t9 t11 = some x) (h3 : ¬ wr .i64 (size + len x) < 0) :
    slices_Concat_int_int_l4 N k0 (n + 1) s size t9 t10 t11 = slices_Concat_int_int_l4 N k0 n s (wr .i64 (size + len x)) t9 t10 (wr .i64 (t11 + 1)) := by
  rw [slices_Concat_int_int_l4, decide_eq_true h1, pIf_t]
  unfold pIdx
  rw [h2, Option.bind_some, decide_eq_false h3, pIf_f]
theorem c4_end (N : Nat) (k0 : (List (List Int)) × Int → Option (List Int)) (n : Nat) (s t9 : List (List Int)) (size t10 t11 : Int) (h1 : ¬ t11 < t10) : slices_Concat_int_int_l4 N k0 (n + 1) s size t9 t10 t11 = k0 (s, size) := by
  rw [slices_Concat_int_int_l4, decide_eq_false h1, pIf_f]
theorem c12_step (N : Nat) (k0 : List Int → Option (List Int)) (n : Nat) (t25 : List (List Int)) (t26 t27 : Int) (ns x : List Int) (h1 : t27 < t26) (h2 : ix t25 t27 = some x) (h3 : room 8 (len (ns ++ x)) = true) :
    slices_Concat_int_int_l12 N k0 (n + 1) t25 t26 t27 ns = slices_Concat_int_int_l12 N k0 n t25 t26 (wr .i64 (t27 + 1)) (ns ++ x) := by
  rw [slices_Concat_int_int_l12, decide_eq_true h1, pIf_t]
  unfold pIdx
  rw [h2, Option.bind_some, h3, pCk_t]
theorem c12_end (N : Nat) (k0 : List Int → Option (List Int)) (n : Nat) (t25 : List (List Int)) (t26 t27 : Int) (ns : List Int) (h1 : ¬ t27 < t26) : slices_Concat_int_int_l12 N k0 (n + 1) t25 t26 t27 ns = k0 ns := by
  rw [slices_Concat_int_int_l12, decide_eq_false h1, pIf_f]
theorem Concat_ok {N : Nat} (hN : 3 ≤ N) {a b : List Int} (h : (a.length + b.length) * 8 ≤ 140737488355328) : slices_Concat_int_int N [a, b] = some (a ++ b) := by
  obtain ⟨n, rfl⟩ : ∃ n, N = n + 3 := ⟨N - 3, by omega⟩
  have la : len a = ((a.length : Nat) : Int) := rfl
  have lb : len b = ((b.length : Nat) : Int) := rfl
  have w1 : wr .i64 ((0 : Int) + len a) = ((a.length : Nat) : Int) := by rw [la, wr_i64 (by omega) (by omega)]; omega
  have w2 : wr .i64 (((a.length : Nat) : Int) + len b) = ((a.length + b.length : Nat) : Int) := by rw [lb, wr_i64 (by omega) (by omega)]; omega
  have w3 : wr .i64 ((0 : Int) + 1) = 1 := by rw [wr_i64 (by omega) (by omega)]; omega
  have w4 : wr .i64 ((1 : Int) + 1) = 2 := by rw [wr_i64 (by omega) (by omega)]; omega
  have g1 : slices_Grow_int_int (n + 3) ((a.length + b.length : Nat) : Int) = some [] := by
    unfold slices_Grow_int_int zGrow
    rw [decide_eq_true (Int.natCast_nonneg _), room_of (by omega) (by omega)]; rfl
  have i0 : ix [a, b] 0 = some a := rfl
  have i1 : ix [a, b] 1 = some b := rfl
  have r1 : room 8 (len (([] : List Int) ++ a)) = true := room_of (by simp only [List.nil_append, la]; omega) (by simp only [List.nil_append, la]; omega)
  have r2 : room 8 (len ((([] : List Int) ++ a) ++ b)) = true := by
    have : len ((([] : List Int) ++ a) ++ b) = ((a.length + b.length : Nat) : Int) := by simp
    rw [this]; exact room_of (by omega) (by omega)
  have l2 : len [a, b] = 2 := rfl
  unfold slices_Concat_int_int
  rw [l2, c4_step _ _ _ _ _ _ _ _ a (by omega) i0 (by rw [w1]; omega), w1, w3, c4_step _ _ _ _ _ _ _ _ b (by omega) i1 (by rw [w2]; omega), w2, w4, c4_end _ _ _ _ _ _ _ _ (by omega)]
  simp only []
  rw [g1, pCall_s, l2, c12_step _ _ _ _ _ _ _ a (by omega) i0 r1, w3, c12_step _ _ _ _ _ _ _ b (by omega) i1 r2, w4, c12_end _ _ _ _ _ _ _ (by omega), List.nil_append]
theorem Union_ok {N : Nat} (hN : 3 ≤ N) {a b : List Int} (h : (a.length + b.length) * 8 ≤ 140737488355328) : bits_Union N a b = some (setU a b) := by
  unfold bits_Union
  rw [Concat_ok hN h, pCall_s]
  unfold slices_Sort_int_int zSort
  rw [decide_eq_true (show (a ++ b).length < 4611686018427387904 by simp; omega)]
  rfl
theorem shr1 {n : Int} (h0 : 0 ≤ n) (h1 : n ≤ 9223372036854775807) : wr .i64 (shrI .u64 (wr .u64 (wr .i64 n)) 1) = n / 2 := by
  rw [wr_i64 (by omega) h1, wr_u64 h0 (by omega)]
  have : shrI .u64 n 1 = n / 2 := by
    show n.fdiv (2 ^ min (1 : Int).toNat 64) = n / 2
    rw [show (2 : Int) ^ min (1 : Int).toNat 64 = 2 from rfl, Int.fdiv_eq_ediv_of_nonneg _ (by omega)]
  rw [this, wr_i64 (by omega) (by omega)]
theorem Less_ok (N : Nat) (x y : Int) : cmp_Less_int N x y = some (decide (x < y)) := by
  unfold cmp_Less_int cmp_isNaN_int
  simp
theorem Search_loop {N : Nat} (k0 : List Int × Int × Int × Int → Option (Int × Bool)) (l : List Int) (v m : Int) (hl : l.length ≤ 4611686018427387903) (hinc : Inc l) : ∀ (n i j : Nat), j - i < n → i ≤ j → j ≤ l.length →
    (∀ t x, l[t]? = some x → t < i → x < v) → (∀ t x, l[t]? = some x → j ≤ t → v ≤ x) →
    ∃ p : Nat, p ≤ l.length ∧ (∀ t x, l[t]? = some x → t < p → x < v) ∧ (∀ t x, l[t]? = some x → p ≤ t → v ≤ x) ∧ slices_BinarySearch_int_int_l4 N k0 n l v m i j = k0 (l, v, m, (p : Int))
  | 0, i, j, hn, hij, _, _, _ => by omega
  | n + 1, i, j, hn, hij, hj, h1, h2 => by
    rw [slices_BinarySearch_int_int_l4]
    by_cases h : i < j
    · rw [decide_eq_true (show (i : Int) < (j : Int) by omega), pIf_t]
      have hm : wr .i64 (shrI .u64 (wr .u64 (wr .i64 ((i : Int) + (j : Int)))) 1) = (((i + j) / 2 : Nat) : Int) := by
        rw [shr1 (by omega) (by omega)]; omega
      have hlt : (i + j) / 2 < l.length := by omega
      simp only [hm]
      rw [pIdx_lt hlt, Less_ok, pCall_s, pJoin_]
      by_cases hx : l[(i + j) / 2] < v
      · rw [decide_eq_true hx, pIf_t]
        simp only
        rw [wr_succ (m := l.length) hlt (by omega)]
        refine Search_loop k0 l v m hl hinc n ((i + j) / 2 + 1) j (by omega) (by omega) hj (fun t x ht hlt2 => ?_) h2
        by_cases he : t = (i + j) / 2
        · subst he
          rw [List.getElem?_eq_getElem hlt, Option.some.injEq] at ht
          omega
        · have := List.pairwise_iff_getElem.1 hinc t ((i + j) / 2) (getLt ht) hlt (by omega)
          rw [List.getElem?_eq_getElem (getLt ht), Option.some.injEq] at ht
          omega
      · rw [decide_eq_false hx, pIf_f]
        simp only
        refine Search_loop k0 l v m hl hinc n i ((i + j) / 2) (by omega) (by omega) (by omega) h1 (fun t x ht hlt2 => ?_)
        by_cases he : t = (i + j) / 2
        · subst he
          rw [List.getElem?_eq_getElem hlt, Option.some.injEq] at ht
          omega
        · have := List.pairwise_iff_getElem.1 hinc ((i + j) / 2) t hlt (getLt ht) (by omega)
          rw [List.getElem?_eq_getElem (getLt ht), Option.some.injEq] at ht
          omega
    · have he : i = j := by omega
      subst he
      rw [decide_eq_false (by omega), pIf_f]
      exact ⟨i, hj, h1, h2, rfl⟩
theorem bits_Has_ok {N : Nat} {l : List Int} (v : Int) (hl : l.length ≤ 4611686018427387903) (hN : l.length < N) (hinc : Inc l) : bits_Has N l v = some (decide (v ∈ l)) := by
  unfold bits_Has slices_BinarySearch_int_int
  obtain ⟨p, hp, h1, h2, h3⟩ := Search_loop (N := N) (fun x0 => pIdxG (decide (x0.2.2.2 < x0.2.2.1)) 0 x0.1 x0.2.2.2 fun x1 =>
      pIdxG ((decide (x0.2.2.2 < x0.2.2.1)) && (!(decide (x1 = x0.2.1)))) 0 x0.1 x0.2.2.2 fun x2 =>
      pCallG ((decide (x0.2.2.2 < x0.2.2.1)) && (!(decide (x1 = x0.2.1)))) false (slices_isNaN_int N x2) fun x3 =>
      pCallG (((decide (x0.2.2.2 < x0.2.2.1)) && (!(decide (x1 = x0.2.1)))) && x3) false (slices_isNaN_int N x0.2.1) fun x4 =>
      pLet (pick x3 x4 false) fun x5 =>
      pLet (pick (decide (x1 = x0.2.1)) true x5) fun x6 =>
      pLet (pick (decide (x0.2.2.2 < x0.2.2.1)) x6 false) fun x7 =>
      some (x0.2.2.2, x7)) l v (len l) hl hinc N 0 l.length (by omega) (by omega) (Nat.le_refl _) (fun t x ht h => by omega) (fun t x ht h => by have := getLt ht; omega)
  have h3 := h3
  rw [show ((0 : Nat) : Int) = 0 from rfl, show ((l.length : Nat) : Int) = len l from rfl] at h3
  rw [h3]
  by_cases hlt : p < l.length
  · simp only [decide_eq_true (show (p : Int) < len l by simp only [len_]; omega), pIdxG_t, Bool.true_and]
    rw [pIdx_lt hlt]
    by_cases he : l[p] = v
    · rw [decide_eq_true (show v ∈ l from he ▸ List.getElem_mem hlt)]
      simp [he]
    · have hni : v ∉ l := by
        intro hm
        obtain ⟨t, ht⟩ := List.getElem?_of_mem hm
        have hpv := h2 p _ (List.getElem?_eq_getElem hlt) (Nat.le_refl _)
        rcases Nat.lt_or_ge t p with h | h
        · have := h1 t v ht h; omega
        · rcases Nat.eq_or_lt_of_le h with h | h
          · subst h
            rw [List.getElem?_eq_getElem hlt, Option.some.injEq] at ht
            exact he ht
          · have := List.pairwise_iff_getElem.1 hinc p t hlt (getLt ht) h
            rw [List.getElem?_eq_getElem (getLt ht), Option.some.injEq] at ht
            omega
      rw [decide_eq_false hni]
      simp only [decide_eq_false he, Bool.not_false, pIdxG_t, pCallG_t]
      rw [pIdx_lt hlt]
      simp [slices_isNaN_int]
  · have hni : v ∉ l := by
      intro hm
      obtain ⟨t, ht⟩ := List.getElem?_of_mem hm
      have := h1 t v ht (by have := getLt ht; omega)
      omega
    rw [decide_eq_false hni]
    simp only [decide_eq_false (show ¬ (p : Int) < len l by simp only [len_]; omega), pIdxG_f, Bool.false_and, pCallG_f, pLet_]
    rfl
end Go.Y
namespace Go.Y
open Go
def cnt (l : List Int) (k : Int) : Nat := (l.filter fun x => decide (x < k)).length
theorem cnt_cons (x : Int) (l : List Int) (k : Int) : cnt (x :: l) k = (if x < k then 1 else 0) + cnt l k := by
  unfold cnt
  rw [List.filter_cons]
  by_cases h : x < k
  · rw [if_pos (decide_eq_true h), if_pos h, List.length_cons]; omega
  · rw [if_neg (by simp [h]), if_neg h]; omega
theorem cnt_step : ∀ {l : List Int} (k : Int), Inc l → cnt l (k + 1) = cnt l k + (if k ∈ l then 1 else 0)
  | [], k, _ => by simp [cnt]
  | x :: l, k, h => by
    obtain ⟨h1, h2⟩ := List.pairwise_cons.1 h
    rw [cnt_cons, cnt_cons, cnt_step k h2]
    by_cases hx : x = k
    · subst hx
      have hn : x ∉ l := fun hm => by have := h1 x hm; omega
      rw [if_neg (show ¬ x < x by omega), if_pos (show x < x + 1 by omega), if_neg hn, if_pos (by simp)]
      omega
    · have e : (if x < k + 1 then 1 else 0) = (if x < k then 1 else 0) := by
        by_cases hk : x < k
        · rw [if_pos hk, if_pos (by omega)]
        · rw [if_neg hk, if_neg (by omega)]
      have e2 : (k ∈ x :: l) ↔ k ∈ l := by simp [List.mem_cons, Ne.symm hx]
      rw [e]
      by_cases hk : k ∈ l
      · rw [if_pos hk, if_pos (e2.2 hk)]; omega
      · rw [if_neg hk, if_neg (fun h => hk (e2.1 h))]; omega
theorem cnt_get : ∀ {l : List Int} {k : Int}, Inc l → k ∈ l → l[cnt l k]? = some k
  | [], k, _, h => by simp at h
  | x :: l, k, h, hm => by
    obtain ⟨h1, h2⟩ := List.pairwise_cons.1 h
    rw [cnt_cons]
    rcases List.mem_cons.1 hm with rfl | hm
    · have h0 : cnt l k = 0 := by
        unfold cnt
        rw [List.length_eq_zero_iff, List.filter_eq_nil_iff]
        intro y hy
        have := h1 y hy
        simp; omega
      rw [if_neg (by omega), h0]; rfl
    · have := h1 k hm
      rw [if_pos this, Nat.add_comm, List.getElem?_cons_succ]
      exact cnt_get h2 hm
theorem cnt_all {l : List Int} {k : Int} (h : ∀ x ∈ l, x < k) : cnt l k = l.length := by
  unfold cnt
  rw [List.filter_eq_self.2 fun x hx => decide_eq_true (h x hx)]
theorem cnt_none {l : List Int} {k : Int} (h : ∀ x ∈ l, k ≤ x) : cnt l k = 0 := by
  unfold cnt
  rw [List.length_eq_zero_iff, List.filter_eq_nil_iff]
  intro x hx
  have := h x hx
  simp; omega
theorem cnt_le (l : List Int) (k : Int) : cnt l k ≤ l.length := List.length_filter_le _ _
theorem cnt_lt {l : List Int} {k : Int} (h : Inc l) (hm : k ∈ l) : cnt l k < l.length := getLt (cnt_get h hm)
theorem inc_snoc {l : List Int} {x : Int} (h : Inc l) (hx : ∀ y ∈ l, y < x) : Inc (l ++ [x]) := by
  unfold Inc at *
  rw [List.pairwise_append]
  exact ⟨h, by simp, fun a ha b hb => by simp only [List.mem_singleton] at hb; subst hb; exact hx a ha⟩
theorem Set_in (N : Nat) (k0 : Int × (List Int) × Int × List Int → Option (List Int)) (n : Nat) (hn0 : 0 < n) (hn : n ≤ 4096) (raw : List Int) (x : Int) (s : List Int) (hs : s.length ≤ 5000) : ∀ (m i fuel : Nat), i + m = 200 → m < fuel →
    ∃ s', (s' = s ∨ s' = s ++ [x]) ∧ avermentlaw03_Set_l7 N k0 fuel (n : Int) raw x (i : Int) s = k0 ((n : Int), raw, x, s') := by
  intro m
  induction m with
  | zero =>
    intro i fuel h hf
    obtain ⟨fuel, rfl⟩ : ∃ f, fuel = f + 1 := ⟨fuel - 1, by omega⟩
    refine ⟨s, .inl rfl, ?_⟩
    rw [avermentlaw03_Set_l7, pLet_, pick_and, show (decide ((i : Int) < len raw) && decide ((i : Int) < 200)) = false by
      rw [Bool.and_eq_false_iff]; right; exact decide_eq_false (by omega), pIf_f]
  | succ m ih =>
    intro i fuel h hf
    obtain ⟨fuel, rfl⟩ : ∃ f, fuel = f + 1 := ⟨fuel - 1, by omega⟩
    rw [avermentlaw03_Set_l7, pLet_, pick_and]
    by_cases hi : i < raw.length
    · rw [show (decide ((i : Int) < len raw) && decide ((i : Int) < 200)) = true by
        rw [Bool.and_eq_true]; exact ⟨decide_eq_true (by rw [len_]; omega), decide_eq_true (by omega)⟩, pIf_t, pIdx_lt hi, wr_u64 (n := (n : Int)) (by omega) (by omega),
        show (!decide ((n : Int) = 0)) = true by rw [decide_eq_false (by omega)]; rfl, pCk_t]
      by_cases hx : wr .i64 (remI (wr .u64 raw[i]) (n : Int)) = x
      · rw [decide_eq_true hx, pIf_t, room_of (by simp; omega) (by simp; omega), pCk_t]
        exact ⟨_, .inr rfl, rfl⟩
      · rw [decide_eq_false hx, pIf_f, wr_succ (m := 200) (by omega) (by omega)]
        exact ih (i + 1) fuel (by omega) (by omega)
    · rw [show (decide ((i : Int) < len raw) && decide ((i : Int) < 200)) = false by
        rw [Bool.and_eq_false_iff]; left; exact decide_eq_false (by rw [len_]; omega), pIf_f]
      exact ⟨s, .inl rfl, rfl⟩
theorem Set_out (N : Nat) (hN : 300 < N) (n : Nat) (hn : n ≤ 4096) (raw : List Int) : ∀ (m x fuel : Nat) (s : List Int), x + m = n → m < fuel → Inc s → (∀ y ∈ s, 0 ≤ y ∧ y < (x : Int)) → s.length ≤ x →
    ∃ s', avermentlaw03_Set_l4 N (fun x0 => some x0) fuel (n : Int) raw (x : Int) s = some s' ∧ Inc s' ∧ (∀ y ∈ s', 0 ≤ y ∧ y < (n : Int)) ∧ s'.length ≤ n := by
  intro m
  induction m with
  | zero =>
    intro x fuel s h hf hs hy hl
    obtain ⟨fuel, rfl⟩ : ∃ f, fuel = f + 1 := ⟨fuel - 1, by omega⟩
    refine ⟨s, ?_, hs, fun y h1 => by have := hy y h1; omega, by omega⟩
    rw [avermentlaw03_Set_l4, pLet_, pick_and, show (decide ((x : Int) < (n : Int)) && decide ((x : Int) < 4096)) = false by
      rw [Bool.and_eq_false_iff]; left; exact decide_eq_false (by omega), pIf_f]
  | succ m ih =>
    intro x fuel s h hf hs hy hl
    obtain ⟨fuel, rfl⟩ : ∃ f, fuel = f + 1 := ⟨fuel - 1, by omega⟩
    rw [avermentlaw03_Set_l4, pLet_, pick_and, show (decide ((x : Int) < (n : Int)) && decide ((x : Int) < 4096)) = true by
      rw [Bool.and_eq_true]; exact ⟨decide_eq_true (by omega), decide_eq_true (by omega)⟩, pIf_t]
    obtain ⟨s', h1, h2⟩ := Set_in N (fun x1 => avermentlaw03_Set_l4 N (fun x0 => some x0) fuel x1.1 x1.2.1 (wr .i64 (x1.2.2.1 + 1)) x1.2.2.2) n (by omega) hn raw (x : Int) s (by omega) 200 0 N (by omega) (by omega)
    have h2' : avermentlaw03_Set_l7 N (fun x1 => avermentlaw03_Set_l4 N (fun x0 => some x0) fuel x1.1 x1.2.1 (wr .i64 (x1.2.2.1 + 1)) x1.2.2.2) N (n : Int) raw (x : Int) 0 s = _ := h2
    rw [h2']
    simp only
    rw [wr_succ (m := 4096) (by omega) (by omega)]
    rcases h1 with rfl | rfl
    · exact ih (x + 1) fuel s' (by omega) (by omega) hs (fun y hm => by have := hy y hm; omega) (by omega)
    · refine ih (x + 1) fuel _ (by omega) (by omega) (inc_snoc hs fun y hm => (hy y hm).2) (fun y hm => ?_) (by simp; omega)
      rcases List.mem_append.1 hm with hm | hm
      · have := hy y hm; omega
      · simp only [List.mem_singleton] at hm; omega
theorem Set_ok (N : Nat) (hN : 5000 < N) (n : Nat) (hn : n ≤ 4096) (raw : List Int) : ∃ s, avermentlaw03_Set N (n : Int) raw = some s ∧ Inc s ∧ (∀ y ∈ s, 0 ≤ y ∧ y < (n : Int)) ∧ s.length ≤ n := by
  unfold avermentlaw03_Set
  exact Set_out N (by omega) n hn raw n 0 N [] (by omega) (by omega) (by simp [Inc]) (fun y hy => by simp at hy) (by simp)
theorem Minus_loop (N : Nat) (b : List Int) (hb : Inc b) (hbl : b.length < N) (hbl2 : b.length ≤ 100000) (a : List Int) (ha : a.length ≤ 100000) : ∀ (m i fuel : Nat), i + m = a.length → m < fuel →
    bits_Minus_l4 N (fun x0 => some x0) fuel b a (len a) (i : Int) ((a.take i).filter fun x => !decide (x ∈ b)) = some (a.filter fun x => !decide (x ∈ b)) := by
  intro m
  induction m with
  | zero =>
    intro i fuel h hf
    obtain ⟨fuel, rfl⟩ : ∃ f, fuel = f + 1 := ⟨fuel - 1, by omega⟩
    rw [bits_Minus_l4, decide_eq_false (by rw [len_]; omega), pIf_f, List.take_of_length_le (by omega)]
  | succ m ih =>
    intro i fuel h hf
    obtain ⟨fuel, rfl⟩ : ∃ f, fuel = f + 1 := ⟨fuel - 1, by omega⟩
    have hi : i < a.length := by omega
    have ht : (a.take (i + 1)).filter (fun x => !decide (x ∈ b)) = (a.take i).filter (fun x => !decide (x ∈ b)) ++ (if a[i] ∈ b then [] else [a[i]]) := by
      rw [List.take_succ_eq_append_getElem hi, List.filter_append]
      congr 1
      by_cases hm : a[i] ∈ b <;> simp [hm]
    have hfl : ((a.take i).filter fun x => !decide (x ∈ b)).length ≤ 100000 := Nat.le_trans (List.length_filter_le _ _) (by rw [List.length_take]; omega)
    rw [bits_Minus_l4, decide_eq_true (by rw [len_]; omega), pIf_t, pIdx_lt hi, bits_Has_ok _ (by omega) hbl hb, pCall_s]
    simp only [pJoin_]
    by_cases hm : a[i] ∈ b
    · rw [decide_eq_true hm]
      simp only [Bool.not_true, pIf_f]
      rw [wr_succ (m := 100000) (by omega) (by omega)]
      have := ih (i + 1) fuel (by omega) (by omega)
      rw [ht, if_pos hm, List.append_nil] at this
      exact this
    · rw [decide_eq_false hm]
      simp only [Bool.not_false, pIf_t]
      rw [room_of (by simp only [len_, List.length_append, List.length_singleton]; omega) (by simp only [len_, List.length_append, List.length_singleton]; omega), pCk_t, wr_succ (m := 100000) (by omega) (by omega)]
      have := ih (i + 1) fuel (by omega) (by omega)
      rw [ht, if_neg hm] at this
      exact this
theorem Minus_ok (N : Nat) (a b : List Int) (hb : Inc b) (hbl : b.length < N) (hbl2 : b.length ≤ 100000) (ha : a.length ≤ 100000) (haN : a.length < N) : bits_Minus N a b = some (a.filter fun x => !decide (x ∈ b)) := by
  unfold bits_Minus
  exact Minus_loop N b hb hbl hbl2 a ha a.length 0 N (by omega) (by omega)
theorem refHas_loop (N : Nat) (s : List Int) (x : Int) (hs : s.length ≤ 100000) : ∀ (m i fuel : Nat), i + m = s.length → m < fuel → x ∉ s.take i →
    avermentref03_Has_l3 N (fun _ => some false) (fun x0 => some x0) fuel s x (i : Int) = some (decide (x ∈ s)) := by
  intro m
  induction m with
  | zero =>
    intro i fuel h hf hx
    obtain ⟨fuel, rfl⟩ : ∃ f, fuel = f + 1 := ⟨fuel - 1, by omega⟩
    rw [List.take_of_length_le (by omega)] at hx
    rw [avermentref03_Has_l3, decide_eq_false (by rw [len_]; omega), pIf_f, decide_eq_false hx]
  | succ m ih =>
    intro i fuel h hf hx
    obtain ⟨fuel, rfl⟩ : ∃ f, fuel = f + 1 := ⟨fuel - 1, by omega⟩
    have hi : i < s.length := by omega
    rw [avermentref03_Has_l3, decide_eq_true (by rw [len_]; omega), pIf_t, pIdx_lt hi]
    by_cases he : s[i] = x
    · rw [decide_eq_true he, pIf_t, decide_eq_true (by rw [← he]; exact List.getElem_mem hi)]
    · rw [decide_eq_false he, pIf_f, wr_succ (m := 100000) (by omega) (by omega)]
      refine ih (i + 1) fuel (by omega) (by omega) fun hm => ?_
      rw [List.take_succ_eq_append_getElem hi, List.mem_append, List.mem_singleton] at hm
      rcases hm with hm | hm
      · exact hx hm
      · exact he hm.symm
theorem refHas_ok (N : Nat) (s : List Int) (x : Int) (hs : s.length ≤ 100000) (hN : s.length < N) : avermentref03_Has N s x = some (decide (x ∈ s)) := by
  unfold avermentref03_Has
  exact refHas_loop N s x hs s.length 0 N (by omega) (by omega) (by simp)
end Go.Y
namespace Go.Y
open Go
theorem eq_step {a b : List Int} {i : Nat} (hi : i < a.length) (hj : i < b.length) (h : a.take i = b.take i) (he : a[i] = b[i]) : a.take (i + 1) = b.take (i + 1) := by
  rw [List.take_succ_eq_append_getElem hi, List.take_succ_eq_append_getElem hj, h, he]
theorem Equal_loop (N : Nat) (a b : List Int) (hl : a.length = b.length) (hs : a.length ≤ 100000) : ∀ (m i fuel : Nat), i + m = a.length → m < fuel → a.take i = b.take i →
    slices_Equal_int_int_l5 N (fun _ => some true) (fun x0 => some x0) fuel a b (len a) (i : Int) = some (decide (a = b)) := by
  intro m
  induction m with
  | zero =>
    intro i fuel h hf ht
    obtain ⟨fuel, rfl⟩ : ∃ f, fuel = f + 1 := ⟨fuel - 1, by omega⟩
    rw [List.take_of_length_le (by omega), List.take_of_length_le (by omega)] at ht
    rw [slices_Equal_int_int_l5, decide_eq_false (by rw [len_]; omega), pIf_f, decide_eq_true ht]
  | succ m ih =>
    intro i fuel h hf ht
    obtain ⟨fuel, rfl⟩ : ∃ f, fuel = f + 1 := ⟨fuel - 1, by omega⟩
    have hi : i < a.length := by omega
    have hj : i < b.length := by omega
    rw [slices_Equal_int_int_l5, decide_eq_true (by rw [len_]; omega), pIf_t, pIdx_lt hi, pIdx_lt hj]
    by_cases he : a[i] = b[i]
    · rw [decide_eq_true he, Bool.not_true, pIf_f, wr_succ (m := 100000) (by omega) (by omega)]
      exact ih (i + 1) fuel (by omega) (by omega) (eq_step hi hj ht he)
    · rw [decide_eq_false he, Bool.not_false, pIf_t, decide_eq_false (fun e => he (by subst e; rfl))]
theorem bits_Same_ok (N : Nat) (a b : List Int) (hs : a.length ≤ 100000) (hN : a.length < N) : bits_Same N a b = some (decide (a = b)) := by
  unfold bits_Same slices_Equal_int_int
  by_cases hl : a.length = b.length
  · rw [show decide (len a = len b) = true by rw [len_, len_]; exact decide_eq_true (by omega), Bool.not_true, pIf_f]
    have := Equal_loop N a b hl hs a.length 0 N (by omega) (by omega) (by simp)
    have h0 : slices_Equal_int_int_l5 N (fun _ => some true) (fun x0 => some x0) N a b (len a) 0 = _ := this
    rw [h0, pCall_s]
  · rw [show decide (len a = len b) = false by rw [len_, len_]; exact decide_eq_false (by omega), Bool.not_false, pIf_t, pCall_s, decide_eq_false (fun e => hl (by rw [e]))]
theorem Same_loop (N : Nat) (a b : List Int) (hl : a.length = b.length) (hs : a.length ≤ 100000) : ∀ (m i fuel : Nat), i + m = a.length → m < fuel → a.take i = b.take i →
    avermentref01_Same_l5 N (fun _ => some true) (fun x0 => some x0) fuel a b (i : Int) = some (decide (a = b)) := by
  intro m
  induction m with
  | zero =>
    intro i fuel h hf ht
    obtain ⟨fuel, rfl⟩ : ∃ f, fuel = f + 1 := ⟨fuel - 1, by omega⟩
    rw [List.take_of_length_le (by omega), List.take_of_length_le (by omega)] at ht
    rw [avermentref01_Same_l5, decide_eq_false (by rw [len_]; omega), pIf_f, decide_eq_true ht]
  | succ m ih =>
    intro i fuel h hf ht
    obtain ⟨fuel, rfl⟩ : ∃ f, fuel = f + 1 := ⟨fuel - 1, by omega⟩
    have hi : i < a.length := by omega
    have hj : i < b.length := by omega
    rw [avermentref01_Same_l5, decide_eq_true (by rw [len_]; omega), pIf_t, pIdx_lt hi, pIdx_lt hj]
    by_cases he : a[i] = b[i]
    · rw [decide_eq_true he, Bool.not_true, pIf_f, wr_succ (m := 100000) (by omega) (by omega)]
      exact ih (i + 1) fuel (by omega) (by omega) (eq_step hi hj ht he)
    · rw [decide_eq_false he, Bool.not_false, pIf_t, decide_eq_false (fun e => he (by subst e; rfl))]
theorem ref01_Same_ok (N : Nat) (a b : List Int) (hs : a.length ≤ 100000) (hN : a.length < N) : avermentref01_Same N a b = some (decide (a = b)) := by
  unfold avermentref01_Same
  by_cases hl : a.length = b.length
  · rw [show decide (len a = len b) = true by rw [len_, len_]; exact decide_eq_true (by omega), Bool.not_true, pIf_f]
    exact Same_loop N a b hl hs a.length 0 N (by omega) (by omega) (by simp)
  · rw [show decide (len a = len b) = false by rw [len_, len_]; exact decide_eq_false (by omega), Bool.not_false, pIf_t, decide_eq_false (fun e => hl (by rw [e]))]
section
variable (N : Nat) (hN : 5000 < N) (k0 : Int × (List Int) × (List Int) × (List Int) × (List Int) × Bool × Int × Int → Option Bool) (k1 : Bool → Option Bool) (z : Int) (a b u m : List Int)
  (ha : Inc a) (hb : Inc b) (hu : Inc u) (hm : Inc m) (hal : a.length ≤ 60) (hbl : b.length ≤ 60) (hul : u.length ≤ 200) (hml : m.length ≤ 200)
  (hum : ∀ x, x ∈ u ↔ x ∈ a ∨ x ∈ b) (hmm : ∀ x, x ∈ m ↔ x ∈ a ∧ x ∉ b)
include hN ha hb hu hm hal hbl hul hml hum hmm in
theorem sets_step (fuel k : Nat) (hk : k < 60) (w : Bool) :
    avermentlaw03_BitsSets_l7 N k0 k1 (fuel + 1) z a b u m w (cnt u k : Int) (cnt m k : Int) (k : Int) = avermentlaw03_BitsSets_l7 N k0 k1 fuel z a b u m (w && (!decide ((k : Int) ∈ a) || decide ((k : Int) ∈ b))) (cnt u ((k + 1 : Nat) : Int) : Int) (cnt m ((k + 1 : Nat) : Int) : Int) ((k + 1 : Nat) : Int) := by
  have hcu := cnt_le u k
  have hcm := cnt_le m k
  rw [avermentlaw03_BitsSets_l7, decide_eq_true (by omega), pIf_t, refHas_ok N a _ (by omega) (by omega), pCall_s, refHas_ok N b _ (by omega) (by omega), pCall_s]
  simp only [pLet_, pJoin_, bits_Has_ok _ (show a.length ≤ 4611686018427387903 by omega) (show a.length < N by omega) ha, bits_Has_ok _ (show b.length ≤ 4611686018427387903 by omega) (show b.length < N by omega) hb, pCall_s]
  have e1 : ((k + 1 : Nat) : Int) = (k : Int) + 1 := by omega
  have e2 : wr .i64 ((k : Int) + 1) = ((k + 1 : Nat) : Int) := wr_succ (m := 60) hk (by omega)
  have su := cnt_step (k : Int) hu
  have sm := cnt_step (k : Int) hm
  have gu : (k : Int) ∈ u → ∀ f : Int → Option Bool, pIdx u (cnt u k : Int) f = f (k : Int) := fun h f => pIdx_nat (cnt_get hu h) f
  have gm : (k : Int) ∈ m → ∀ f : Int → Option Bool, pIdx m (cnt m k : Int) f = f (k : Int) := fun h f => pIdx_nat (cnt_get hm h) f
  have wu : (k : Int) ∈ u → wr .i64 ((cnt u k : Int) + 1) = (cnt u ((k + 1 : Nat) : Int) : Int) := fun h => by
    rw [e1, su, if_pos h, wr_i64 (by omega) (by omega)]; omega
  have wm : (k : Int) ∈ m → wr .i64 ((cnt m k : Int) + 1) = (cnt m ((k + 1 : Nat) : Int) : Int) := fun h => by
    rw [e1, sm, if_pos h, wr_i64 (by omega) (by omega)]; omega
  have nu : (k : Int) ∉ u → cnt u ((k + 1 : Nat) : Int) = cnt u (k : Int) := fun h => by rw [e1, su, if_neg h, Nat.add_zero]
  have nm : (k : Int) ∉ m → cnt m ((k + 1 : Nat) : Int) = cnt m (k : Int) := fun h => by rw [e1, sm, if_neg h, Nat.add_zero]
  have lu : (k : Int) ∈ u → decide (len u ≤ (cnt u k : Int)) = false := fun h => by
    have := cnt_lt hu h
    exact decide_eq_false (by rw [len_]; omega)
  have lm : (k : Int) ∈ m → decide (len m ≤ (cnt m k : Int)) = false := fun h => by
    have := cnt_lt hm h
    exact decide_eq_false (by rw [len_]; omega)
  by_cases pa : (k : Int) ∈ a
  · have ku : (k : Int) ∈ u := (hum _).2 (.inl pa)
    by_cases pb : (k : Int) ∈ b
    · have km : (k : Int) ∉ m := fun h => ((hmm _).1 h).2 pb
      simp only [pIdxG_t, decide_eq_true pa, decide_eq_true pb, Bool.not_true, pick_t, pick_f, pIf_t, pIf_f, gu ku, lu ku, wu ku, nm km, decide_true, beq_self_eq_true, Bool.not_false, pCallG_t, pCall_s, e2, pick_and, Bool.or_true, Bool.and_true, Bool.false_or]
    · have km : (k : Int) ∈ m := (hmm _).2 ⟨pa, pb⟩
      simp only [pIdxG_t, decide_eq_true pa, decide_eq_false pb, Bool.not_true, pick_t, pick_f, pIf_t, pIf_f, gu ku, lu ku, wu ku, gm km, lm km, wm km, decide_true, beq_self_eq_true, Bool.not_false, pCallG_t, pCall_s, e2, pick_and, Bool.or_false, Bool.and_false]
  · have km : (k : Int) ∉ m := fun h => pa ((hmm _).1 h).1
    by_cases pb : (k : Int) ∈ b
    · have ku : (k : Int) ∈ u := (hum _).2 (.inr pb)
      simp only [pIdxG_t, decide_eq_false pa, decide_eq_true pb, Bool.not_true, pick_t, pick_f, pIf_t, pIf_f, gu ku, lu ku, wu ku, nm km, decide_true, beq_self_eq_true, Bool.not_false, pCallG_t, pCall_s, e2, pick_and, Bool.or_true, Bool.and_true, Bool.true_or]
    · have ku : (k : Int) ∉ u := fun h => ((hum _).1 h).elim pa pb
      simp only [pIdxG_t, decide_eq_false pa, decide_eq_false pb, Bool.not_true, pick_t, pick_f, pIf_t, pIf_f, nu ku, nm km, decide_true, beq_self_eq_true, Bool.not_false, pCallG_t, pCall_s, e2, pick_and, Bool.or_true, Bool.and_true, Bool.true_or]
include hN ha hb hu hm hal hbl hul hml hum hmm in
theorem sets_run : ∀ (q k fuel : Nat) (w : Bool), k + q = 60 → q < fuel → w = decide (∀ x ∈ a, x < (k : Int) → x ∈ b) → (∀ x ∈ a, 0 ≤ x ∧ x < 60) → (∀ x ∈ b, 0 ≤ x ∧ x < 60) →
    avermentlaw03_BitsSets_l7 N k0 k1 fuel z a b u m w (cnt u k : Int) (cnt m k : Int) (k : Int) = k0 (z, a, b, u, m, decide (∀ x ∈ a, x ∈ b), (u.length : Int), (m.length : Int)) := by
  intro q
  induction q with
  | zero =>
    intro k fuel w h hf hw h1 h2
    obtain ⟨fuel, rfl⟩ : ∃ f, fuel = f + 1 := ⟨fuel - 1, by omega⟩
    obtain rfl : k = 60 := by omega
    have cu : cnt u ((60 : Nat) : Int) = u.length := cnt_all fun x hx => by
      rcases (hum x).1 hx with h | h
      · exact (h1 x h).2
      · exact (h2 x h).2
    have cm : cnt m ((60 : Nat) : Int) = m.length := cnt_all fun x hx => (h1 x ((hmm x).1 hx).1).2
    have hww : w = decide (∀ x ∈ a, x ∈ b) := by
      rw [hw, decide_eq_decide]
      exact ⟨fun h x hx => h x hx (h1 x hx).2, fun h x hx _ => h x hx⟩
    rw [avermentlaw03_BitsSets_l7, decide_eq_false (by omega), pIf_f, cu, cm, hww]
  | succ q ih =>
    intro k fuel w h hf hw h1 h2
    obtain ⟨fuel, rfl⟩ : ∃ f, fuel = f + 1 := ⟨fuel - 1, by omega⟩
    rw [sets_step N hN k0 k1 z a b u m ha hb hu hm hal hbl hul hml hum hmm fuel k (by omega) w]
    refine ih (k + 1) fuel _ (by omega) (by omega) ?_ h1 h2
    rw [hw]
    by_cases hall : ∀ x ∈ a, x < ((k + 1 : Nat) : Int) → x ∈ b
    · have h3 : ∀ x ∈ a, x < (k : Int) → x ∈ b := fun x hx hk => hall x hx (by omega)
      rw [decide_eq_true hall, decide_eq_true h3]
      by_cases pa : (k : Int) ∈ a
      · rw [decide_eq_true (hall _ pa (by omega))]; simp
      · rw [decide_eq_false pa]; simp
    · rw [decide_eq_false hall]
      by_cases h3 : ∀ x ∈ a, x < (k : Int) → x ∈ b
      · have : (k : Int) ∈ a ∧ (k : Int) ∉ b := by
          refine Classical.byContradiction fun hc => hall fun x hx hk => ?_
          by_cases hxk : x < (k : Int)
          · exact h3 x hx hxk
          · obtain rfl : x = (k : Int) := by omega
            exact Classical.byContradiction fun hb => hc ⟨hx, hb⟩
        rw [decide_eq_true this.1, decide_eq_false this.2]; simp
      · rw [decide_eq_false h3]; rfl
end
theorem BitsSets_plain (x y : List Int) (z : Int) : ∃ N, avermentlaw03_BitsSets N x y z = some true := by
  refine ⟨6000, ?_⟩
  have hlays : avermentlaw03_lays 6000 = some true := by kernel_rfl
  have hN : 5000 < 6000 := by omega
  revert hlays hN
  generalize 6000 = N
  intro hlays hN
  obtain ⟨a, a1, a2, a3, a4⟩ := Set_ok N hN 60 (by omega) x
  obtain ⟨b, b1, b2, b3, b4⟩ := Set_ok N hN 60 (by omega) y
  have a1 : avermentlaw03_Set N 60 x = some a := a1
  have b1 : avermentlaw03_Set N 60 y = some b := b1
  unfold avermentlaw03_BitsSets
  rw [a1, pCall_s, b1, pCall_s, Union_ok (by omega) (by omega), pCall_s, Minus_ok N a b b2 (by omega) (by omega) (by omega) (by omega), pCall_s]
  have hm : Inc (a.filter fun x => !decide (x ∈ b)) := List.Pairwise.filter _ a2
  have hfl := List.length_filter_le (fun x => !decide (x ∈ b)) a
  have hul := setU_len a b
  have hmm : ∀ x, x ∈ (a.filter fun x => !decide (x ∈ b)) ↔ x ∈ a ∧ x ∉ b := fun x => by simp [List.mem_filter]
  have hrun := fun k0 k1 => sets_run N hN k0 k1 z a b (setU a b) (a.filter fun x => !decide (x ∈ b)) a2 b2 (setU_inc a b) hm a4 b4 (by omega) (by omega) (setU_mem a b) hmm 60 0 N true (by omega) (by omega) (by
    rw [decide_eq_true]
    intro x hx h0
    have := (a3 x hx).1
    omega) a3 b3
  have c0 : ∀ l : List Int, (∀ x ∈ l, 0 ≤ x) → (cnt l ((0 : Nat) : Int) : Int) = 0 := fun l h => by rw [cnt_none (l := l) (k := ((0 : Nat) : Int)) fun x hx => h x hx]; rfl
  rw [c0 (setU a b) fun x hx => ((setU_mem a b x).1 hx).elim (fun h => (a3 x h).1) fun h => (b3 x h).1, c0 (a.filter fun x => !decide (x ∈ b)) fun x hx => (a3 x ((hmm x).1 hx).1).1] at hrun
  have hrun : ∀ k0 k1, avermentlaw03_BitsSets_l7 N k0 k1 N z a b (setU a b) (a.filter fun x => !decide (x ∈ b)) true 0 0 0 = _ := hrun
  rw [hrun]
  have hw : bits_Within N a b = some (decide (∀ x ∈ a, x ∈ b)) := by
    unfold bits_Within
    rw [Minus_ok N a b b2 (by omega) (by omega) (by omega) (by omega), pCall_s]
    congr 1
    rw [decide_eq_decide, len_]
    constructor
    · intro h x hx
      have h0 : (a.filter fun x => !decide (x ∈ b)) = [] := List.eq_nil_of_length_eq_zero (by omega)
      rw [List.filter_eq_nil_iff] at h0
      have := h0 x hx
      simpa using this
    · intro h
      have h0 : (a.filter fun x => !decide (x ∈ b)) = [] := by
        rw [List.filter_eq_nil_iff]
        intro x hx
        simp [h x hx]
      rw [h0]; rfl
  simp only [hlays, pCall_s, pLet_, pick_t, len_, decide_true, pCallG_t, hw, beq_self_eq_true, bits_Same_ok N a b (by omega) (by omega), ref01_Same_ok N a b (by omega) (by omega), bits_Has_ok z (show a.length ≤ 4611686018427387903 by omega) (show a.length < N by omega) a2, refHas_ok N a z (by omega) (by omega)]
end Go.Y
namespace Go.Y
open Go
theorem band_nat {k : IntKind} {x y : Nat} (hx : x < 2 ^ k.bits) (hy : y < 2 ^ k.bits) (hw : ∀ z : Nat, z < 2 ^ k.bits → z ≤ x → k.wrap (z : Int) = z) : band k (x : Int) (y : Int) = ((x &&& y : Nat) : Int) := by
  unfold band
  have e1 : (BitVec.ofInt k.bits (x : Int)) = BitVec.ofNat k.bits x := by simp
  have e2 : (BitVec.ofInt k.bits (y : Int)) = BitVec.ofNat k.bits y := by simp
  rw [e1, e2, BitVec.toNat_and, BitVec.toNat_ofNat, BitVec.toNat_ofNat, Nat.mod_eq_of_lt hx, Nat.mod_eq_of_lt hy]
  exact hw _ (Nat.lt_of_le_of_lt Nat.and_le_left hx) Nat.and_le_left
theorem band_u8 {x y : Nat} (hx : x < 256) (hy : y < 256) : band .u8 (x : Int) (y : Int) = ((x &&& y : Nat) : Int) :=
  band_nat (k := .u8) hx hy fun z h _ => wr_u8 (by omega) (by have : z < 256 := h; omega)
theorem band_u64 {x y : Nat} (hx : x < 2 ^ 64) (hy : y < 2 ^ 64) : band .u64 (x : Int) (y : Int) = ((x &&& y : Nat) : Int) :=
  band_nat (k := .u64) hx hy fun z h _ => wr_u64 (by omega) (by have : z < 2 ^ 64 := h; omega)
theorem bor_u64 {x y : Nat} (hx : x < 2 ^ 64) (hy : y < 2 ^ 64) : bor .u64 (x : Int) (y : Int) = ((x ||| y : Nat) : Int) := by
  unfold bor
  have e1 : (BitVec.ofInt IntKind.u64.bits (x : Int)) = BitVec.ofNat 64 x := by show BitVec.ofInt 64 (x : Int) = _; simp
  have e2 : (BitVec.ofInt IntKind.u64.bits (y : Int)) = BitVec.ofNat 64 y := by show BitVec.ofInt 64 (y : Int) = _; simp
  rw [e1, e2]
  show IntKind.u64.wrap ((BitVec.ofNat 64 x ||| BitVec.ofNat 64 y).toNat : Int) = _
  rw [BitVec.toNat_or, BitVec.toNat_ofNat, BitVec.toNat_ofNat, Nat.mod_eq_of_lt hx, Nat.mod_eq_of_lt hy]
  have := Nat.or_lt_two_pow hx hy
  exact wr_u64 (by omega) (by omega)
theorem bor_u8 {x y : Nat} (hx : x < 256) (hy : y < 256) : bor .u8 (x : Int) (y : Int) = ((x ||| y : Nat) : Int) := by
  unfold bor
  have e1 : (BitVec.ofInt IntKind.u8.bits (x : Int)) = BitVec.ofNat 8 x := by show BitVec.ofInt 8 (x : Int) = _; simp
  have e2 : (BitVec.ofInt IntKind.u8.bits (y : Int)) = BitVec.ofNat 8 y := by show BitVec.ofInt 8 (y : Int) = _; simp
  rw [e1, e2]
  show IntKind.u8.wrap ((BitVec.ofNat 8 x ||| BitVec.ofNat 8 y).toNat : Int) = _
  rw [BitVec.toNat_or, BitVec.toNat_ofNat, BitVec.toNat_ofNat, Nat.mod_eq_of_lt hx, Nat.mod_eq_of_lt hy]
  have := Nat.or_lt_two_pow (n := 8) hx hy
  exact wr_u8 (by omega) (by omega)
theorem and127 (x : Nat) : x &&& 127 = x % 128 := Nat.and_two_pow_sub_one_eq_mod x 7
theorem and128 {x : Nat} (h : x < 256) : (x &&& 128 = 0) ↔ x < 128 := by
  have : ∀ x : Fin 256, (x.val &&& 128 = 0) ↔ x.val < 128 := by decide +kernel
  exact this ⟨x, h⟩
theorem shl_u64 {x s : Nat} (hs : s < 64) (h : x * 2 ^ s < 2 ^ 64) : shlI .u64 (x : Int) (s : Int) = ((x * 2 ^ s : Nat) : Int) := by
  unfold shlI
  rw [show min (s : Int).toNat IntKind.u64.bits = s by show min (s : Int).toNat 64 = s; omega]
  rw [show (x : Int) * 2 ^ s = ((x * 2 ^ s : Nat) : Int) by push_cast; rfl]
  exact wr_u64 (by omega) (by omega)
theorem or_add {a c s : Nat} (h : a < 2 ^ s) : a ||| c * 2 ^ s = a + c * 2 ^ s := by
  have := Nat.shiftLeft_add_eq_or_of_lt h c
  rw [Nat.shiftLeft_eq] at this
  rw [Nat.or_comm, ← this]; omega
def vVal : List Nat → Nat
  | [] => 0
  | c :: r => c % 128 + 128 * vVal r
def vOk : List Nat → Bool
  | [] => false
  | [c] => decide (c < 128)
  | c :: d :: r => decide (128 ≤ c) && vOk (d :: r)
theorem vVal_append (a b : List Nat) : vVal (a ++ b) = vVal a + 128 ^ a.length * vVal b := by
  induction a with
  | nil => simp [vVal]
  | cons c a ih => simp only [List.cons_append, vVal, ih, List.length_cons, Nat.pow_succ]; grind
theorem vVal_lt (a : List Nat) : vVal a < 128 ^ a.length := by
  induction a with
  | nil => simp [vVal]
  | cons c a ih => simp only [vVal, List.length_cons, Nat.pow_succ]; omega
end Go.Y
namespace Go.Y
open Go
def ints (bs : List Nat) : List Int := bs.map fun n : Nat => (n : Int)
theorem ints_len (bs : List Nat) : (ints bs).length = bs.length := by simp [ints]
theorem ints_get {bs : List Nat} {i c : Nat} (h : bs[i]? = some c) : (ints bs)[i]? = some (c : Int) := by simp [ints, h]
def vFit : List Nat → Prop
  | [] => False
  | [c] => c < 128
  | c :: d :: r => 128 ≤ c ∧ c < 256 ∧ 0 < vVal (d :: r) ∧ vFit (d :: r)
theorem pow7 (i : Nat) : 128 ^ i = 2 ^ (7 * i) := by rw [show (128 : Nat) = 2 ^ 7 by rfl, ← Nat.pow_mul]
theorem step_val {a c i : Nat} (ha : a < 128 ^ i) (hi : i ≤ 9) (hc : c < 256) (h9 : i = 9 → c ≤ 1) :
    a + c % 128 * 128 ^ i < 2 ^ 64 ∧ bor .u64 (a : Int) (shlI .u64 (wr .u64 (band .u8 (c : Int) 127)) (wr .i64 (7 * (i : Int)))) = ((a + c % 128 * 128 ^ i : Nat) : Int) := by
  have hp : 0 < 128 ^ i := Nat.pow_pos (by omega)
  have hlt : (c % 128 + 1) * 128 ^ i ≤ 2 ^ 64 := by
    by_cases h : i = 9
    · have := h9 h
      subst h
      calc (c % 128 + 1) * 128 ^ 9 ≤ 2 * 128 ^ 9 := Nat.mul_le_mul_right _ (by omega)
        _ = 2 ^ 64 := by decide
    · calc (c % 128 + 1) * 128 ^ i ≤ 128 * 128 ^ 8 := Nat.mul_le_mul (by omega) (Nat.pow_le_pow_right (by omega) (by omega))
        _ ≤ 2 ^ 64 := by decide
  rw [Nat.add_mul, Nat.one_mul] at hlt
  have h1 : a + c % 128 * 128 ^ i < 2 ^ 64 := by omega
  refine ⟨h1, ?_⟩
  have e1 : band .u8 (c : Int) 127 = ((c % 128 : Nat) : Int) := by
    have := band_u8 (x := c) (y := 127) hc (by omega)
    rw [and127] at this
    exact this
  rw [e1, wr_u64 (by omega) (by omega), wr_i64 (by omega) (by omega)]
  have e2 := shl_u64 (x := c % 128) (s := 7 * i) (by omega) (by rw [← pow7]; omega)
  rw [show (7 * (i : Int)) = ((7 * i : Nat) : Int) by push_cast; rfl, e2, bor_u64 (by omega) (by rw [← pow7]; omega), or_add (by rw [← pow7]; exact ha), ← pow7]
theorem look_go (N : Nat) (k0 : (List Int) × Int → Option (Int × Int × Int × (List Int) × Int)) (k1 : Int × Int × Int × (List Int) × Int → Option (Int × Int × Int × (List Int) × Int)) (bs : List Nat) (hb : ∀ x ∈ bs, x < 256) (hl : bs.length ≤ 100000) :
    ∀ (m i a fuel : Nat), i ≤ bs.length → i + m = 10 → m < fuel → a < 128 ^ i →
      (p_wire_Reader_look_l4 N k0 k1 fuel 18446744073709551615 (a : Int) (i : Int) (ints bs) 0 = k0 (ints bs, 0)) ∨
      (∃ e : Int, (e = 2 ∨ e = 3 ∨ e = 4) ∧ p_wire_Reader_look_l4 N k0 k1 fuel 18446744073709551615 (a : Int) (i : Int) (ints bs) 0 = k1 (0, 0, e, ints bs, 0)) ∨
      ∃ ch rest, bs.drop i = ch ++ rest ∧ vFit ch ∧ (0 < i → 0 < vVal ch) ∧ i + ch.length ≤ 10 ∧ a + 128 ^ i * vVal ch < 2 ^ 64 ∧
        p_wire_Reader_look_l4 N k0 k1 fuel 18446744073709551615 (a : Int) (i : Int) (ints bs) 0 = k1 (((a + 128 ^ i * vVal ch : Nat) : Int), ((i + ch.length : Nat) : Int), 0, ints bs, 0) := by
  intro m
  induction m with
  | zero =>
    intro i a fuel hib hi hf ha
    obtain ⟨fuel, rfl⟩ : ∃ f, fuel = f + 1 := ⟨fuel - 1, by omega⟩
    left
    simp only [p_wire_Reader_look_l4]
    rw [show decide ((i : Int) < 10) = false by simp; omega]
    rfl
  | succ m ih =>
    intro i a fuel hib hi hf ha
    obtain ⟨fuel, rfl⟩ : ∃ f, fuel = f + 1 := ⟨fuel - 1, by omega⟩
    have hw : wr .i64 (0 + (i : Int)) = (i : Int) := by rw [Int.zero_add]; exact wr_i64 (by omega) (by omega)
    simp only [p_wire_Reader_look_l4]
    rw [show decide ((i : Int) < 10) = true by simp; omega, pIf_t]
    simp only [hw, len_, ints_len]
    by_cases he : i = bs.length
    · rw [show decide ((i : Int) = (bs.length : Int)) = true by simp; omega, pIf_t]
      exact .inr (.inl ⟨2, .inl rfl, rfl⟩)
    · rw [show decide ((i : Int) = (bs.length : Int)) = false by simp; omega, pIf_f]
      by_cases hil : i < bs.length
      case neg => exact absurd hil (by omega)
      obtain ⟨c, hc⟩ : ∃ c, bs[i]? = some c := ⟨bs[i], List.getElem?_eq_getElem hil⟩
      have hc256 : c < 256 := hb c (List.mem_of_getElem? hc)
      rw [pIdx_nat (ints_get hc)]
      simp only [pLet_, pick_and]
      by_cases h9 : i = 9 ∧ 1 < c
      · rw [show (decide ((i : Int) = 9) && decide (1 < (c : Int))) = true by simp; omega, pIf_t]
        exact .inr (.inl ⟨3, .inr (.inl rfl), rfl⟩)
      · rw [show (decide ((i : Int) = 9) && decide (1 < (c : Int))) = false by simp; omega, pIf_f]
        have h7 : wr .i64 (7 * (i : Int)) = 7 * (i : Int) := wr_i64 (by omega) (by omega)
        rw [show decide (0 ≤ wr .i64 (7 * (i : Int))) = true by rw [h7]; exact decide_eq_true (by omega), pCk_t]
        obtain ⟨hv1, hv2⟩ := step_val ha (by omega) hc256 (fun h => by omega)
        simp only [hv2]
        have hb128 : band .u8 (c : Int) 128 = ((c &&& 128 : Nat) : Int) := band_u8 (x := c) (y := 128) hc256 (by omega)
        have hd : bs.drop i = c :: bs.drop (i + 1) := by
          rw [List.drop_eq_getElem_cons hil]
          rw [List.getElem?_eq_getElem hil, Option.some.injEq] at hc
          rw [hc]
        by_cases hcc : c < 128
        · rw [show (!decide (band .u8 (c : Int) 128 = 0)) = false by rw [hb128, (and128 hc256).2 hcc]; rfl, pIf_f]
          by_cases h0 : c = 0 ∧ 0 < i
          · rw [show (decide ((c : Int) = 0) && decide (0 < (i : Int))) = true by simp; omega, pIf_t]
            exact .inr (.inl ⟨3, .inr (.inl rfl), rfl⟩)
          · rw [show (decide ((c : Int) = 0) && decide (0 < (i : Int))) = false by simp; omega, pIf_f]
            rw [show decide ((18446744073709551615 : Int) < ((a + c % 128 * 128 ^ i : Nat) : Int)) = false by simp only [decide_eq_false_iff_not]; omega, pIf_f]
            refine .inr (.inr ⟨[c], bs.drop (i + 1), hd, hcc, fun h => ?_, by simp; omega, ?_, ?_⟩)
            · simp only [vVal]; omega
            · simp only [vVal]; rw [Nat.mul_comm]; omega
            · have e1 : wr .i64 ((i : Int) + 1) = ((i + 1 : Nat) : Int) := wr_succ (m := 10) (by omega) (by omega)
              rw [e1]
              simp only [vVal, List.length_singleton, Nat.mul_zero, Nat.add_zero]
              rw [Nat.mul_comm (128 ^ i)]
        · rw [show (!decide (band .u8 (c : Int) 128 = 0)) = true by
            rw [hb128]
            have : ¬ c &&& 128 = 0 := fun h => hcc ((and128 hc256).1 h)
            simp; omega, pIf_t]
          have e1 : wr .i64 ((i : Int) + 1) = ((i + 1 : Nat) : Int) := wr_succ (m := 10) (by omega) (by omega)
          rw [e1]
          have ha' : a + c % 128 * 128 ^ i < 128 ^ (i + 1) := by
            rw [Nat.pow_succ]
            have : c % 128 * 128 ^ i ≤ 127 * 128 ^ i := Nat.mul_le_mul_right _ (by omega)
            omega
          rcases ih (i + 1) (a + c % 128 * 128 ^ i) fuel (by omega) (by omega) (by omega) ha' with h | ⟨e, h1, h2⟩ | ⟨ch, rest, h1, h2, h3, h4, h5, h6⟩
          · exact .inl h
          · exact .inr (.inl ⟨e, h1, h2⟩)
          · have hval : a + c % 128 * 128 ^ i + 128 ^ (i + 1) * vVal ch = a + 128 ^ i * vVal (c :: ch) := by
              simp only [vVal, Nat.pow_succ]; grind
            refine .inr (.inr ⟨c :: ch, rest, by rw [hd, h1]; rfl, ?_, fun _ => ?_, by simp only [List.length_cons]; omega, by rw [← hval]; exact h5, ?_⟩)
            · cases ch with
              | nil => exact h2.elim
              | cons d r => exact ⟨by omega, hc256, h3 (by omega), h2⟩
            · have := h3 (by omega)
              simp only [vVal]; omega
            · rw [h6, hval]
              simp only [List.length_cons]
              rw [show i + 1 + ch.length = i + (ch.length + 1) by omega]
end Go.Y
namespace Go.Y
open Go
theorem or128 {x : Nat} (h : x < 128) : x ||| 128 = x + 128 := by
  have : ∀ x : Fin 128, x.val ||| 128 = x.val + 128 := by decide +kernel
  exact this ⟨x, h⟩
theorem byte_eq (N : Nat) (c : Nat) (w : List Nat) (hw : w.length ≤ 100000) : p_wire_Writer_Byte N (c : Int) (ints w) = some (ints (w ++ [c])) := by
  unfold p_wire_Writer_Byte
  rw [room_of (by simp [ints_len]; omega) (by simp [ints_len]; omega), pCk_t]
  simp [ints]
theorem enc_go (N : Nat) : ∀ (ch w : List Nat) (fuel : Nat), vFit ch → ch.length < fuel → w.length + ch.length ≤ 100000 → vVal ch < 2 ^ 64 →
    p_wire_Writer_Uint_l1 N (fun x0 => pCall (p_wire_Writer_Byte N (wr .u8 x0.1) x0.2) fun x1 => some x1) fuel (vVal ch : Int) (ints w) = some (ints (w ++ ch))
  | [], w, fuel, hv, hf, hw, h64 => hv.elim
  | [c], w, fuel, hv, hf, hw, h64 => by
    obtain ⟨fuel, rfl⟩ : ∃ f, fuel = f + 1 := ⟨fuel - 1, by omega⟩
    have hc : c < 128 := hv
    have hval : vVal [c] = c := by simp only [vVal]; omega
    simp only [p_wire_Writer_Uint_l1, hval]
    rw [show decide ((127 : Int) < (c : Int)) = false by simp only [decide_eq_false_iff_not]; omega, pIf_f]
    simp only [List.length_singleton] at hw
    rw [wr_u8 (by omega) (by omega), byte_eq N c w (by omega)]
    rfl
  | c :: d :: r, w, fuel, hv, hf, hw, h64 => by
    obtain ⟨fuel, rfl⟩ : ∃ f, fuel = f + 1 := ⟨fuel - 1, by omega⟩
    obtain ⟨h1, h2, h3, h4⟩ := hv
    have hval : vVal (c :: d :: r) = c % 128 + 128 * vVal (d :: r) := rfl
    generalize hv' : vVal (c :: d :: r) = n at *
    simp only [p_wire_Writer_Uint_l1]
    rw [show decide ((127 : Int) < (n : Int)) = true by simp only [decide_eq_true_eq]; omega, pIf_t]
    have e1 : band .u64 (n : Int) 127 = ((n % 128 : Nat) : Int) := by
      have := band_u64 (x := n) (y := 127) h64 (by omega)
      rw [and127] at this
      exact this
    have e2 : bor .u8 (wr .u8 (band .u64 (n : Int) 127)) 128 = (c : Int) := by
      rw [e1, wr_u8 (by omega) (by omega)]
      have := bor_u8 (x := n % 128) (y := 128) (by omega) (by omega)
      rw [or128 (by omega)] at this
      rw [show (128 : Int) = ((128 : Nat) : Int) by rfl, this]
      omega
    have e3 : shrI .u64 (n : Int) 7 = (vVal (d :: r) : Int) := by
      unfold shrI
      rw [show min (7 : Int).toNat IntKind.u64.bits = 7 by rfl, show ((2 : Int) ^ 7) = 128 by rfl, Int.fdiv_eq_ediv_of_nonneg _ (by omega)]
      omega
    simp only [List.length_cons] at hw hf
    rw [e2, byte_eq N c w (by omega), pCall_s, e3]
    have := enc_go N (d :: r) (w ++ [c]) fuel h4 (by simp only [List.length_cons]; omega) (by simp only [List.length_append, List.length_cons, List.length_nil]; omega) (by omega)
    rw [this]
    simp
theorem enc_eq (N : Nat) (ch : List Nat) (hv : vFit ch) (hf : ch.length < N) (hl : ch.length ≤ 100000) (h64 : vVal ch < 2 ^ 64) : p_wire_Writer_Uint N (vVal ch : Int) [] = some (ints ch) := by
  unfold p_wire_Writer_Uint
  exact enc_go N ch [] N hv hf (by simpa using hl) h64
theorem ofInt_nat64 (x : Nat) : BitVec.ofInt 64 (x : Int) = BitVec.ofNat 64 x := by simp
theorem bxor_u64 {x y : Nat} (hx : x < 2 ^ 64) (hy : y < 2 ^ 64) : bxor .u64 (x : Int) (y : Int) = ((x ^^^ y : Nat) : Int) := by
  unfold bxor
  show IntKind.u64.wrap ((BitVec.ofInt 64 (x : Int) ^^^ BitVec.ofInt 64 (y : Int)).toNat : Int) = _
  rw [ofInt_nat64, ofInt_nat64, BitVec.toNat_xor, BitVec.toNat_ofNat, BitVec.toNat_ofNat, Nat.mod_eq_of_lt hx, Nat.mod_eq_of_lt hy]
  have := Nat.xor_lt_two_pow hx hy
  exact wr_u64 (by omega) (by omega)
theorem xor_ones {x : Nat} (hx : x < 2 ^ 64) : x ^^^ (2 ^ 64 - 1) = 2 ^ 64 - 1 - x := by
  have h := BitVec.xor_allOnes (x := BitVec.ofNat 64 x)
  have h2 := congrArg BitVec.toNat h
  rw [BitVec.toNat_xor, BitVec.toNat_allOnes, BitVec.toNat_ofNat, Nat.mod_eq_of_lt hx, BitVec.toNat_not, BitVec.toNat_ofNat, Nat.mod_eq_of_lt hx] at h2
  exact h2
theorem bxor_i64_0 {k : Nat} (hk : k < 2 ^ 63) : bxor .i64 (k : Int) 0 = (k : Int) := by
  unfold bxor
  show IntKind.i64.wrap ((BitVec.ofInt 64 (k : Int) ^^^ BitVec.ofInt 64 ((0 : Nat) : Int)).toNat : Int) = _
  rw [ofInt_nat64, ofInt_nat64, BitVec.toNat_xor, BitVec.toNat_ofNat, BitVec.toNat_ofNat, Nat.mod_eq_of_lt (by omega)]
  rw [show k ^^^ 0 % 2 ^ 64 = k by simp]
  exact wr_i64 (by omega) (by omega)
theorem bxor_i64_m {k : Nat} (hk : k < 2 ^ 63) : bxor .i64 (k : Int) (-1) = -(k : Int) - 1 := by
  unfold bxor
  show IntKind.i64.wrap ((BitVec.ofInt 64 (k : Int) ^^^ BitVec.ofInt 64 (-1)).toNat : Int) = _
  rw [ofInt_nat64, show BitVec.ofInt 64 (-1) = BitVec.allOnes 64 by decide, BitVec.xor_allOnes, BitVec.toNat_not, BitVec.toNat_ofNat, Nat.mod_eq_of_lt (by omega)]
  have e : ((2 ^ 64 - 1 - k : Nat) : Int) = 18446744073709551615 - (k : Int) := by omega
  rw [e]
  have h : IntKind.i64.wrap (18446744073709551615 - (k : Int)) = IntKind.i64.wrap (-(k : Int) - 1) := by
    unfold IntKind.wrap
    have h2 : (18446744073709551615 - (k : Int)) % 2 ^ IntKind.i64.bits = (-(k : Int) - 1) % 2 ^ IntKind.i64.bits := by
      show (18446744073709551615 - (k : Int)) % 18446744073709551616 = (-(k : Int) - 1) % 18446744073709551616
      omega
    rw [h2]
  rw [h]
  exact wr_i64 (by omega) (by omega)
def zag (n : Int) : Int := bxor .i64 (wr .i64 (shrI .u64 n 1)) (wr .i64 (0 - (wr .i64 (band .u64 n 1))))
def zig (m : Int) : Int := bxor .u64 (shlI .u64 (wr .u64 m) 1) (wr .u64 (shrI .i64 m 63))
theorem zig_zag {n : Nat} (hn : n < 2 ^ 64) : zig (zag (n : Int)) = (n : Int) := by
  have e1 : shrI .u64 (n : Int) 1 = ((n / 2 : Nat) : Int) := by
    unfold shrI
    rw [show min (1 : Int).toNat IntKind.u64.bits = 1 by rfl, show ((2 : Int) ^ 1) = 2 by rfl, Int.fdiv_eq_ediv_of_nonneg _ (by omega)]
    omega
  have e2 : band .u64 (n : Int) 1 = ((n % 2 : Nat) : Int) := by
    have := band_u64 (x := n) (y := 1) hn (by omega)
    rw [Nat.and_one_is_mod] at this
    exact this
  have e3 : wr .i64 ((n / 2 : Nat) : Int) = ((n / 2 : Nat) : Int) := wr_i64 (by omega) (by omega)
  have e4 : wr .i64 ((n % 2 : Nat) : Int) = ((n % 2 : Nat) : Int) := wr_i64 (by omega) (by omega)
  have e5 : wr .i64 (0 - ((n % 2 : Nat) : Int)) = 0 - ((n % 2 : Nat) : Int) := wr_i64 (by omega) (by omega)
  unfold zag
  rw [e1, e2, e3, e4, e5]
  rcases Nat.mod_two_eq_zero_or_one n with h | h
  · rw [h, show (0 : Int) - ((0 : Nat) : Int) = 0 by rfl, bxor_i64_0 (by omega)]
    unfold zig
    have f1 : shlI .u64 (wr .u64 ((n / 2 : Nat) : Int)) 1 = (n : Int) := by
      rw [wr_u64 (by omega) (by omega)]
      have := shl_u64 (x := n / 2) (s := 1) (by omega) (by omega)
      rw [show (1 : Int) = ((1 : Nat) : Int) by rfl, this]
      omega
    have f2 : shrI .i64 ((n / 2 : Nat) : Int) 63 = 0 := by
      unfold shrI
      rw [show min (63 : Int).toNat IntKind.i64.bits = 63 by rfl, Int.fdiv_eq_ediv_of_nonneg _ (by decide)]
      rw [show ((2 : Int) ^ 63) = 9223372036854775808 by rfl]
      omega
    rw [f1, f2, show wr .u64 0 = ((0 : Nat) : Int) by rfl, bxor_u64 hn (by omega), Nat.xor_zero]
  · rw [h, show (0 : Int) - ((1 : Nat) : Int) = -1 by rfl, bxor_i64_m (by omega)]
    unfold zig
    have f1 : shlI .u64 (wr .u64 (-((n / 2 : Nat) : Int) - 1)) 1 = ((2 ^ 64 - 1 - n : Nat) : Int) := by
      unfold shlI
      rw [show min (1 : Int).toNat IntKind.u64.bits = 1 by rfl, show ((2 : Int) ^ 1) = 2 by rfl]
      show wr .u64 _ = _
      rw [wr_u64_mod, wr_u64_mod]
      omega
    have f2 : shrI .i64 (-((n / 2 : Nat) : Int) - 1) 63 = -1 := by
      unfold shrI
      rw [show min (63 : Int).toNat IntKind.i64.bits = 63 by rfl, Int.fdiv_eq_ediv_of_nonneg _ (by decide)]
      rw [show ((2 : Int) ^ 63) = 9223372036854775808 by rfl]
      omega
    rw [f1, f2, show wr .u64 (-1) = ((2 ^ 64 - 1 : Nat) : Int) by rfl, bxor_u64 (by omega) (by omega), xor_ones (by omega)]
    omega
end Go.Y
namespace Go.Y
open Go
theorem clone_eq (N : Nat) (bs : List Nat) (hl : bs.length ≤ 100000) : slices_Clone_byte_byte N (ints bs) = some (ints bs) := by
  have h : pCk (room 1 (len ([] ++ ints bs))) (some ([] ++ ints bs)) = some (ints bs) := by
    rw [room_of (by simp [ints_len]; omega) (by simp [ints_len]; omega), pCk_t]; rfl
  unfold slices_Clone_byte_byte
  rw [h]
  cases bs with
  | nil =>
    show pBoth _ _ = _
    unfold pBoth
    exact if_pos rfl
  | cons c r => rfl
theorem read_eq (N : Nat) (bs : List Nat) (hl : bs.length ≤ 100000) : wire_Read N (ints bs) = some (ints bs, 0) := by
  unfold wire_Read
  rw [clone_eq N bs hl]; rfl
theorem uint_eq (N : Nat) (hN : 10 < N) (bs : List Nat) (hb : ∀ x ∈ bs, x < 256) (hl : bs.length ≤ 100000) :
    (∃ e : Err, errNil e = false ∧ p_wire_Reader_Uint N 18446744073709551615 (ints bs) 0 = some (0, e, ints bs, 0)) ∨
    ∃ ch rest, bs = ch ++ rest ∧ vFit ch ∧ ch.length ≤ 10 ∧ vVal ch < 2 ^ 64 ∧ p_wire_Reader_Uint N 18446744073709551615 (ints bs) 0 = some ((vVal ch : Int), Err.nil, ints bs, (ch.length : Int)) := by
  have err : ∀ e : Int, (e = 2 ∨ e = 3 ∨ e = 4) → p_wire_Reader_look N 18446744073709551615 (ints bs) 0 = some (0, 0, e, ints bs, 0) → ∃ e : Err, errNil e = false ∧ p_wire_Reader_Uint N 18446744073709551615 (ints bs) 0 = some (0, e, ints bs, 0) := by
    intro e he h
    unfold p_wire_Reader_Uint
    rw [h]
    rcases he with rfl | rfl | rfl <;> exact ⟨_, rfl, rfl⟩
  have hg := look_go N (fun x0 => some (0, 0, 3, x0.1, x0.2)) (fun x0 => some x0) bs hb hl 10 0 0 N (by omega) rfl hN (by decide)
  have hlk : p_wire_Reader_look N 18446744073709551615 (ints bs) 0 = p_wire_Reader_look_l4 N (fun x0 => some (0, 0, 3, x0.1, x0.2)) (fun x0 => some x0) N 18446744073709551615 ((0 : Nat) : Int) ((0 : Nat) : Int) (ints bs) 0 := rfl
  rw [← hlk] at hg
  rcases hg with h | ⟨e, he, h⟩ | ⟨ch, rest, h1, h2, _, h4, h5, h6⟩
  · exact .inl (err 3 (.inr (.inl rfl)) h)
  · exact .inl (err e he h)
  · refine .inr ⟨ch, rest, by simpa using h1, h2, by omega, by simpa using h5, ?_⟩
    unfold p_wire_Reader_Uint
    rw [h6]
    simp only [Nat.pow_zero, Nat.one_mul, Nat.zero_add, pCall_s, decide_true, Bool.not_true, pIf_f]
    rw [Int.zero_add, wr_i64 (by omega) (by omega)]
theorem sub_eq {bs : List Nat} {n : Nat} : sub (ints bs) 0 (n : Int) = ints (bs.take n) := by
  simp [sub, ints, List.map_take]
theorem bytes_of {l : List Int} (h : ∀ x ∈ l, 0 ≤ x ∧ x ≤ 255) : ∃ bs : List Nat, l = ints bs ∧ ∀ x ∈ bs, x < 256 := by
  refine ⟨l.map Int.toNat, ?_, ?_⟩
  · rw [ints, List.map_map]
    conv => lhs; rw [← List.map_id l]
    refine List.map_congr_left fun x hx => ?_
    have := h x hx
    simp only [id, Function.comp]
    omega
  · intro x hx
    obtain ⟨y, hy, rfl⟩ := List.mem_map.1 hx
    have := h y hy
    omega
end Go.Y
namespace Go.Y
open Go
theorem mn_bs {bs : List Nat} (k : Nat) : ∃ m : Nat, mnI (len (ints bs)) (k : Int) = (m : Int) ∧ m ≤ bs.length ∧ m ≤ k := by
  refine ⟨min bs.length k, ?_, by omega, by omega⟩
  unfold mnI
  rw [len_, ints_len]
  cases hd : decide ((k : Int) < (bs.length : Int)) with
  | true => have := of_decide_eq_true hd; simp only; omega
  | false => have := of_decide_eq_false hd; simp only; omega
theorem setI_len {α : Type} (xs : List α) (i : Int) (v : α) : (setI xs i v).length = xs.length := by simp [setI]
theorem raw_all (N : Nat) (bs : List Nat) (hl : bs.length ≤ 1000) : p_wire_Reader_Raw N (bs.length : Int) (ints bs) 0 = some (ints bs, Err.nil, ints bs, (bs.length : Int)) := by
  unfold p_wire_Reader_Raw
  have h1 : p_wire_Reader_Left N (ints bs) 0 = some ((bs.length : Int), ints bs, 0) := by
    unfold p_wire_Reader_Left
    rw [len_, ints_len, Int.sub_zero, wr_i64 (by omega) (by omega)]
  rw [show decide ((bs.length : Int) < 0) = false by simp]
  simp only [pLet_, pick_f, pIf_f, h1, pCall_s]
  have h2 : wr .i64 (0 + (bs.length : Int)) = (bs.length : Int) := by rw [Int.zero_add]; exact wr_i64 (by omega) (by omega)
  have h3 : wr .i64 ((bs.length : Int) - (bs.length : Int)) = 0 := by rw [Int.sub_self]; exact wr_i64 (by omega) (by omega)
  rw [show decide ((bs.length : Int) < (bs.length : Int)) = false by simp, pIf_f]
  simp only [h2, h3, len_, ints_len]
  rw [show (decide (0 ≤ (bs.length : Int)) && decide ((bs.length : Int) ≤ (bs.length : Int))) = true by simp, pCk_t,
    show (decide ((0 : Int) ≤ 0) && decide (0 ≤ (bs.length : Int))) = true by simp, pCk_t]
  have h4 : sub (ints bs) 0 (bs.length : Int) = ints bs := by rw [sub_eq, List.take_length]
  rw [h4, clone_eq N bs (by omega)]
  rfl
theorem toStr_app (a b : List Int) : toStr (a ++ b) = toStr a ++ toStr b := by simp [toStr]
end Go.Y
namespace Go.Y
open Go
theorem vEx : ∀ (k n : Nat), n < 128 ^ (k + 1) → ∃ ch, vFit ch ∧ vVal ch = n ∧ ch.length ≤ k + 1
  | 0, n, h => ⟨[n], show n < 128 by simpa using h, by simp only [vVal]; omega, by simp⟩
  | k + 1, n, h => by
    by_cases hn : n < 128
    · exact ⟨[n], hn, by simp only [vVal]; omega, by simp⟩
    · obtain ⟨ch, h1, h2, h3⟩ := vEx k (n / 128) (by rw [Nat.pow_succ] at h; omega)
      cases ch with
      | nil => exact h1.elim
      | cons d r =>
        refine ⟨(n % 128 + 128) :: d :: r, ⟨by omega, by omega, by rw [h2]; omega, h1⟩, ?_, by simp only [List.length_cons] at h3 ⊢; omega⟩
        show (n % 128 + 128) % 128 + 128 * vVal (d :: r) = n
        rw [h2]; omega
theorem vEx64 {n : Nat} (h : n < 2 ^ 64) : ∃ ch, vFit ch ∧ vVal ch = n ∧ ch.length ≤ 10 := vEx 9 n (by omega)
theorem vFit_byte : ∀ {ch : List Nat}, vFit ch → ∀ x ∈ ch, x < 256
  | [], h, _, _ => h.elim
  | [c], h, x, hx => by
    simp only [List.mem_singleton] at hx; subst hx
    have : x < 128 := h
    omega
  | c :: d :: r, h, x, hx => by
    rcases List.mem_cons.1 hx with rfl | hx
    · exact h.2.1
    · exact vFit_byte (ch := d :: r) h.2.2.2 x hx
theorem vFit_take : ∀ {ch : List Nat}, vFit ch → ∀ k, k < ch.length → ∀ x ∈ ch.take k, 128 ≤ x ∧ x < 256
  | [], h, _, _, _, _ => h.elim
  | [c], h, k, hk, x, hx => by
    have : k = 0 := by simp only [List.length_singleton] at hk; omega
    subst this; simp at hx
  | c :: d :: r, h, k, hk, x, hx => by
    cases k with
    | zero => simp at hx
    | succ k =>
      rw [List.take_succ_cons] at hx
      rcases List.mem_cons.1 hx with rfl | hx
      · exact ⟨h.1, h.2.1⟩
      · exact vFit_take (ch := d :: r) h.2.2.2 k (by simp only [List.length_cons] at hk ⊢; omega) x hx
variable (N : Nat) (k0 : (List Int) × Int → Option (Int × Int × Int × (List Int) × Int)) (k1 : Int × Int × Int × (List Int) × Int → Option (Int × Int × Int × (List Int) × Int))
theorem hd_of {bs : List Nat} {j c : Nat} {r : List Nat} (h : bs.drop j = c :: r) : bs[j]? = some c ∧ bs.drop (j + 1) = r ∧ j < bs.length := by
  have hj : j < bs.length := by
    have := congrArg List.length h
    simp only [List.length_drop, List.length_cons] at this
    omega
  rw [List.drop_eq_getElem_cons hj, List.cons.injEq] at h
  exact ⟨by rw [List.getElem?_eq_getElem hj, h.1], h.2, hj⟩
theorem look_val (bs : List Nat) (at_ most : Nat) (hl : bs.length ≤ 100000) : ∀ (ch rest : List Nat) (i a fuel : Nat), bs.drop (at_ + i) = ch ++ rest → vFit ch → (0 < i → 0 < vVal ch) → i + ch.length ≤ 10 → a < 128 ^ i → a + 128 ^ i * vVal ch < 2 ^ 64 →
    a + 128 ^ i * vVal ch ≤ most → ch.length < fuel → p_wire_Reader_look_l4 N k0 k1 fuel (most : Int) (a : Int) (i : Int) (ints bs) (at_ : Int) = k1 (((a + 128 ^ i * vVal ch : Nat) : Int), ((i + ch.length : Nat) : Int), 0, ints bs, (at_ : Int)) := by
  intro ch
  induction ch with
  | nil => intro rest i a fuel _ hv; exact hv.elim
  | cons c ch ih =>
    intro rest i a fuel hd hv h0 hi ha h64 hm hf
    obtain ⟨fuel, rfl⟩ : ∃ f, fuel = f + 1 := ⟨fuel - 1, by omega⟩
    simp only [List.length_cons] at hi hf
    obtain ⟨hc, hdr, hil⟩ := hd_of (c := c) (r := ch ++ rest) (by rw [hd]; rfl)
    have hc256 : c < 256 := vFit_byte hv c (by simp)
    have hp : 0 < 128 ^ i := Nat.pow_pos (by omega)
    have hw : wr .i64 ((at_ : Int) + (i : Int)) = ((at_ + i : Nat) : Int) := by rw [wr_i64 (by omega) (by omega)]; omega
    have h9 : i = 9 → c ≤ 1 := by
      intro h9
      subst h9
      have : ch = [] := by cases ch with | nil => rfl | cons d r => simp only [List.length_cons] at hi; omega
      subst this
      have hc1 : c < 128 := hv
      have e : vVal [c] = c := by simp only [vVal]; omega
      rw [e] at h64
      by_cases hc2 : c ≤ 1
      · exact hc2
      · have : 128 ^ 9 * 2 ≤ 128 ^ 9 * c := Nat.mul_le_mul_left _ (by omega)
        omega
    simp only [p_wire_Reader_look_l4]
    rw [show decide ((i : Int) < 10) = true by simp; omega, pIf_t]
    simp only [hw, len_, ints_len]
    rw [show decide (((at_ + i : Nat) : Int) = (bs.length : Int)) = false by simp only [decide_eq_false_iff_not]; omega, pIf_f]
    rw [pIdx_nat (ints_get hc)]
    simp only [pLet_, pick_and]
    rw [show (decide ((i : Int) = 9) && decide (1 < (c : Int))) = false by
      simp only [Bool.and_eq_false_iff, decide_eq_false_iff_not]
      by_cases h : i = 9
      · have := h9 h; right; omega
      · left; omega, pIf_f]
    have h7 : wr .i64 (7 * (i : Int)) = 7 * (i : Int) := wr_i64 (by omega) (by omega)
    rw [show decide (0 ≤ wr .i64 (7 * (i : Int))) = true by rw [h7]; exact decide_eq_true (by omega), pCk_t]
    obtain ⟨hv1, hv2⟩ := step_val ha (by omega) hc256 h9
    simp only [hv2]
    have hb128 : band .u8 (c : Int) 128 = ((c &&& 128 : Nat) : Int) := band_u8 (x := c) (y := 128) hc256 (by omega)
    have e1 : wr .i64 ((i : Int) + 1) = ((i + 1 : Nat) : Int) := wr_succ (m := 10) (by omega) (by omega)
    rw [e1]
    cases ch with
    | nil =>
      have hcc : c < 128 := hv
      have e : vVal [c] = c := by simp only [vVal]; omega
      rw [e] at h0 h64 hm ⊢
      have hval : a + c % 128 * 128 ^ i = a + 128 ^ i * c := by rw [Nat.mod_eq_of_lt hcc, Nat.mul_comm]
      rw [hval]
      rw [show (!decide (band .u8 (c : Int) 128 = 0)) = false by rw [hb128, (and128 hc256).2 hcc]; rfl, pIf_f]
      rw [show (decide ((c : Int) = 0) && decide (0 < (i : Int))) = false by
        simp only [Bool.and_eq_false_iff, decide_eq_false_iff_not]
        by_cases h : 0 < i
        · have := h0 h; left; omega
        · right; omega, pIf_f]
      rw [show decide ((most : Int) < ((a + 128 ^ i * c : Nat) : Int)) = false by simp only [decide_eq_false_iff_not]; omega, pIf_f]
      rfl
    | cons d r =>
      obtain ⟨g1, g2, g3, g4⟩ := hv
      rw [show (!decide (band .u8 (c : Int) 128 = 0)) = true by
        rw [hb128]
        have : ¬ c &&& 128 = 0 := fun h => by have := (and128 hc256).1 h; omega
        simp; omega, pIf_t]
      have hval : a + c % 128 * 128 ^ i + 128 ^ (i + 1) * vVal (d :: r) = a + 128 ^ i * vVal (c :: d :: r) := by
        have : vVal (c :: d :: r) = c % 128 + 128 * vVal (d :: r) := rfl
        rw [this, Nat.pow_succ]; grind
      rw [← hval] at h64 hm ⊢
      rw [ih rest (i + 1) (a + c % 128 * 128 ^ i) fuel (by rw [← Nat.add_assoc]; exact hdr) g4 (fun _ => g3) (by omega) (by
        rw [Nat.pow_succ]
        have : c % 128 * 128 ^ i ≤ 127 * 128 ^ i := Nat.mul_le_mul_right _ (by omega)
        omega) h64 hm (by omega)]
      simp only [List.length_cons]
      rw [show i + 1 + (r.length + 1) = i + (r.length + 1 + 1) by omega]
theorem look_short (bs : List Nat) (at_ : Nat) (most : Int) (hl : bs.length ≤ 100000) : ∀ (m i fuel : Nat) (a : Int), at_ + i + m = bs.length → i + m ≤ 9 → (∀ x ∈ bs.drop (at_ + i), 128 ≤ x ∧ x < 256) → m < fuel →
    p_wire_Reader_look_l4 N k0 k1 fuel most a (i : Int) (ints bs) (at_ : Int) = k1 (0, 0, 2, ints bs, (at_ : Int)) := by
  intro m
  induction m with
  | zero =>
    intro i fuel a h hi hb hf
    obtain ⟨fuel, rfl⟩ : ∃ f, fuel = f + 1 := ⟨fuel - 1, by omega⟩
    have hw : wr .i64 ((at_ : Int) + (i : Int)) = ((at_ + i : Nat) : Int) := by rw [wr_i64 (by omega) (by omega)]; omega
    simp only [p_wire_Reader_look_l4]
    rw [show decide ((i : Int) < 10) = true by simp; omega, pIf_t]
    simp only [hw, len_, ints_len]
    rw [show decide (((at_ + i : Nat) : Int) = (bs.length : Int)) = true by simp only [decide_eq_true_eq]; omega, pIf_t]
  | succ m ih =>
    intro i fuel a h hi hb hf
    obtain ⟨fuel, rfl⟩ : ∃ f, fuel = f + 1 := ⟨fuel - 1, by omega⟩
    have hil : at_ + i < bs.length := by omega
    have hd := List.drop_eq_getElem_cons hil
    generalize hcc : bs[at_ + i] = c at hd
    obtain ⟨hc, hdr, _⟩ := hd_of hd
    obtain ⟨hc1, hc256⟩ := hb c (by rw [hd]; simp)
    have hw : wr .i64 ((at_ : Int) + (i : Int)) = ((at_ + i : Nat) : Int) := by rw [wr_i64 (by omega) (by omega)]; omega
    simp only [p_wire_Reader_look_l4]
    rw [show decide ((i : Int) < 10) = true by simp; omega, pIf_t]
    simp only [hw, len_, ints_len]
    rw [show decide (((at_ + i : Nat) : Int) = (bs.length : Int)) = false by simp only [decide_eq_false_iff_not]; omega, pIf_f]
    rw [pIdx_nat (ints_get hc)]
    simp only [pLet_, pick_and]
    rw [show (decide ((i : Int) = 9) && decide (1 < (c : Int))) = false by
      simp only [Bool.and_eq_false_iff, decide_eq_false_iff_not]
      left; omega, pIf_f]
    have h7 : wr .i64 (7 * (i : Int)) = 7 * (i : Int) := wr_i64 (by omega) (by omega)
    rw [show decide (0 ≤ wr .i64 (7 * (i : Int))) = true by rw [h7]; exact decide_eq_true (by omega), pCk_t]
    have hb128 : band .u8 (c : Int) 128 = ((c &&& 128 : Nat) : Int) := band_u8 (x := c) (y := 128) hc256 (by omega)
    have e1 : wr .i64 ((i : Int) + 1) = ((i + 1 : Nat) : Int) := wr_succ (m := 10) (by omega) (by omega)
    rw [e1]
    rw [show (!decide (band .u8 (c : Int) 128 = 0)) = true by
      rw [hb128]
      have : ¬ c &&& 128 = 0 := fun h => by have := (and128 hc256).1 h; omega
      simp; omega, pIf_t]
    exact ih (i + 1) fuel _ (by omega) (by omega) (fun x hx => hb x (by rw [hd]; refine List.mem_cons_of_mem _ ?_; rw [← hdr, Nat.add_assoc]; exact hx)) (by omega)
end Go.Y
namespace Go.Y
open Go
theorem remI_nat (a : Int) {n : Nat} (hn : 0 < n) (hn2 : n ≤ 100000) : ∃ k : Nat, wr .i64 (remI (wr .u64 a) (n : Int)) = (k : Int) ∧ k < n := by
  have h : remI (wr .u64 a) (n : Int) = (a % 18446744073709551616) % (n : Int) := by
    unfold remI
    rw [wr_u64_mod, Int.tmod_eq_emod_of_nonneg (by omega)]
  have h1 := Int.emod_nonneg (a % 18446744073709551616) (b := (n : Int)) (by omega)
  have h2 := Int.emod_lt_of_pos (a % 18446744073709551616) (b := (n : Int)) (by omega)
  refine ⟨((a % 18446744073709551616) % (n : Int)).toNat, ?_, by omega⟩
  rw [h, wr_i64 (by omega) (by omega)]
  omega
theorem ints_app (a b : List Nat) : ints (a ++ b) = ints a ++ ints b := by simp [ints]
theorem enc_eq' (N : Nat) (ch w : List Nat) (hv : vFit ch) (hf : ch.length < N) (hl : w.length + ch.length ≤ 100000) (h64 : vVal ch < 2 ^ 64) : p_wire_Writer_Uint N (vVal ch : Int) (ints w) = some (ints (w ++ ch)) := by
  unfold p_wire_Writer_Uint
  exact enc_go N ch w N hv hf hl h64
theorem bytes_eq (N : Nat) (cs : List Nat) (hc : cs.length ≤ 100000) : p_wire_Writer_Bytes N (ints cs) = some (ints cs, ints cs) := by
  unfold p_wire_Writer_Bytes
  rw [clone_eq N cs hc]; rfl
theorem wrong_eq (N : Nat) (e : Int) (bs : List Int) (at_ : Int) : p_wire_Reader_wrong N e bs at_ = some (Err.at at_ (.no e), bs, at_) := rfl
theorem uint_short (N : Nat) (hN : 100 < N) (bs : List Nat) (most : Int) (hl : bs.length ≤ 9) (hb : ∀ x ∈ bs, 128 ≤ x ∧ x < 256) : p_wire_Reader_Uint N most (ints bs) 0 = some (0, Err.at 0 (.no 2), ints bs, 0) := by
  have h : p_wire_Reader_look N most (ints bs) 0 = some (0, 0, 2, ints bs, 0) :=
    look_short N _ _ bs 0 most (by omega) bs.length 0 N 0 (by omega) (by omega) (by simpa using hb) (by omega)
  unfold p_wire_Reader_Uint
  rw [h]
  rfl
end Go.Y
namespace Go.Y
open Go
def zz (m : Int) : Nat := if m < 0 then (-2 * m - 1).toNat else (2 * m).toNat
theorem zz_lt {m : Int} (h0 : -9223372036854775808 ≤ m) (h1 : m ≤ 9223372036854775807) : zz m < 2 ^ 64 := by unfold zz; split <;> omega
theorem zag_even {n : Nat} (hn : n < 2 ^ 64) (h : n % 2 = 0) : zag (n : Int) = ((n / 2 : Nat) : Int) := by
  have e1 : shrI .u64 (n : Int) 1 = ((n / 2 : Nat) : Int) := by
    unfold shrI
    rw [show min (1 : Int).toNat IntKind.u64.bits = 1 by rfl, show ((2 : Int) ^ 1) = 2 by rfl, Int.fdiv_eq_ediv_of_nonneg _ (by omega)]
    omega
  have e2 : band .u64 (n : Int) 1 = ((n % 2 : Nat) : Int) := by
    have := band_u64 (x := n) (y := 1) hn (by omega)
    rw [Nat.and_one_is_mod] at this
    exact this
  unfold zag
  rw [e1, e2, wr_i64 (by omega) (by omega), h]
  rw [show wr .i64 (0 - wr .i64 ((0 : Nat) : Int)) = 0 from rfl, bxor_i64_0 (by omega)]
theorem zag_odd {n : Nat} (hn : n < 2 ^ 64) (h : n % 2 = 1) : zag (n : Int) = -((n / 2 : Nat) : Int) - 1 := by
  have e1 : shrI .u64 (n : Int) 1 = ((n / 2 : Nat) : Int) := by
    unfold shrI
    rw [show min (1 : Int).toNat IntKind.u64.bits = 1 by rfl, show ((2 : Int) ^ 1) = 2 by rfl, Int.fdiv_eq_ediv_of_nonneg _ (by omega)]
    omega
  have e2 : band .u64 (n : Int) 1 = ((n % 2 : Nat) : Int) := by
    have := band_u64 (x := n) (y := 1) hn (by omega)
    rw [Nat.and_one_is_mod] at this
    exact this
  unfold zag
  rw [e1, e2, wr_i64 (n := ((n / 2 : Nat) : Int)) (by omega) (by omega), h]
  rw [show wr .i64 (0 - wr .i64 ((1 : Nat) : Int)) = -1 from rfl, bxor_i64_m (by omega)]
theorem zag_zz {m : Int} (h0 : -9223372036854775808 ≤ m) (h1 : m ≤ 9223372036854775807) : zag (zz m : Int) = m := by
  have hl := zz_lt h0 h1
  by_cases h : m < 0
  · have e : zz m = (-2 * m - 1).toNat := by unfold zz; rw [if_pos h]
    rw [zag_odd hl (by omega)]; omega
  · have e : zz m = (2 * m).toNat := by unfold zz; rw [if_neg h]
    rw [zag_even hl (by omega)]; omega
theorem zig_zz {m : Int} (h0 : -9223372036854775808 ≤ m) (h1 : m ≤ 9223372036854775807) : zig m = (zz m : Int) := by
  have := zig_zag (zz_lt h0 h1)
  rwa [zag_zz h0 h1] at this
theorem recF_succ {A B : Type} (Fb : (Nat → A → Option B) → Nat → A → Option B) (m : Nat) : recF Fb (m + 1) = Fb (recF Fb m) := rfl
theorem refUint_f (self : Nat → Int → Option (List Int)) (N : Nat) (x : Int) : avermentref02_Uint_f self N x = pIf (decide (x < 128)) (some [wr .u8 x]) (pCall (self N (quoI .u64 x 128)) fun x0 =>
    pCk (room 1 (len ([(wr .u8 ((wr .u8 (remI x 128)) + 128))] ++ x0))) (some ([(wr .u8 ((wr .u8 (remI x 128)) + 128))] ++ x0))) := rfl
theorem refUint_rec (N : Nat) : ∀ (ch : List Nat) (m : Nat), vFit ch → vVal ch < 2 ^ 64 → ch.length ≤ 10 → ch.length ≤ m → recF avermentref02_Uint_f m N (vVal ch : Int) = some (ints ch)
  | [], m, hv, _, _, _ => hv.elim
  | [c], m, hv, h64, hl, hm => by
    obtain ⟨m, rfl⟩ : ∃ f, m = f + 1 := ⟨m - 1, by simp only [List.length_singleton] at hm; omega⟩
    have hc : c < 128 := hv
    have e : vVal [c] = c := by simp only [vVal]; omega
    rw [e]
    rw [recF_succ, refUint_f]
    rw [show decide ((c : Int) < 128) = true by simp only [decide_eq_true_eq]; omega, pIf_t, wr_u8 (by omega) (by omega)]
    rfl
  | c :: d :: r, m, hv, h64, hl, hm => by
    obtain ⟨m, rfl⟩ : ∃ f, m = f + 1 := ⟨m - 1, by simp only [List.length_cons] at hm; omega⟩
    obtain ⟨h1, h2, h3, h4⟩ := hv
    have e : vVal (c :: d :: r) = c % 128 + 128 * vVal (d :: r) := rfl
    generalize hn : vVal (c :: d :: r) = n at *
    rw [recF_succ, refUint_f]
    rw [show decide ((n : Int) < 128) = false by simp only [decide_eq_false_iff_not]; omega, pIf_f]
    have q : quoI .u64 (n : Int) 128 = (vVal (d :: r) : Int) := by
      show wr .u64 (Int.tdiv (n : Int) 128) = _
      rw [Int.tdiv_eq_ediv_of_nonneg (by omega), wr_u64 (by omega) (by omega)]
      omega
    have rm : remI (n : Int) 128 = ((n % 128 : Nat) : Int) := by
      unfold remI
      rw [Int.tmod_eq_emod_of_nonneg (by omega)]
      omega
    simp only [List.length_cons] at hl hm
    have ih := refUint_rec N (d :: r) m h4 (by omega) (by simp only [List.length_cons]; omega) (by simp only [List.length_cons]; omega)
    rw [q, ih, pCall_s, rm, wr_u8 (n := ((n % 128 : Nat) : Int)) (by omega) (by omega), wr_u8 (by omega) (by omega)]
    rw [room_of (by simp [ints_len]; omega) (by simp [ints_len]; omega), pCk_t]
    have : ((n % 128 : Nat) : Int) + 128 = (c : Int) := by omega
    rw [this]; rfl
theorem refUint_eq (N : Nat) (hN : 10 ≤ N) (ch : List Nat) (hv : vFit ch) (h64 : vVal ch < 2 ^ 64) (hl : ch.length ≤ 10) : avermentref02_Uint N (vVal ch : Int) = some (ints ch) := by
  unfold avermentref02_Uint
  exact refUint_rec N ch N hv h64 hl (by omega)
theorem sub_eq2 {bs : List Nat} {a n : Nat} : sub (ints bs) (a : Int) ((a + n : Nat) : Int) = ints ((bs.drop a).take n) := by
  simp only [sub, ints, Int.toNat_natCast, ← List.map_take, ← List.map_drop]
  rw [List.drop_take, Nat.add_sub_cancel_left]
theorem left_eq (N : Nat) (bs : List Nat) (a : Nat) (hl : bs.length ≤ 100000) (ha : a ≤ bs.length) : p_wire_Reader_Left N (ints bs) (a : Int) = some (((bs.length - a : Nat) : Int), ints bs, (a : Int)) := by
  unfold p_wire_Reader_Left
  rw [len_, ints_len, wr_i64 (by omega) (by omega)]
  congr 2
  omega
theorem raw_eq (N : Nat) (bs : List Nat) (a n : Nat) (hl : bs.length ≤ 100000) (ha : a + n ≤ bs.length) : p_wire_Reader_Raw N (n : Int) (ints bs) (a : Int) = some (ints ((bs.drop a).take n), Err.nil, ints bs, ((a + n : Nat) : Int)) := by
  unfold p_wire_Reader_Raw
  rw [show decide ((n : Int) < 0) = false by simp only [decide_eq_false_iff_not]; omega]
  simp only [pLet_, pick_f, pIf_f, left_eq N bs a hl (by omega), pCall_s]
  have h2 : wr .i64 ((a : Int) + (n : Int)) = ((a + n : Nat) : Int) := by rw [wr_i64 (by omega) (by omega)]; omega
  have h3 : wr .i64 (((a + n : Nat) : Int) - (n : Int)) = (a : Int) := by rw [wr_i64 (by omega) (by omega)]; omega
  rw [show decide (((bs.length - a : Nat) : Int) < (n : Int)) = false by simp only [decide_eq_false_iff_not]; omega, pIf_f]
  simp only [h2, h3, len_, ints_len]
  rw [show (decide (0 ≤ ((a + n : Nat) : Int)) && decide (((a + n : Nat) : Int) ≤ (bs.length : Int))) = true by simp only [Bool.and_eq_true, decide_eq_true_eq]; omega, pCk_t,
    show (decide (0 ≤ (a : Int)) && decide ((a : Int) ≤ ((a + n : Nat) : Int))) = true by simp only [Bool.and_eq_true, decide_eq_true_eq]; omega, pCk_t]
  rw [sub_eq2, clone_eq N _ (by rw [List.length_take, List.length_drop]; omega)]
  rfl
theorem uint_val (N : Nat) (hN : 100 < N) (bs ch rest : List Nat) (a most : Nat) (hl : bs.length ≤ 100000) (hd : bs.drop a = ch ++ rest) (hv : vFit ch) (hc : ch.length ≤ 10) (h64 : vVal ch < 2 ^ 64) (hm : vVal ch ≤ most) :
    p_wire_Reader_look N (most : Int) (ints bs) (a : Int) = some ((vVal ch : Int), (ch.length : Int), 0, ints bs, (a : Int)) ∧ p_wire_Reader_Uint N (most : Int) (ints bs) (a : Int) = some ((vVal ch : Int), Err.nil, ints bs, ((a + ch.length : Nat) : Int)) := by
  have h : p_wire_Reader_look N (most : Int) (ints bs) (a : Int) = some ((vVal ch : Int), (ch.length : Int), 0, ints bs, (a : Int)) := by
    have := look_val N (fun x0 => some (0, 0, 3, x0.1, x0.2)) (fun x0 => some x0) bs a most hl ch rest 0 0 N (by simpa using hd) hv (fun h => by omega) (by omega) (by simp) (by simpa using h64) (by simpa using hm) (by omega)
    simp only [Nat.pow_zero, Nat.one_mul, Nat.zero_add] at this
    exact this
  refine ⟨h, ?_⟩
  unfold p_wire_Reader_Uint
  rw [h]
  simp only [pCall_s, decide_true, Bool.not_true, pIf_f]
  have hab : a ≤ bs.length ∨ bs.length < a := by omega
  have hlen := congrArg List.length hd
  simp only [List.length_drop, List.length_append] at hlen
  have : 0 < ch.length := by cases ch with | nil => exact hv.elim | cons c r => simp
  rw [wr_i64 (by omega) (by omega)]
  rfl
end Go.Y
namespace Go.Y
open Go
def venc (n : Nat) : List Nat := if n < 128 then [n] else (n % 128 + 128) :: venc (n / 128)
termination_by n
decreasing_by omega
theorem venc_lt {n : Nat} (h : n < 128) : venc n = [n] := by rw [venc, if_pos h]
theorem venc_ge {n : Nat} (h : ¬ n < 128) : venc n = (n % 128 + 128) :: venc (n / 128) := by rw [venc, if_neg h]
theorem venc_ok (n : Nat) : vFit (venc n) ∧ vVal (venc n) = n := by
  induction n using Nat.strongRecOn with
  | ind n ih =>
    by_cases h : n < 128
    · rw [venc_lt h]
      exact ⟨h, by simp only [vVal]; omega⟩
    · obtain ⟨h1, h2⟩ := ih (n / 128) (by omega)
      rw [venc_ge h]
      cases hc : venc (n / 128) with
      | nil => rw [hc] at h1; exact h1.elim
      | cons d r =>
        rw [hc] at h1 h2
        refine ⟨⟨by omega, by omega, by rw [h2]; omega, h1⟩, ?_⟩
        show (n % 128 + 128) % 128 + 128 * vVal (d :: r) = n
        rw [h2]; omega
theorem venc_len : ∀ (k n : Nat), n < 128 ^ (k + 1) → (venc n).length ≤ k + 1
  | 0, n, h => by rw [venc_lt (by simpa using h)]; simp
  | k + 1, n, h => by
    by_cases hn : n < 128
    · rw [venc_lt hn]; simp
    · rw [venc_ge hn, List.length_cons]
      have := venc_len k (n / 128) (by rw [Nat.pow_succ] at h; omega)
      omega
theorem venc_pos (n : Nat) : 0 < (venc n).length := by
  have := (venc_ok n).1
  cases h : venc n with
  | nil => rw [h] at this; exact this.elim
  | cons c r => simp
theorem venc_len2 {n : Nat} (h : n < 16384) : (venc n).length ≤ 2 := venc_len 1 n h
theorem wUint (N : Nat) (hN : 100 < N) (n : Nat) (hn : n < 16384) (w : List Nat) (hw : w.length ≤ 90000) : p_wire_Writer_Uint N (n : Int) (ints w) = some (ints (w ++ venc n)) := by
  obtain ⟨h1, h2⟩ := venc_ok n
  have h3 := venc_len2 hn
  have := enc_eq' N (venc n) w h1 (by omega) (by omega) (by omega)
  rwa [h2] at this
theorem rUint (N : Nat) (hN : 100 < N) (n : Nat) (hn : n < 16384) : avermentref02_Uint N (n : Int) = some (ints (venc n)) := by
  obtain ⟨h1, h2⟩ := venc_ok n
  have h3 := venc_len2 hn
  have := refUint_eq N (by omega) (venc n) h1 (by omega) (by omega)
  rwa [h2] at this
def Rise (n : Nat) : Nat → List Nat → Prop
  | _, [] => True
  | lo, x :: r => lo ≤ x ∧ x < n ∧ Rise n (x + 1) r
theorem Rise.mono {n lo lo' : Nat} {l : List Nat} (h : Rise n lo l) (hl : lo' ≤ lo) : Rise n lo' l := by
  cases l with
  | nil => trivial
  | cons x r => exact ⟨by have := h.1; omega, h.2⟩
theorem Rise.len : ∀ {n lo : Nat} {l : List Nat}, Rise n lo l → lo ≤ n → l.length + lo ≤ n
  | n, lo, [], _, h => by simpa using h
  | n, lo, x :: r, h, _ => by
    have := Rise.len h.2.2 (by have := h.2.1; omega)
    have := h.1
    simp only [List.length_cons]; omega
theorem Rise.drop : ∀ {n lo : Nat} {l : List Nat} (i : Nat), Rise n lo l → ∃ lo', Rise n lo' (l.drop i)
  | n, lo, l, 0, h => ⟨lo, h⟩
  | n, lo, [], i + 1, h => ⟨lo, trivial⟩
  | n, lo, x :: r, i + 1, h => Rise.drop i h.2.2
theorem rise_of : ∀ {n : Nat} {l : List Int} (lo : Nat), Inc l → (∀ y ∈ l, (lo : Int) ≤ y ∧ y < (n : Int)) → ∃ ns : List Nat, l = ints ns ∧ Rise n lo ns
  | n, [], lo, _, _ => ⟨[], rfl, trivial⟩
  | n, x :: l, lo, h, hb => by
    obtain ⟨h1, h2⟩ := List.pairwise_cons.1 h
    obtain ⟨h3, h4⟩ := hb x (by simp)
    obtain ⟨m, rfl⟩ := Int.eq_ofNat_of_zero_le (show 0 ≤ x by omega)
    obtain ⟨ns, rfl, h5⟩ := rise_of (n := n) (l := l) (m + 1) h2 fun y hy => by
      have := h1 y hy
      have := (hb y (List.mem_cons_of_mem _ hy)).2
      omega
    exact ⟨m :: ns, rfl, by omega, by omega, h5⟩
def gapsB : Nat → List Nat → List Nat
  | _, [] => []
  | next, x :: r => venc (x - next) ++ gapsB (x + 1) r
def gapsW (s : List Nat) : List Nat := 1 :: (venc s.length ++ gapsB 0 s)
theorem gapsB_len : ∀ {n next : Nat} {l : List Nat}, n ≤ 4096 → Rise n next l → (gapsB next l).length ≤ 2 * l.length
  | n, next, [], _, _ => by simp [gapsB]
  | n, next, x :: r, hn, h => by
    have h1 := gapsB_len hn h.2.2
    have h2 := venc_len2 (n := x - next) (by have := h.2.1; omega)
    simp only [gapsB, List.length_append, List.length_cons]; omega
theorem gaps_loop (N : Nat) (hN : 100 < N) (n : Nat) (hn : n ≤ 4096) (s : List Nat) (hs : s.length ≤ 4096) (k0 : List Int → Option (List Int)) : ∀ (r : List Nat) (i next fuel : Nat) (w : List Nat), s.drop i = r → Rise n next r → i + r.length = s.length → r.length < fuel → w.length ≤ 20 + 2 * i →
    bits_gaps_l7 N k0 fuel (next : Int) (ints s) (len (ints s)) (i : Int) (ints w) = k0 (ints (w ++ gapsB next r)) := by
  intro r
  induction r with
  | nil =>
    intro i next fuel w hd hr hi hf hw
    obtain ⟨fuel, rfl⟩ : ∃ f, fuel = f + 1 := ⟨fuel - 1, by omega⟩
    simp only [List.length_nil] at hi
    rw [bits_gaps_l7, decide_eq_false (by rw [len_, ints_len]; omega), pIf_f]
    simp [gapsB]
  | cons x r ih =>
    intro i next fuel w hd hr hi hf hw
    obtain ⟨fuel, rfl⟩ : ∃ f, fuel = f + 1 := ⟨fuel - 1, by omega⟩
    simp only [List.length_cons] at hi hf
    obtain ⟨hx, hd2, hil⟩ := hd_of hd
    obtain ⟨h1, h2, h3⟩ := hr
    have h4 := venc_len2 (n := x - next) (by omega)
    rw [bits_gaps_l7, decide_eq_true (by rw [len_, ints_len]; omega), pIf_t, pIdx_nat (ints_get hx), wr_i64 (n := (x : Int) - (next : Int)) (by omega) (by omega), wr_u64 (by omega) (by omega),
      show (x : Int) - (next : Int) = ((x - next : Nat) : Int) by omega, wUint N hN _ (by omega) w (by omega), pCall_s, wr_succ (m := 5000) (by omega) (by omega), wr_succ (m := 5000) (by omega) (by omega),
      ih (i + 1) (x + 1) fuel _ hd2 h3 (by omega) (by omega) (by simp only [List.length_append]; omega), List.append_assoc]
    rfl
theorem bytesB (N : Nat) (cs : List Nat) (hc : cs.length ≤ 100000) : p_wire_Writer_Bytes N (ints cs) = some (ints cs, ints cs) := bytes_eq N cs hc
theorem gaps_eq (N : Nat) (hN : 5000 < N) (n : Nat) (hn : n ≤ 4096) (s : List Nat) (hs : Rise n 0 s) : bits_gaps N (ints s) = some (ints (gapsW s)) := by
  have hl := Rise.len hs (by omega)
  have hg := gapsB_len hn hs
  have hv := venc_len2 (n := s.length) (by omega)
  unfold bits_gaps
  rw [show wire_New N = some (ints []) from rfl, pCall_s, show (1 : Int) = ((1 : Nat) : Int) from rfl, byte_eq N 1 [] (by simp), pCall_s, len_, ints_len, wr_u64 (by omega) (by omega), wUint N (by omega) s.length (by omega) _ (by simp), pCall_s]
  have := gaps_loop N (by omega) n hn s (by omega) (fun x3 => pCall (p_wire_Writer_Bytes N x3) fun x4 => some x4.1) s 0 0 N ([] ++ [1] ++ venc s.length) rfl hs (by simp) (by omega) (by simp; omega)
  rw [len_, ints_len] at this
  have h0 : bits_gaps_l7 N (fun x3 => pCall (p_wire_Writer_Bytes N x3) fun x4 => some x4.1) N 0 (ints s) (s.length : Int) 0 (ints ([] ++ [1] ++ venc s.length)) = _ := this
  rw [h0, bytesB N _ (by simp; omega), pCall_s]
  simp [gapsW]
def nx (s : List Nat) (i : Nat) : Nat := match i with | 0 => 0 | i + 1 => s.getD i 0 + 1
theorem rgaps_loop (N : Nat) (hN : 100 < N) (n : Nat) (hn : n ≤ 4096) (s : List Nat) (hs : s.length ≤ 4096) : ∀ (r : List Nat) (i fuel : Nat) (w : List Nat), s.drop i = r → Rise n (nx s i) r → i + r.length = s.length → r.length < fuel → w.length ≤ 20 + 2 * i →
    avermentref03_Gaps_l4 N (fun x1 => some x1) fuel (ints s) (i : Int) (ints w) = some (ints (w ++ gapsB (nx s i) r)) := by
  intro r
  induction r with
  | nil =>
    intro i fuel w hd hr hi hf hw
    obtain ⟨fuel, rfl⟩ : ∃ f, fuel = f + 1 := ⟨fuel - 1, by omega⟩
    simp only [List.length_nil] at hi
    rw [avermentref03_Gaps_l4, decide_eq_false (by rw [len_, ints_len]; omega), pIf_f]
    simp [gapsB]
  | cons x r ih =>
    intro i fuel w hd hr hi hf hw
    obtain ⟨fuel, rfl⟩ : ∃ f, fuel = f + 1 := ⟨fuel - 1, by omega⟩
    simp only [List.length_cons] at hi hf
    obtain ⟨hx, hd2, hil⟩ := hd_of hd
    obtain ⟨h1, h2, h3⟩ := hr
    have h4 := venc_len2 (n := x - nx s i) (by omega)
    have hnx : nx s (i + 1) = x + 1 := by simp [nx, List.getD_eq_getElem?_getD, hx]
    rw [← hnx] at h3
    have hgo : ∀ y : Int, y = ((x - nx s i : Nat) : Int) → (pCall (avermentref02_Uint N (wr .u64 y)) fun x2 => pCk (room 1 (len (ints w ++ x2))) (avermentref03_Gaps_l4 N (fun x1 => some x1) fuel (ints s) (wr .i64 ((i : Int) + 1)) (ints w ++ x2))) = some (ints (w ++ gapsB (nx s i) (x :: r))) := by
      intro y hy
      subst hy
      rw [wr_u64 (by omega) (by omega), rUint N hN _ (by omega), pCall_s, room_of (by simp [ints_len]; omega) (by simp [ints_len]; omega), pCk_t, wr_succ (m := 5000) (by omega) (by omega), ← ints_app,
        ih (i + 1) fuel _ hd2 h3 (by omega) (by omega) (by simp only [List.length_append]; omega), List.append_assoc, hnx]
      rfl
    rw [avermentref03_Gaps_l4, decide_eq_true (by rw [len_, ints_len]; omega), pIf_t, pIdx_nat (ints_get hx), pJoin_]
    cases i with
    | zero =>
      rw [decide_eq_false (by omega), pIf_f]
      exact hgo _ (by simp [nx])
    | succ i =>
      rw [decide_eq_true (by omega), pIf_t, pIdx_nat (ints_get hx)]
      obtain ⟨y, hy⟩ : ∃ y, s[i]? = some y := ⟨s[i]'(by omega), List.getElem?_eq_getElem _⟩
      have hny : nx s (i + 1) = y + 1 := by simp [nx, List.getD_eq_getElem?_getD, hy]
      rw [hny] at h1
      rw [wr_i64 (n := ((i + 1 : Nat) : Int) - 1) (by omega) (by omega), show ((i + 1 : Nat) : Int) - 1 = (i : Int) by omega, pIdx_nat (ints_get hy), wr_i64 (n := (x : Int) - (y : Int)) (by omega) (by omega), wr_i64 (by omega) (by omega)]
      have hz : (x : Int) - (y : Int) - 1 = ((x - nx s (i + 1) : Nat) : Int) := by rw [hny]; omega
      exact hgo _ hz
theorem rgaps_eq (N : Nat) (hN : 5000 < N) (n : Nat) (hn : n ≤ 4096) (s : List Nat) (hs : Rise n 0 s) : avermentref03_Gaps N (ints s) = some (ints (gapsW s)) := by
  have hl := Rise.len hs (by omega)
  have hv := venc_len2 (n := s.length) (by omega)
  unfold avermentref03_Gaps
  rw [len_, ints_len, wr_u64 (by omega) (by omega), rUint N (by omega) _ (by omega), pCall_s, show [(1 : Int)] = ints [1] from rfl, ← ints_app, room_of (by simp [ints_len]; omega) (by simp [ints_len]; omega), pCk_t]
  have := rgaps_loop N (by omega) n hn s (by omega) s 0 N ([1] ++ venc s.length) rfl hs (by simp) (by omega) (by simp; omega)
  have h0 : avermentref03_Gaps_l4 N (fun x1 => some x1) N (ints s) 0 (ints ([1] ++ venc s.length)) = _ := this
  rw [h0]
  simp [gapsW, nx]
end Go.Y
namespace Go.Y
open Go
def RunsOf : List (Nat × Nat) → List Nat → Prop
  | [], s => s = []
  | [(f, l)], s => 1 ≤ l ∧ s = List.range' f l
  | (f, l) :: (f2, l2) :: q, s => 1 ≤ l ∧ f + l < f2 ∧ ∃ r, s = List.range' f l ++ r ∧ RunsOf ((f2, l2) :: q) r
theorem RunsOf.head : ∀ {f l : Nat} {q : List (Nat × Nat)} {s : List Nat}, RunsOf ((f, l) :: q) s → ∃ r, s = f :: r
  | f, l, [], s, h => by
    obtain ⟨h1, rfl⟩ := h
    obtain ⟨m, rfl⟩ : ∃ m, l = m + 1 := ⟨l - 1, by omega⟩
    exact ⟨_, List.range'_succ ..⟩
  | f, l, (f2, l2) :: q, s, h => by
    obtain ⟨h1, _, r, rfl, _⟩ := h
    obtain ⟨m, rfl⟩ : ∃ m, l = m + 1 := ⟨l - 1, by omega⟩
    exact ⟨_, by rw [List.range'_succ]; rfl⟩
def runsF : List Nat → List (Nat × Nat)
  | [] => []
  | x :: r => match runsF r with
    | [] => [(x, 1)]
    | (f, l) :: q => if f = x + 1 then (x, l + 1) :: q else (x, 1) :: (f, l) :: q
theorem runsF_append_run : ∀ (f l : Nat) (r : List Nat), 1 ≤ l → (∀ y, r.head? = some y → f + l < y) → runsF (List.range' f l ++ r) = (f, l) :: runsF r
  | f, 0, r, h, _ => by omega
  | f, 1, r, _, hr => by
    show (match runsF r with | [] => [(f, 1)] | (f', l) :: q => if f' = f + 1 then (f, l + 1) :: q else (f, 1) :: (f', l) :: q) = _
    cases hq : runsF r with
    | nil => rfl
    | cons p q =>
      obtain ⟨f', l'⟩ := p
      have hf : f' ≠ f + 1 := by
        intro e
        cases r with
        | nil => simp [runsF] at hq
        | cons y r =>
          have hy := hr y rfl
          have : f' = y := by
            simp only [runsF] at hq
            split at hq
            · simp only [List.cons.injEq, Prod.mk.injEq] at hq; exact hq.1.1.symm
            · split at hq <;> (simp only [List.cons.injEq, Prod.mk.injEq] at hq; exact hq.1.1.symm)
          omega
      simp only [if_neg hf]
  | f, l + 2, r, _, hr => by
    have ih := runsF_append_run (f + 1) (l + 1) r (by omega) (fun y hy => by have := hr y hy; omega)
    rw [List.range'_succ, List.cons_append]
    show (match runsF (List.range' (f + 1) (l + 1) ++ r) with | [] => [(f, 1)] | (f', l) :: q => if f' = f + 1 then (f, l + 1) :: q else (f, 1) :: (f', l) :: q) = _
    rw [ih]
    simp only [if_true]
theorem RunsOf.eq : ∀ {rs : List (Nat × Nat)} {s : List Nat}, RunsOf rs s → rs = runsF s
  | [], s, h => by
    have h : s = [] := h
    subst h; rfl
  | [(f, l)], s, h => by
    obtain ⟨h1, rfl⟩ := h
    have := runsF_append_run f l [] h1 (fun y hy => by simp at hy)
    rw [List.append_nil] at this
    rw [this]; rfl
  | (f, l) :: (f2, l2) :: q, s, h => by
    obtain ⟨h1, h2, r, rfl, h3⟩ := h
    obtain ⟨r', hr'⟩ := h3.head
    rw [runsF_append_run f l r h1 (fun y hy => by rw [hr'] at hy; simp only [List.head?_cons, Option.some.injEq] at hy; omega), ← RunsOf.eq h3]
theorem RunsOf.snoc : ∀ {rs : List (Nat × Nat)} {s : List Nat} {f l : Nat} (x : Nat), RunsOf (rs ++ [(f, l)]) s → (x = f + l → RunsOf (rs ++ [(f, l + 1)]) (s ++ [x])) ∧ (f + l < x → RunsOf (rs ++ [(f, l), (x, 1)]) (s ++ [x]))
  | [], s, f, l, x, h => by
    obtain ⟨h1, rfl⟩ := h
    refine ⟨fun e => ⟨by omega, by rw [e, List.range'_concat]; simp⟩, fun e => ⟨h1, e, [x], rfl, by omega, by simp [List.range']⟩⟩
  | [(f0, l0)], s, f, l, x, h => by
    obtain ⟨h1, h2, r, rfl, h3⟩ := h
    obtain ⟨i1, i2⟩ := RunsOf.snoc (rs := []) x h3
    refine ⟨fun e => ⟨h1, h2, r ++ [x], by rw [List.append_assoc], i1 e⟩, fun e => ⟨h1, h2, r ++ [x], by rw [List.append_assoc], i2 e⟩⟩
  | (f0, l0) :: (f1, l1) :: q, s, f, l, x, h => by
    obtain ⟨h1, h2, r, rfl, h3⟩ := h
    obtain ⟨i1, i2⟩ := RunsOf.snoc (rs := (f1, l1) :: q) x h3
    refine ⟨fun e => ⟨h1, h2, r ++ [x], by rw [List.append_assoc], i1 e⟩, fun e => ⟨h1, h2, r ++ [x], by rw [List.append_assoc], i2 e⟩⟩
theorem RunsOf.snocRun : ∀ {rs : List (Nat × Nat)} {s : List Nat} {f l : Nat} (f2 l2 : Nat), RunsOf (rs ++ [(f, l)]) s → f + l < f2 → 1 ≤ l2 → RunsOf (rs ++ [(f, l), (f2, l2)]) (s ++ List.range' f2 l2)
  | [], s, f, l, f2, l2, h, h4, h5 => by
    obtain ⟨h1, rfl⟩ := h
    exact ⟨h1, h4, _, rfl, h5, rfl⟩
  | [(f0, l0)], s, f, l, f2, l2, h, h4, h5 => by
    obtain ⟨h1, h2, r, rfl, h3⟩ := h
    exact ⟨h1, h2, r ++ List.range' f2 l2, by rw [List.append_assoc], RunsOf.snocRun (rs := []) f2 l2 h3 h4 h5⟩
  | (f0, l0) :: (f1, l1) :: q, s, f, l, f2, l2, h, h4, h5 => by
    obtain ⟨h1, h2, r, rfl, h3⟩ := h
    exact ⟨h1, h2, r ++ List.range' f2 l2, by rw [List.append_assoc], RunsOf.snocRun (rs := (f1, l1) :: q) f2 l2 h3 h4 h5⟩
def runsB : Nat → List (Nat × Nat) → List Nat
  | _, [] => []
  | next, (f, l) :: q => venc (f - next) ++ (venc (l - 1) ++ runsB (f + l + 1) q)
def runsW (s : List Nat) : List Nat := 2 :: (venc (runsF s).length ++ runsB 0 (runsF s))
def pints (rs : List (Nat × Nat)) : List (Int × Int) := rs.map fun p => ((p.1 : Int), (p.2 : Int))
end Go.Y
