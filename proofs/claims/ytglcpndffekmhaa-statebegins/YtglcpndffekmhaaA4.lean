/- StateBegins: for every input the law returns true, and each argument reads afterwards as it did before; no conditions. -/
import Derived.Test.YtglcpndffekmhaaA3
import Derived.KernelRfl
import Derived.Test.YtglcpndffekmhaaProg
import GoSem.ClaimJoined
import Derived.Test.YtglcpndffekmhaaA0
import Derived.ChangeOld
import Derived.ChangeArms
import Derived.SizedLaws
import Derived.WalkKit
import Derived.ProofKit
import Derived.OpenShut
import Derived.ShutString
import Derived.Carry
import Derived.Test.YtglcpndffekmhaaRows
set_option maxRecDepth 100000
set_option linter.unusedVariables false
noncomputable section
namespace Go.Proofs.Ytglcpndffekmhaa
open Go.Y Go
def ids : Ids := ⟨0, 0, 0, 0, 0⟩
@[reducible] def Y0 : Ty := .st (.pair .bool (.int .i64))
@[reducible] def Y1 : Ty := .st (.pair (.int .i64) (.int .i64))
@[reducible] def Y2 : Ty := .st (.pair (.int .i64) (.pair Y0 (.pair Y1 (.int .i64))))
@[reducible] def Y3 : Ty := .st (.pair (.int .i64) (.pair (.sl 42 Y2) (.int .i64)))
@[reducible] def Y4 : Ty := .st (.pair .bool (.pair (.sl 47 Y2) (.sl 27 (.sl 3 (.int .i64)))))
@[reducible] def Y5 : Ty := .st (.pair .bool (.pair (.sl 42 Y2) (.sl 27 (.sl 3 (.int .i64)))))
theorem mix : Try.prog.follows .mixedOrders = true := by kernel_rfl
noncomputable def TT : List (Nat × TI) := [(2, ⟨(.int .i64), 1, false, 8, 0, [], true, true⟩), (3, ⟨(.int .i64), 1, false, 8, 0, [], true, true⟩), (4, ⟨.bool, 1, false, 1, 0, [], true, true⟩), (22, ⟨(.sl 42 Y2), 1, false, 24, 42, [], false, true⟩), (23, ⟨(.sl 27 (.sl 3 (.int .i64))), 1, false, 24, 27, [], false, true⟩), (25, ⟨Y5, 3, true, 56, 0, [(0, 4), (1, 22), (2, 23)], false, true⟩), (27, ⟨(.sl 3 (.int .i64)), 1, false, 24, 3, [], false, true⟩), (30, ⟨(.sl 47 Y2), 1, false, 24, 47, [], false, true⟩), (32, ⟨Y4, 3, true, 56, 0, [(0, 4), (1, 30), (2, 23)], false, true⟩), (36, ⟨Y3, 3, true, 40, 0, [(0, 3), (1, 22), (2, 3)], false, true⟩), (38, ⟨Y0, 2, true, 16, 0, [(0, 4), (1, 2)], true, true⟩), (40, ⟨Y1, 2, true, 16, 0, [(0, 2), (1, 2)], true, true⟩), (42, ⟨Y2, 6, true, 48, 0, [(0, 3), (1, 38), (3, 40), (5, 3)], true, true⟩), (44, ⟨Y0, 2, true, 16, 0, [(0, 4), (1, 2)], true, true⟩), (45, ⟨Y1, 2, true, 16, 0, [(0, 2), (1, 2)], true, true⟩), (47, ⟨Y2, 6, true, 48, 0, [(0, 3), (1, 44), (3, 45), (5, 3)], true, true⟩), (49, ⟨(.int .u64), 1, false, 8, 0, [], true, true⟩), (72, ⟨(.fn Y2 .bool), 1, false, 8, 0, [], false, false⟩)]
theorem tt_ok : ∀ tb : Tabs, tb.tt = TT → TabOk Try.prog tb := TabOk.tt (by kernel_rfl)
noncomputable def known_Any_tb : Tabs := ⟨TT, [], []⟩
noncomputable def known_Any_H : Hints := ⟨[], [], [], ⟨⟨[0], [], [], []⟩, ⟨[(0, (.lf Y0))], [], []⟩⟩⟩
noncomputable def known_Any_sig : Sig := ⟨⟨[], [], []⟩, ⟨[(0, (.lf Y0))], [], []⟩, false⟩
noncomputable def known_Any_code : Code := match Try.f57.body with | some c => c | none => .skip
noncomputable def known_Any_res : List ResultVar := Try.f57.results.toList
noncomputable def known_Any_con (N : Nat) : Con := ⟨.unit, Y0, fun x => known_Any N⟩
noncomputable def known_Any_cs (N : Nat) : List (Nat × Con) := []
noncomputable def known_Any_ls (N : Nat) : List (Nat × LoopC (Bool × Int)) := []
noncomputable def known_Any_fun (N : Nat) : Fun := ⟨[], known_Any_tb, known_Any_H, known_Any_cs N, Y0, (known_Any_con N).F, known_Any_code, known_Any_res, known_Any_ls N⟩
theorem known_Any_run (N : Nat) (x : (tupTy []).den) : (known_Any_fun N).run (inSt [] x) = (known_Any_con N).F x := by kernel_rfl
theorem known_Any_calls (N : Nat) : CallsOk Try.prog ids (phi Try.prog ids) (known_Any_cs N) known_Any_tb := fun k sg con h1 h2 => by
  exact (get_nilE h2).elim
theorem known_Any_loops (N : Nat) : LoopsL (ρ := (known_Any_fun N).B.den) (known_Any_fun N).cs (known_Any_fun N).ls (known_Any_fun N).tb (known_Any_fun N).H (known_Any_fun N).fin (known_Any_fun N).B (known_Any_fun N).code := fun k lc h => by
  exact (get_nilE h).elim
theorem known_Any_ok (N : Nat) : FnOk Try.prog ids (phi Try.prog ids) 57 known_Any_sig (known_Any_con N) :=
  fnOk2 (q := known_Any_fun N) mix Try.func57 (by kernel_rfl) (by kernel_rfl) (by kernel_rfl) (by kernel_rfl) (by kernel_rfl) (by kernel_rfl) (by kernel_rfl) (tt_ok _ rfl) (fnsOk_of (by kernel_rfl)) (known_Any_calls N) (known_Any_loops N) (known_Any_run N)
noncomputable def span_Any_tb : Tabs := ⟨TT, [], []⟩
noncomputable def span_Any_H : Hints := ⟨[], [], [], ⟨⟨[0], [], [], []⟩, ⟨[(0, (.lf Y1))], [], []⟩⟩⟩
noncomputable def span_Any_sig : Sig := ⟨⟨[], [], []⟩, ⟨[(0, (.lf Y1))], [], []⟩, false⟩
noncomputable def span_Any_code : Code := match Try.f58.body with | some c => c | none => .skip
noncomputable def span_Any_res : List ResultVar := Try.f58.results.toList
noncomputable def span_Any_con (N : Nat) : Con := ⟨.unit, Y1, fun x => span_Any N⟩
noncomputable def span_Any_cs (N : Nat) : List (Nat × Con) := []
noncomputable def span_Any_ls (N : Nat) : List (Nat × LoopC (Int × Int)) := []
noncomputable def span_Any_fun (N : Nat) : Fun := ⟨[], span_Any_tb, span_Any_H, span_Any_cs N, Y1, (span_Any_con N).F, span_Any_code, span_Any_res, span_Any_ls N⟩
theorem span_Any_run (N : Nat) (x : (tupTy []).den) : (span_Any_fun N).run (inSt [] x) = (span_Any_con N).F x := by kernel_rfl
theorem span_Any_calls (N : Nat) : CallsOk Try.prog ids (phi Try.prog ids) (span_Any_cs N) span_Any_tb := fun k sg con h1 h2 => by
  exact (get_nilE h2).elim
theorem span_Any_loops (N : Nat) : LoopsL (ρ := (span_Any_fun N).B.den) (span_Any_fun N).cs (span_Any_fun N).ls (span_Any_fun N).tb (span_Any_fun N).H (span_Any_fun N).fin (span_Any_fun N).B (span_Any_fun N).code := fun k lc h => by
  exact (get_nilE h).elim
theorem span_Any_ok (N : Nat) : FnOk Try.prog ids (phi Try.prog ids) 58 span_Any_sig (span_Any_con N) :=
  fnOk2 (q := span_Any_fun N) mix Try.func58 (by kernel_rfl) (by kernel_rfl) (by kernel_rfl) (by kernel_rfl) (by kernel_rfl) (by kernel_rfl) (by kernel_rfl) (tt_ok _ rfl) (fnsOk_of (by kernel_rfl)) (span_Any_calls N) (span_Any_loops N) (span_Any_run N)
noncomputable def fact_Any_tb : Tabs := ⟨TT, [(57, known_Any_sig), (58, span_Any_sig)], []⟩
noncomputable def fact_Any_H : Hints := ⟨[], [], [], ⟨⟨[0], [], [], []⟩, ⟨[(0, (.lf Y2))], [], []⟩⟩⟩
noncomputable def fact_Any_sig : Sig := ⟨⟨[], [], []⟩, ⟨[(0, (.lf Y2))], [], []⟩, false⟩
noncomputable def fact_Any_code : Code := match Try.f27.body with | some c => c | none => .skip
noncomputable def fact_Any_res : List ResultVar := Try.f27.results.toList
noncomputable def fact_Any_con (N : Nat) : Con := ⟨.unit, Y2, fun x => fact_Any N⟩
noncomputable def fact_Any_cs (N : Nat) : List (Nat × Con) := [(57, known_Any_con N), (58, span_Any_con N)]
noncomputable def fact_Any_ls (N : Nat) : List (Nat × LoopC (Int × (Bool × Int) × (Int × Int) × Int)) := []
noncomputable def fact_Any_fun (N : Nat) : Fun := ⟨[], fact_Any_tb, fact_Any_H, fact_Any_cs N, Y2, (fact_Any_con N).F, fact_Any_code, fact_Any_res, fact_Any_ls N⟩
theorem fact_Any_run (N : Nat) (x : (tupTy []).den) : (fact_Any_fun N).run (inSt [] x) = (fact_Any_con N).F x := by kernel_rfl
theorem fact_Any_calls (N : Nat) : CallsOk Try.prog ids (phi Try.prog ids) (fact_Any_cs N) fact_Any_tb := fun k sg con h1 h2 => by
  rcases get_consE h2 with ⟨rfl, rfl⟩ | h2
  · obtain rfl := Option.some.inj (h1.symm.trans (show get fact_Any_tb.sigs 57 = some known_Any_sig from by kernel_rfl)); exact known_Any_ok N
  rcases get_consE h2 with ⟨rfl, rfl⟩ | h2
  · obtain rfl := Option.some.inj (h1.symm.trans (show get fact_Any_tb.sigs 58 = some span_Any_sig from by kernel_rfl)); exact span_Any_ok N
  exact (get_nilE h2).elim
theorem fact_Any_loops (N : Nat) : LoopsL (ρ := (fact_Any_fun N).B.den) (fact_Any_fun N).cs (fact_Any_fun N).ls (fact_Any_fun N).tb (fact_Any_fun N).H (fact_Any_fun N).fin (fact_Any_fun N).B (fact_Any_fun N).code := fun k lc h => by
  exact (get_nilE h).elim
theorem fact_Any_ok (N : Nat) : FnOk Try.prog ids (phi Try.prog ids) 27 fact_Any_sig (fact_Any_con N) :=
  fnOk2 (q := fact_Any_fun N) mix Try.func27 (by kernel_rfl) (by kernel_rfl) (by kernel_rfl) (by kernel_rfl) (by kernel_rfl) (by kernel_rfl) (by kernel_rfl) (tt_ok _ rfl) (fnsOk_of (by kernel_rfl)) (fact_Any_calls N) (fact_Any_loops N) (fact_Any_run N)
noncomputable def sign_Of_tb : Tabs := ⟨TT, [], []⟩
noncomputable def sign_Of_H : Hints := ⟨[], [], [], ⟨⟨[0], [], [], []⟩, ⟨[(0, (.lf (.int .i64)))], [], []⟩⟩⟩
noncomputable def sign_Of_sig : Sig := ⟨⟨[(0, (.lf (.int .i64)))], [], []⟩, ⟨[(0, (.lf (.int .i64)))], [], []⟩, false⟩
noncomputable def sign_Of_code : Code := match Try.f59.body with | some c => c | none => .skip
noncomputable def sign_Of_res : List ResultVar := Try.f59.results.toList
noncomputable def sign_Of_con (N : Nat) : Con := ⟨(.int .i64), (.int .i64), fun x => sign_Of N x⟩
noncomputable def sign_Of_cs (N : Nat) : List (Nat × Con) := []
noncomputable def sign_Of_ls (N : Nat) : List (Nat × LoopC (Int)) := []
noncomputable def sign_Of_fun (N : Nat) : Fun := ⟨[(.int .i64)], sign_Of_tb, sign_Of_H, sign_Of_cs N, (.int .i64), (sign_Of_con N).F, sign_Of_code, sign_Of_res, sign_Of_ls N⟩
theorem sign_Of_run (N : Nat) (x : (tupTy [(.int .i64)]).den) : (sign_Of_fun N).run (inSt [(.int .i64)] x) = (sign_Of_con N).F x := by kernel_rfl
theorem sign_Of_calls (N : Nat) : CallsOk Try.prog ids (phi Try.prog ids) (sign_Of_cs N) sign_Of_tb := fun k sg con h1 h2 => by
  exact (get_nilE h2).elim
theorem sign_Of_loops (N : Nat) : LoopsL (ρ := (sign_Of_fun N).B.den) (sign_Of_fun N).cs (sign_Of_fun N).ls (sign_Of_fun N).tb (sign_Of_fun N).H (sign_Of_fun N).fin (sign_Of_fun N).B (sign_Of_fun N).code := fun k lc h => by
  exact (get_nilE h).elim
theorem sign_Of_ok (N : Nat) : FnOk Try.prog ids (phi Try.prog ids) 59 sign_Of_sig (sign_Of_con N) :=
  fnOk2 (q := sign_Of_fun N) mix Try.func59 (by kernel_rfl) (by kernel_rfl) (by kernel_rfl) (by kernel_rfl) (by kernel_rfl) (by kernel_rfl) (by kernel_rfl) (tt_ok _ rfl) (fnsOk_of (by kernel_rfl)) (sign_Of_calls N) (sign_Of_loops N) (sign_Of_run N)
noncomputable def known_Of_tb : Tabs := ⟨TT, [], []⟩
noncomputable def known_Of_H : Hints := ⟨[], [], [], ⟨⟨[0], [], [], []⟩, ⟨[(0, (.lf Y0))], [], []⟩⟩⟩
noncomputable def known_Of_sig : Sig := ⟨⟨[(0, (.lf (.int .i64)))], [], []⟩, ⟨[(0, (.lf Y0))], [], []⟩, false⟩
noncomputable def known_Of_code : Code := match Try.f60.body with | some c => c | none => .skip
noncomputable def known_Of_res : List ResultVar := Try.f60.results.toList
noncomputable def known_Of_con (N : Nat) : Con := ⟨(.int .i64), Y0, fun x => known_Of N x⟩
noncomputable def known_Of_cs (N : Nat) : List (Nat × Con) := []
noncomputable def known_Of_ls (N : Nat) : List (Nat × LoopC (Bool × Int)) := []
noncomputable def known_Of_fun (N : Nat) : Fun := ⟨[(.int .i64)], known_Of_tb, known_Of_H, known_Of_cs N, Y0, (known_Of_con N).F, known_Of_code, known_Of_res, known_Of_ls N⟩
theorem known_Of_run (N : Nat) (x : (tupTy [(.int .i64)]).den) : (known_Of_fun N).run (inSt [(.int .i64)] x) = (known_Of_con N).F x := by kernel_rfl
theorem known_Of_calls (N : Nat) : CallsOk Try.prog ids (phi Try.prog ids) (known_Of_cs N) known_Of_tb := fun k sg con h1 h2 => by
  exact (get_nilE h2).elim
theorem known_Of_loops (N : Nat) : LoopsL (ρ := (known_Of_fun N).B.den) (known_Of_fun N).cs (known_Of_fun N).ls (known_Of_fun N).tb (known_Of_fun N).H (known_Of_fun N).fin (known_Of_fun N).B (known_Of_fun N).code := fun k lc h => by
  exact (get_nilE h).elim
theorem known_Of_ok (N : Nat) : FnOk Try.prog ids (phi Try.prog ids) 60 known_Of_sig (known_Of_con N) :=
  fnOk2 (q := known_Of_fun N) mix Try.func60 (by kernel_rfl) (by kernel_rfl) (by kernel_rfl) (by kernel_rfl) (by kernel_rfl) (by kernel_rfl) (by kernel_rfl) (tt_ok _ rfl) (fnsOk_of (by kernel_rfl)) (known_Of_calls N) (known_Of_loops N) (known_Of_run N)
noncomputable def span_Of_tb : Tabs := ⟨TT, [], []⟩
noncomputable def span_Of_H : Hints := ⟨[], [], [], ⟨⟨[0], [], [], []⟩, ⟨[(0, (.lf Y1))], [], []⟩⟩⟩
noncomputable def span_Of_sig : Sig := ⟨⟨[(0, (.lf (.int .i64)))], [], []⟩, ⟨[(0, (.lf Y1))], [], []⟩, false⟩
noncomputable def span_Of_code : Code := match Try.f61.body with | some c => c | none => .skip
noncomputable def span_Of_res : List ResultVar := Try.f61.results.toList
noncomputable def span_Of_con (N : Nat) : Con := ⟨(.int .i64), Y1, fun x => span_Of N x⟩
noncomputable def span_Of_cs (N : Nat) : List (Nat × Con) := []
noncomputable def span_Of_ls (N : Nat) : List (Nat × LoopC (Int × Int)) := []
noncomputable def span_Of_fun (N : Nat) : Fun := ⟨[(.int .i64)], span_Of_tb, span_Of_H, span_Of_cs N, Y1, (span_Of_con N).F, span_Of_code, span_Of_res, span_Of_ls N⟩
theorem span_Of_run (N : Nat) (x : (tupTy [(.int .i64)]).den) : (span_Of_fun N).run (inSt [(.int .i64)] x) = (span_Of_con N).F x := by kernel_rfl
theorem span_Of_calls (N : Nat) : CallsOk Try.prog ids (phi Try.prog ids) (span_Of_cs N) span_Of_tb := fun k sg con h1 h2 => by
  exact (get_nilE h2).elim
theorem span_Of_loops (N : Nat) : LoopsL (ρ := (span_Of_fun N).B.den) (span_Of_fun N).cs (span_Of_fun N).ls (span_Of_fun N).tb (span_Of_fun N).H (span_Of_fun N).fin (span_Of_fun N).B (span_Of_fun N).code := fun k lc h => by
  exact (get_nilE h).elim
theorem span_Of_ok (N : Nat) : FnOk Try.prog ids (phi Try.prog ids) 61 span_Of_sig (span_Of_con N) :=
  fnOk2 (q := span_Of_fun N) mix Try.func61 (by kernel_rfl) (by kernel_rfl) (by kernel_rfl) (by kernel_rfl) (by kernel_rfl) (by kernel_rfl) (by kernel_rfl) (tt_ok _ rfl) (fnsOk_of (by kernel_rfl)) (span_Of_calls N) (span_Of_loops N) (span_Of_run N)
noncomputable def parity_Of_tb : Tabs := ⟨TT, [], []⟩
noncomputable def parity_Of_H : Hints := ⟨[], [], [], ⟨⟨[0], [], [], []⟩, ⟨[(0, (.lf (.int .i64)))], [], []⟩⟩⟩
noncomputable def parity_Of_sig : Sig := ⟨⟨[(0, (.lf (.int .i64)))], [], []⟩, ⟨[(0, (.lf (.int .i64)))], [], []⟩, false⟩
noncomputable def parity_Of_code : Code := match Try.f62.body with | some c => c | none => .skip
noncomputable def parity_Of_res : List ResultVar := Try.f62.results.toList
noncomputable def parity_Of_con (N : Nat) : Con := ⟨(.int .i64), (.int .i64), fun x => parity_Of N x⟩
noncomputable def parity_Of_cs (N : Nat) : List (Nat × Con) := []
noncomputable def parity_Of_ls (N : Nat) : List (Nat × LoopC (Int)) := []
noncomputable def parity_Of_fun (N : Nat) : Fun := ⟨[(.int .i64)], parity_Of_tb, parity_Of_H, parity_Of_cs N, (.int .i64), (parity_Of_con N).F, parity_Of_code, parity_Of_res, parity_Of_ls N⟩
theorem parity_Of_run (N : Nat) (x : (tupTy [(.int .i64)]).den) : (parity_Of_fun N).run (inSt [(.int .i64)] x) = (parity_Of_con N).F x := by kernel_rfl
theorem parity_Of_calls (N : Nat) : CallsOk Try.prog ids (phi Try.prog ids) (parity_Of_cs N) parity_Of_tb := fun k sg con h1 h2 => by
  exact (get_nilE h2).elim
theorem parity_Of_loops (N : Nat) : LoopsL (ρ := (parity_Of_fun N).B.den) (parity_Of_fun N).cs (parity_Of_fun N).ls (parity_Of_fun N).tb (parity_Of_fun N).H (parity_Of_fun N).fin (parity_Of_fun N).B (parity_Of_fun N).code := fun k lc h => by
  exact (get_nilE h).elim
theorem parity_Of_ok (N : Nat) : FnOk Try.prog ids (phi Try.prog ids) 62 parity_Of_sig (parity_Of_con N) :=
  fnOk2 (q := parity_Of_fun N) mix Try.func62 (by kernel_rfl) (by kernel_rfl) (by kernel_rfl) (by kernel_rfl) (by kernel_rfl) (by kernel_rfl) (by kernel_rfl) (tt_ok _ rfl) (fnsOk_of (by kernel_rfl)) (parity_Of_calls N) (parity_Of_loops N) (parity_Of_run N)
noncomputable def fact_Of_tb : Tabs := ⟨TT, [(59, sign_Of_sig), (60, known_Of_sig), (61, span_Of_sig), (62, parity_Of_sig)], []⟩
noncomputable def fact_Of_H : Hints := ⟨[], [], [], ⟨⟨[0], [], [], []⟩, ⟨[(0, (.lf Y2))], [], []⟩⟩⟩
noncomputable def fact_Of_sig : Sig := ⟨⟨[(0, (.lf (.int .i64)))], [], []⟩, ⟨[(0, (.lf Y2))], [], []⟩, false⟩
noncomputable def fact_Of_code : Code := match Try.f28.body with | some c => c | none => .skip
noncomputable def fact_Of_res : List ResultVar := Try.f28.results.toList
noncomputable def fact_Of_con (N : Nat) : Con := ⟨(.int .i64), Y2, fun x => fact_Of N x⟩
noncomputable def fact_Of_cs (N : Nat) : List (Nat × Con) := [(59, sign_Of_con N), (60, known_Of_con N), (61, span_Of_con N), (62, parity_Of_con N)]
noncomputable def fact_Of_ls (N : Nat) : List (Nat × LoopC (Int × (Bool × Int) × (Int × Int) × Int)) := []
noncomputable def fact_Of_fun (N : Nat) : Fun := ⟨[(.int .i64)], fact_Of_tb, fact_Of_H, fact_Of_cs N, Y2, (fact_Of_con N).F, fact_Of_code, fact_Of_res, fact_Of_ls N⟩
theorem fact_Of_run (N : Nat) (x : (tupTy [(.int .i64)]).den) : (fact_Of_fun N).run (inSt [(.int .i64)] x) = (fact_Of_con N).F x := by kernel_rfl
theorem fact_Of_calls (N : Nat) : CallsOk Try.prog ids (phi Try.prog ids) (fact_Of_cs N) fact_Of_tb := fun k sg con h1 h2 => by
  rcases get_consE h2 with ⟨rfl, rfl⟩ | h2
  · obtain rfl := Option.some.inj (h1.symm.trans (show get fact_Of_tb.sigs 59 = some sign_Of_sig from by kernel_rfl)); exact sign_Of_ok N
  rcases get_consE h2 with ⟨rfl, rfl⟩ | h2
  · obtain rfl := Option.some.inj (h1.symm.trans (show get fact_Of_tb.sigs 60 = some known_Of_sig from by kernel_rfl)); exact known_Of_ok N
  rcases get_consE h2 with ⟨rfl, rfl⟩ | h2
  · obtain rfl := Option.some.inj (h1.symm.trans (show get fact_Of_tb.sigs 61 = some span_Of_sig from by kernel_rfl)); exact span_Of_ok N
  rcases get_consE h2 with ⟨rfl, rfl⟩ | h2
  · obtain rfl := Option.some.inj (h1.symm.trans (show get fact_Of_tb.sigs 62 = some parity_Of_sig from by kernel_rfl)); exact parity_Of_ok N
  exact (get_nilE h2).elim
theorem fact_Of_loops (N : Nat) : LoopsL (ρ := (fact_Of_fun N).B.den) (fact_Of_fun N).cs (fact_Of_fun N).ls (fact_Of_fun N).tb (fact_Of_fun N).H (fact_Of_fun N).fin (fact_Of_fun N).B (fact_Of_fun N).code := fun k lc h => by
  exact (get_nilE h).elim
theorem fact_Of_ok (N : Nat) : FnOk Try.prog ids (phi Try.prog ids) 28 fact_Of_sig (fact_Of_con N) :=
  fnOk2 (q := fact_Of_fun N) mix Try.func28 (by kernel_rfl) (by kernel_rfl) (by kernel_rfl) (by kernel_rfl) (by kernel_rfl) (by kernel_rfl) (by kernel_rfl) (tt_ok _ rfl) (fnsOk_of (by kernel_rfl)) (fact_Of_calls N) (fact_Of_loops N) (fact_Of_run N)
noncomputable def state_Begin_tb : Tabs := ⟨TT, [(28, fact_Of_sig)], [28, 35, 36]⟩
noncomputable def state_Begin_H : Hints := ⟨[(20, ⟨⟨[7, 2, 1, 6, 12, 13, 8, 9], [], [], []⟩, ⟨[(1, (.lf (.sl 47 Y2))), (2, (.lf (.int .i64))), (6, (.pt ⟨1006, 0, 0, 0, []⟩)), (7, (.pt ⟨1007, 0, 0, 0, []⟩)), (8, (.lf (.int .i64))), (9, (.pt ⟨1009, 0, 0, 0, []⟩)), (12, (.lf (.int .i64))), (13, (.lf (.int .i64)))], [], [(1006, ⟨0, some 32, [⟨0, .o 0 .bool⟩, ⟨0, .o 1 (.sl 47 Y2)⟩, ⟨0, .o 2 (.sl 27 (.sl 3 (.int .i64)))⟩]⟩), (1007, ⟨0, some 32, [⟨0, .o 0 .bool⟩, ⟨0, .o 1 (.sl 47 Y2)⟩, ⟨0, .o 1 (.sl 27 (.sl 3 (.int .i64)))⟩]⟩), (1009, ⟨0, some 47, [⟨0, .o 0 (.int .i64)⟩, ⟨0, .o 0 .bool⟩, ⟨0, .o 0 (.int .i64)⟩, ⟨0, .o 0 (.int .i64)⟩, ⟨0, .o 0 (.int .i64)⟩, ⟨0, .o 0 (.int .i64)⟩]⟩)]⟩⟩)], [], [(4, ⟨⟨[13, 7, 2, 1, 6, 12], [], [], [(1007, 2, 1)]⟩, ⟨[(1, (.lf (.sl 47 Y2))), (2, (.lf (.int .i64))), (6, (.pt ⟨1006, 0, 0, 0, []⟩)), (7, (.pt ⟨1007, 0, 0, 0, []⟩)), (12, (.lf (.int .i64))), (13, (.lf (.int .i64)))], [], [(1006, ⟨0, some 32, [⟨0, .o 0 .bool⟩, ⟨0, .o 1 (.sl 47 Y2)⟩, ⟨0, .o 2 (.sl 27 (.sl 3 (.int .i64)))⟩]⟩), (1007, ⟨0, some 32, [⟨0, .o 0 .bool⟩, ⟨0, .o 1 (.sl 47 Y2)⟩, ⟨0, .o 1 (.sl 27 (.sl 3 (.int .i64)))⟩]⟩)]⟩, [(0, ⟨⟨[6, 7], [], [], []⟩, ⟨[(6, (.pt ⟨1006, 0, 0, 0, []⟩)), (7, (.pt ⟨1007, 0, 0, 0, []⟩))], [], [(1006, ⟨0, some 32, [⟨0, .o 0 .bool⟩, ⟨0, .o 1 (.sl 47 Y2)⟩, ⟨0, .o 2 (.sl 27 (.sl 3 (.int .i64)))⟩]⟩), (1007, ⟨0, some 32, [⟨0, .o 0 .bool⟩, ⟨0, .o 1 (.sl 47 Y2)⟩, ⟨0, .o 1 (.sl 27 (.sl 3 (.int .i64)))⟩]⟩)]⟩⟩)]⟩)], ⟨⟨[0], [], [], []⟩, ⟨[(0, (.lf Y4))], [], []⟩⟩⟩
noncomputable def state_Begin_sig : Sig := ⟨⟨[(0, (.lf (.int .i64))), (1, (.lf (.sl 47 Y2))), (2, (.lf (.int .i64)))], [], []⟩, ⟨[(0, (.lf Y4))], [], []⟩, false⟩
noncomputable def state_Begin_code : Code := match Try.f16.body with | some c => c | none => .skip
noncomputable def state_Begin_res : List ResultVar := Try.f16.results.toList
noncomputable def state_Begin_con (N : Nat) : Con := ⟨(.pair (.int .i64) (.pair (.sl 47 Y2) (.int .i64))), Y4, fun x => state_Begin N x.1 x.2.1 x.2.2⟩
noncomputable def state_Begin_cs (N : Nat) : List (Nat × Con) := [(28, fact_Of_con N)]
noncomputable def state_Begin_G4 (N n : Nat) (x : (tupTy [(.sl 47 Y2), (.int .i64), (.int .i64), (.int .i64), .bool, (.sl 47 Y2), (.sl 27 (.sl 3 (.int .i64))), .bool, (.sl 47 Y2), (.sl 27 (.sl 3 (.int .i64)))]).den) (ks : List (L → Option (Bool × (List (Int × (Bool × Int) × (Int × Int) × Int)) × List (List Int)))) : Option (Bool × (List (Int × (Bool × Int) × (Int × Int) × Int)) × List (List Int)) := state_Begin_l4 N (fun y => kget ks 0 ⟨(.pair .bool (.pair (.sl 47 Y2) (.pair (.sl 27 (.sl 3 (.int .i64))) (.pair .bool (.pair (.sl 47 Y2) (.sl 27 (.sl 3 (.int .i64)))))))), y⟩) n x.1 x.2.1 x.2.2.1 x.2.2.2.1 x.2.2.2.2.1 x.2.2.2.2.2.1 x.2.2.2.2.2.2.1 x.2.2.2.2.2.2.2.1 x.2.2.2.2.2.2.2.2.1 x.2.2.2.2.2.2.2.2.2
noncomputable def state_Begin_lh4 : LH := lhAt state_Begin_H 4
noncomputable def state_Begin_c4 : Code := codeAt 4 state_Begin_code
noncomputable def state_Begin_ls (N : Nat) : List (Nat × LoopC (Bool × (List (Int × (Bool × Int) × (Int × Int) × Int)) × List (List Int))) := [(4, ⟨tupTy [(.sl 47 Y2), (.int .i64), (.int .i64), (.int .i64), .bool, (.sl 47 Y2), (.sl 27 (.sl 3 (.int .i64))), .bool, (.sl 47 Y2), (.sl 27 (.sl 3 (.int .i64)))], lenK 1 (state_Begin_G4 N N)⟩)]
noncomputable def state_Begin_fun (N : Nat) : Fun := ⟨[(.int .i64), (.sl 47 Y2), (.int .i64)], state_Begin_tb, state_Begin_H, state_Begin_cs N, Y4, (state_Begin_con N).F, state_Begin_code, state_Begin_res, state_Begin_ls N⟩
theorem state_Begin_run (N : Nat) (x : (tupTy [(.int .i64), (.sl 47 Y2), (.int .i64)]).den) : (state_Begin_fun N).run (inSt [(.int .i64), (.sl 47 Y2), (.int .i64)] x) = (state_Begin_con N).F x := by kernel_rfl
theorem state_Begin_o4 (N : Nat) : RoundOk (ρ := (state_Begin_fun N).B.den) (state_Begin_fun N).cs (state_Begin_fun N).ls (state_Begin_fun N).tb (state_Begin_fun N).H (state_Begin_fun N).fin (state_Begin_fun N).B state_Begin_lh4 state_Begin_c4 [(.sl 47 Y2), (.int .i64), (.int .i64), (.int .i64), .bool, (.sl 47 Y2), (.sl 27 (.sl 3 (.int .i64))), .bool, (.sl 47 Y2), (.sl 27 (.sl 3 (.int .i64)))] [(.pair .bool (.pair (.sl 47 Y2) (.pair (.sl 27 (.sl 3 (.int .i64))) (.pair .bool (.pair (.sl 47 Y2) (.sl 27 (.sl 3 (.int .i64))))))))] (state_Begin_G4 N) :=
  ⟨by kernel_rfl, fun _ _ => by kernel_rfl, fun _ _ _ => by kernel_rfl⟩
theorem state_Begin_calls (N : Nat) : CallsOk Try.prog ids (phi Try.prog ids) (state_Begin_cs N) state_Begin_tb := fun k sg con h1 h2 => by
  rcases get_consE h2 with ⟨rfl, rfl⟩ | h2
  · obtain rfl := Option.some.inj (h1.symm.trans (show get state_Begin_tb.sigs 28 = some fact_Of_sig from by kernel_rfl)); exact fact_Of_ok N
  exact (get_nilE h2).elim
theorem state_Begin_loops (N : Nat) : LoopsL (ρ := (state_Begin_fun N).B.den) (state_Begin_fun N).cs (state_Begin_fun N).ls (state_Begin_fun N).tb (state_Begin_fun N).H (state_Begin_fun N).fin (state_Begin_fun N).B (state_Begin_fun N).code := fun k lc h => by
  rcases get_consE h with ⟨rfl, rfl⟩ | h
  · exact ⟨_, loopOk (state_Begin_o4 N)⟩
  exact (get_nilE h).elim
theorem state_Begin_ok (N : Nat) : FnOk Try.prog ids (phi Try.prog ids) 16 state_Begin_sig (state_Begin_con N) :=
  fnOk2 (q := state_Begin_fun N) mix Try.func16 (by kernel_rfl) (by kernel_rfl) (by kernel_rfl) (by kernel_rfl) (by kernel_rfl) (by kernel_rfl) (by kernel_rfl) (tt_ok _ rfl) (fnsOk_of (by kernel_rfl)) (state_Begin_calls N) (state_Begin_loops N) (state_Begin_run N)
noncomputable def state_None_tb : Tabs := ⟨TT, [], []⟩
noncomputable def state_None_H : Hints := ⟨[], [], [], ⟨⟨[0], [], [], []⟩, ⟨[(0, (.lf Y4))], [], []⟩⟩⟩
noncomputable def state_None_sig : Sig := ⟨⟨[], [], []⟩, ⟨[(0, (.lf Y4))], [], []⟩, false⟩
noncomputable def state_None_code : Code := match Try.f23.body with | some c => c | none => .skip
noncomputable def state_None_res : List ResultVar := Try.f23.results.toList
noncomputable def state_None_con (N : Nat) : Con := ⟨.unit, Y4, fun x => state_None N⟩
noncomputable def state_None_cs (N : Nat) : List (Nat × Con) := []
noncomputable def state_None_ls (N : Nat) : List (Nat × LoopC (Bool × (List (Int × (Bool × Int) × (Int × Int) × Int)) × List (List Int))) := []
noncomputable def state_None_fun (N : Nat) : Fun := ⟨[], state_None_tb, state_None_H, state_None_cs N, Y4, (state_None_con N).F, state_None_code, state_None_res, state_None_ls N⟩
theorem state_None_run (N : Nat) (x : (tupTy []).den) : (state_None_fun N).run (inSt [] x) = (state_None_con N).F x := by kernel_rfl
theorem state_None_calls (N : Nat) : CallsOk Try.prog ids (phi Try.prog ids) (state_None_cs N) state_None_tb := fun k sg con h1 h2 => by
  exact (get_nilE h2).elim
theorem state_None_loops (N : Nat) : LoopsL (ρ := (state_None_fun N).B.den) (state_None_fun N).cs (state_None_fun N).ls (state_None_fun N).tb (state_None_fun N).H (state_None_fun N).fin (state_None_fun N).B (state_None_fun N).code := fun k lc h => by
  exact (get_nilE h).elim
theorem state_None_ok (N : Nat) : FnOk Try.prog ids (phi Try.prog ids) 23 state_None_sig (state_None_con N) :=
  fnOk2 (q := state_None_fun N) mix Try.func23 (by kernel_rfl) (by kernel_rfl) (by kernel_rfl) (by kernel_rfl) (by kernel_rfl) (by kernel_rfl) (by kernel_rfl) (tt_ok _ rfl) (fnsOk_of (by kernel_rfl)) (state_None_calls N) (state_None_loops N) (state_None_run N)
noncomputable def bits_Right_tb : Tabs := ⟨TT, [], []⟩
noncomputable def bits_Right_H : Hints := ⟨[], [], [(6, ⟨⟨[16, 0, 5, 14, 15], [], [], []⟩, ⟨[(0, (.lf (.int .i64))), (5, (.lf (.int .i64))), (14, (.lf (.sl 3 (.int .i64)))), (15, (.lf (.int .i64))), (16, (.lf (.int .i64)))], [], []⟩, [(0, ⟨⟨[], [], [], []⟩, ⟨[], [], []⟩⟩)]⟩)], ⟨⟨[0], [], [], []⟩, ⟨[(0, (.lf .bool))], [], []⟩⟩⟩
noncomputable def bits_Right_sig : Sig := ⟨⟨[(0, (.lf (.int .i64))), (1, (.lf (.sl 3 (.int .i64))))], [], []⟩, ⟨[(0, (.lf .bool))], [], []⟩, false⟩
noncomputable def bits_Right_code : Code := match Try.f29.body with | some c => c | none => .skip
noncomputable def bits_Right_res : List ResultVar := Try.f29.results.toList
noncomputable def bits_Right_con (N : Nat) : Con := ⟨(.pair (.int .i64) (.sl 3 (.int .i64))), .bool, fun x => bits_Right N x.1 x.2⟩
noncomputable def bits_Right_cs (N : Nat) : List (Nat × Con) := []
noncomputable def bits_Right_G6 (N n : Nat) (x : (tupTy [(.int .i64), (.int .i64), (.sl 3 (.int .i64)), (.int .i64), (.int .i64)]).den) (ks : List (L → Option (Bool))) : Option (Bool) := bits_Right_l6 N (fun y => kget ks 0 ⟨.unit, y⟩) (fun y => kget ks 1 ⟨.bool, y⟩) n x.1 x.2.1 x.2.2.1 x.2.2.2.1 x.2.2.2.2
noncomputable def bits_Right_lh6 : LH := lhAt bits_Right_H 6
noncomputable def bits_Right_c6 : Code := codeAt 6 bits_Right_code
noncomputable def bits_Right_ls (N : Nat) : List (Nat × LoopC (Bool)) := [(6, ⟨tupTy [(.int .i64), (.int .i64), (.sl 3 (.int .i64)), (.int .i64), (.int .i64)], lenK 2 (bits_Right_G6 N N)⟩)]
noncomputable def bits_Right_fun (N : Nat) : Fun := ⟨[(.int .i64), (.sl 3 (.int .i64))], bits_Right_tb, bits_Right_H, bits_Right_cs N, .bool, (bits_Right_con N).F, bits_Right_code, bits_Right_res, bits_Right_ls N⟩
theorem bits_Right_run (N : Nat) (x : (tupTy [(.int .i64), (.sl 3 (.int .i64))]).den) : (bits_Right_fun N).run (inSt [(.int .i64), (.sl 3 (.int .i64))] x) = (bits_Right_con N).F x := by kernel_rfl
theorem bits_Right_o6 (N : Nat) : RoundOk (ρ := (bits_Right_fun N).B.den) (bits_Right_fun N).cs (bits_Right_fun N).ls (bits_Right_fun N).tb (bits_Right_fun N).H (bits_Right_fun N).fin (bits_Right_fun N).B bits_Right_lh6 bits_Right_c6 [(.int .i64), (.int .i64), (.sl 3 (.int .i64)), (.int .i64), (.int .i64)] [.unit, .bool] (bits_Right_G6 N) :=
  ⟨by kernel_rfl, fun _ _ => by kernel_rfl, fun _ _ _ => by kernel_rfl⟩
theorem bits_Right_calls (N : Nat) : CallsOk Try.prog ids (phi Try.prog ids) (bits_Right_cs N) bits_Right_tb := fun k sg con h1 h2 => by
  exact (get_nilE h2).elim
theorem bits_Right_loops (N : Nat) : LoopsL (ρ := (bits_Right_fun N).B.den) (bits_Right_fun N).cs (bits_Right_fun N).ls (bits_Right_fun N).tb (bits_Right_fun N).H (bits_Right_fun N).fin (bits_Right_fun N).B (bits_Right_fun N).code := fun k lc h => by
  rcases get_consE h with ⟨rfl, rfl⟩ | h
  · exact ⟨_, loopOk (bits_Right_o6 N)⟩
  exact (get_nilE h).elim
theorem bits_Right_ok (N : Nat) : FnOk Try.prog ids (phi Try.prog ids) 29 bits_Right_sig (bits_Right_con N) :=
  fnOk2 (q := bits_Right_fun N) mix Try.func29 (by kernel_rfl) (by kernel_rfl) (by kernel_rfl) (by kernel_rfl) (by kernel_rfl) (by kernel_rfl) (by kernel_rfl) (tt_ok _ rfl) (fnsOk_of (by kernel_rfl)) (bits_Right_calls N) (bits_Right_loops N) (bits_Right_run N)
noncomputable def slices_IndexFunc_fact_Value_fact_Value_tb : Tabs := ⟨TT, [], []⟩
noncomputable def slices_IndexFunc_fact_Value_fact_Value_H : Hints := ⟨[], [], [(3, ⟨⟨[8, 0, 1, 7], [], [], []⟩, ⟨[(0, (.lf (.sl 47 Y2))), (1, (.lf (.fn Y2 .bool))), (7, (.lf (.int .i64))), (8, (.lf (.int .i64)))], [], []⟩, [(0, ⟨⟨[], [], [], []⟩, ⟨[], [], []⟩⟩)]⟩)], ⟨⟨[0], [], [], []⟩, ⟨[(0, (.lf (.int .i64)))], [], []⟩⟩⟩
noncomputable def slices_IndexFunc_fact_Value_fact_Value_sig : Sig := ⟨⟨[(0, (.lf (.sl 47 Y2))), (1, (.lf (.fn Y2 .bool)))], [], []⟩, ⟨[(0, (.lf (.int .i64)))], [], []⟩, false⟩
noncomputable def slices_IndexFunc_fact_Value_fact_Value_code : Code := match Try.f63.body with | some c => c | none => .skip
noncomputable def slices_IndexFunc_fact_Value_fact_Value_res : List ResultVar := Try.f63.results.toList
noncomputable def slices_IndexFunc_fact_Value_fact_Value_con (N : Nat) : Con := ⟨(.pair (.sl 47 Y2) (.fn Y2 .bool)), (.int .i64), fun x => slices_IndexFunc_fact_Value_fact_Value N x.1 x.2⟩
noncomputable def slices_IndexFunc_fact_Value_fact_Value_cs (N : Nat) : List (Nat × Con) := []
noncomputable def slices_IndexFunc_fact_Value_fact_Value_G3 (N n : Nat) (x : (tupTy [(.sl 47 Y2), (.fn Y2 .bool), (.int .i64), (.int .i64)]).den) (ks : List (L → Option (Int))) : Option (Int) := slices_IndexFunc_fact_Value_fact_Value_l3 N (fun y => kget ks 0 ⟨.unit, y⟩) (fun y => kget ks 1 ⟨(.int .i64), y⟩) n x.1 x.2.1 x.2.2.1 x.2.2.2
noncomputable def slices_IndexFunc_fact_Value_fact_Value_lh3 : LH := lhAt slices_IndexFunc_fact_Value_fact_Value_H 3
noncomputable def slices_IndexFunc_fact_Value_fact_Value_c3 : Code := codeAt 3 slices_IndexFunc_fact_Value_fact_Value_code
noncomputable def slices_IndexFunc_fact_Value_fact_Value_ls (N : Nat) : List (Nat × LoopC (Int)) := [(3, ⟨tupTy [(.sl 47 Y2), (.fn Y2 .bool), (.int .i64), (.int .i64)], lenK 2 (slices_IndexFunc_fact_Value_fact_Value_G3 N N)⟩)]
noncomputable def slices_IndexFunc_fact_Value_fact_Value_fun (N : Nat) : Fun := ⟨[(.sl 47 Y2), (.fn Y2 .bool)], slices_IndexFunc_fact_Value_fact_Value_tb, slices_IndexFunc_fact_Value_fact_Value_H, slices_IndexFunc_fact_Value_fact_Value_cs N, (.int .i64), (slices_IndexFunc_fact_Value_fact_Value_con N).F, slices_IndexFunc_fact_Value_fact_Value_code, slices_IndexFunc_fact_Value_fact_Value_res, slices_IndexFunc_fact_Value_fact_Value_ls N⟩
theorem slices_IndexFunc_fact_Value_fact_Value_run (N : Nat) (x : (tupTy [(.sl 47 Y2), (.fn Y2 .bool)]).den) : (slices_IndexFunc_fact_Value_fact_Value_fun N).run (inSt [(.sl 47 Y2), (.fn Y2 .bool)] x) = (slices_IndexFunc_fact_Value_fact_Value_con N).F x := by kernel_rfl
theorem slices_IndexFunc_fact_Value_fact_Value_o3 (N : Nat) : RoundOk (ρ := (slices_IndexFunc_fact_Value_fact_Value_fun N).B.den) (slices_IndexFunc_fact_Value_fact_Value_fun N).cs (slices_IndexFunc_fact_Value_fact_Value_fun N).ls (slices_IndexFunc_fact_Value_fact_Value_fun N).tb (slices_IndexFunc_fact_Value_fact_Value_fun N).H (slices_IndexFunc_fact_Value_fact_Value_fun N).fin (slices_IndexFunc_fact_Value_fact_Value_fun N).B slices_IndexFunc_fact_Value_fact_Value_lh3 slices_IndexFunc_fact_Value_fact_Value_c3 [(.sl 47 Y2), (.fn Y2 .bool), (.int .i64), (.int .i64)] [.unit, (.int .i64)] (slices_IndexFunc_fact_Value_fact_Value_G3 N) :=
  ⟨by kernel_rfl, fun _ _ => by kernel_rfl, fun _ _ _ => by kernel_rfl⟩
theorem slices_IndexFunc_fact_Value_fact_Value_calls (N : Nat) : CallsOk Try.prog ids (phi Try.prog ids) (slices_IndexFunc_fact_Value_fact_Value_cs N) slices_IndexFunc_fact_Value_fact_Value_tb := fun k sg con h1 h2 => by
  exact (get_nilE h2).elim
theorem slices_IndexFunc_fact_Value_fact_Value_loops (N : Nat) : LoopsL (ρ := (slices_IndexFunc_fact_Value_fact_Value_fun N).B.den) (slices_IndexFunc_fact_Value_fact_Value_fun N).cs (slices_IndexFunc_fact_Value_fact_Value_fun N).ls (slices_IndexFunc_fact_Value_fact_Value_fun N).tb (slices_IndexFunc_fact_Value_fact_Value_fun N).H (slices_IndexFunc_fact_Value_fact_Value_fun N).fin (slices_IndexFunc_fact_Value_fact_Value_fun N).B (slices_IndexFunc_fact_Value_fact_Value_fun N).code := fun k lc h => by
  rcases get_consE h with ⟨rfl, rfl⟩ | h
  · exact ⟨_, loopOk (slices_IndexFunc_fact_Value_fact_Value_o3 N)⟩
  exact (get_nilE h).elim
theorem slices_IndexFunc_fact_Value_fact_Value_ok (N : Nat) : FnOk Try.prog ids (phi Try.prog ids) 63 slices_IndexFunc_fact_Value_fact_Value_sig (slices_IndexFunc_fact_Value_fact_Value_con N) :=
  fnOk2 (q := slices_IndexFunc_fact_Value_fact_Value_fun N) mix Try.func63 (by kernel_rfl) (by kernel_rfl) (by kernel_rfl) (by kernel_rfl) (by kernel_rfl) (by kernel_rfl) (by kernel_rfl) (tt_ok _ rfl) (fnsOk_of (by kernel_rfl)) (slices_IndexFunc_fact_Value_fact_Value_calls N) (slices_IndexFunc_fact_Value_fact_Value_loops N) (slices_IndexFunc_fact_Value_fact_Value_run N)
noncomputable def slices_ContainsFunc_fact_Value_fact_Value_tb : Tabs := ⟨TT, [(63, slices_IndexFunc_fact_Value_fact_Value_sig)], []⟩
noncomputable def slices_ContainsFunc_fact_Value_fact_Value_H : Hints := ⟨[], [], [], ⟨⟨[0], [], [], []⟩, ⟨[(0, (.lf .bool))], [], []⟩⟩⟩
noncomputable def slices_ContainsFunc_fact_Value_fact_Value_sig : Sig := ⟨⟨[(0, (.lf (.sl 47 Y2))), (1, (.lf (.fn Y2 .bool)))], [], []⟩, ⟨[(0, (.lf .bool))], [], []⟩, false⟩
noncomputable def slices_ContainsFunc_fact_Value_fact_Value_code : Code := match Try.f30.body with | some c => c | none => .skip
noncomputable def slices_ContainsFunc_fact_Value_fact_Value_res : List ResultVar := Try.f30.results.toList
noncomputable def slices_ContainsFunc_fact_Value_fact_Value_con (N : Nat) : Con := ⟨(.pair (.sl 47 Y2) (.fn Y2 .bool)), .bool, fun x => slices_ContainsFunc_fact_Value_fact_Value N x.1 x.2⟩
noncomputable def slices_ContainsFunc_fact_Value_fact_Value_cs (N : Nat) : List (Nat × Con) := [(63, slices_IndexFunc_fact_Value_fact_Value_con N)]
noncomputable def slices_ContainsFunc_fact_Value_fact_Value_ls (N : Nat) : List (Nat × LoopC (Bool)) := []
noncomputable def slices_ContainsFunc_fact_Value_fact_Value_fun (N : Nat) : Fun := ⟨[(.sl 47 Y2), (.fn Y2 .bool)], slices_ContainsFunc_fact_Value_fact_Value_tb, slices_ContainsFunc_fact_Value_fact_Value_H, slices_ContainsFunc_fact_Value_fact_Value_cs N, .bool, (slices_ContainsFunc_fact_Value_fact_Value_con N).F, slices_ContainsFunc_fact_Value_fact_Value_code, slices_ContainsFunc_fact_Value_fact_Value_res, slices_ContainsFunc_fact_Value_fact_Value_ls N⟩
theorem slices_ContainsFunc_fact_Value_fact_Value_run (N : Nat) (x : (tupTy [(.sl 47 Y2), (.fn Y2 .bool)]).den) : (slices_ContainsFunc_fact_Value_fact_Value_fun N).run (inSt [(.sl 47 Y2), (.fn Y2 .bool)] x) = (slices_ContainsFunc_fact_Value_fact_Value_con N).F x := by kernel_rfl
theorem slices_ContainsFunc_fact_Value_fact_Value_calls (N : Nat) : CallsOk Try.prog ids (phi Try.prog ids) (slices_ContainsFunc_fact_Value_fact_Value_cs N) slices_ContainsFunc_fact_Value_fact_Value_tb := fun k sg con h1 h2 => by
  rcases get_consE h2 with ⟨rfl, rfl⟩ | h2
  · obtain rfl := Option.some.inj (h1.symm.trans (show get slices_ContainsFunc_fact_Value_fact_Value_tb.sigs 63 = some slices_IndexFunc_fact_Value_fact_Value_sig from by kernel_rfl)); exact slices_IndexFunc_fact_Value_fact_Value_ok N
  exact (get_nilE h2).elim
theorem slices_ContainsFunc_fact_Value_fact_Value_loops (N : Nat) : LoopsL (ρ := (slices_ContainsFunc_fact_Value_fact_Value_fun N).B.den) (slices_ContainsFunc_fact_Value_fact_Value_fun N).cs (slices_ContainsFunc_fact_Value_fact_Value_fun N).ls (slices_ContainsFunc_fact_Value_fact_Value_fun N).tb (slices_ContainsFunc_fact_Value_fact_Value_fun N).H (slices_ContainsFunc_fact_Value_fact_Value_fun N).fin (slices_ContainsFunc_fact_Value_fact_Value_fun N).B (slices_ContainsFunc_fact_Value_fact_Value_fun N).code := fun k lc h => by
  exact (get_nilE h).elim
theorem slices_ContainsFunc_fact_Value_fact_Value_ok (N : Nat) : FnOk Try.prog ids (phi Try.prog ids) 30 slices_ContainsFunc_fact_Value_fact_Value_sig (slices_ContainsFunc_fact_Value_fact_Value_con N) :=
  fnOk2 (q := slices_ContainsFunc_fact_Value_fact_Value_fun N) mix Try.func30 (by kernel_rfl) (by kernel_rfl) (by kernel_rfl) (by kernel_rfl) (by kernel_rfl) (by kernel_rfl) (by kernel_rfl) (tt_ok _ rfl) (fnsOk_of (by kernel_rfl)) (slices_ContainsFunc_fact_Value_fact_Value_calls N) (slices_ContainsFunc_fact_Value_fact_Value_loops N) (slices_ContainsFunc_fact_Value_fact_Value_run N)
noncomputable def sign_Right_tb : Tabs := ⟨TT, [], []⟩
noncomputable def sign_Right_H : Hints := ⟨[], [], [], ⟨⟨[0], [], [], []⟩, ⟨[(0, (.lf .bool))], [], []⟩⟩⟩
noncomputable def sign_Right_sig : Sig := ⟨⟨[(0, (.lf (.int .i64)))], [], []⟩, ⟨[(0, (.lf .bool))], [], []⟩, false⟩
noncomputable def sign_Right_code : Code := match Try.f64.body with | some c => c | none => .skip
noncomputable def sign_Right_res : List ResultVar := Try.f64.results.toList
noncomputable def sign_Right_con (N : Nat) : Con := ⟨(.int .i64), .bool, fun x => sign_Right N x⟩
noncomputable def sign_Right_cs (N : Nat) : List (Nat × Con) := []
noncomputable def sign_Right_ls (N : Nat) : List (Nat × LoopC (Bool)) := []
noncomputable def sign_Right_fun (N : Nat) : Fun := ⟨[(.int .i64)], sign_Right_tb, sign_Right_H, sign_Right_cs N, .bool, (sign_Right_con N).F, sign_Right_code, sign_Right_res, sign_Right_ls N⟩
theorem sign_Right_run (N : Nat) (x : (tupTy [(.int .i64)]).den) : (sign_Right_fun N).run (inSt [(.int .i64)] x) = (sign_Right_con N).F x := by kernel_rfl
theorem sign_Right_calls (N : Nat) : CallsOk Try.prog ids (phi Try.prog ids) (sign_Right_cs N) sign_Right_tb := fun k sg con h1 h2 => by
  exact (get_nilE h2).elim
theorem sign_Right_loops (N : Nat) : LoopsL (ρ := (sign_Right_fun N).B.den) (sign_Right_fun N).cs (sign_Right_fun N).ls (sign_Right_fun N).tb (sign_Right_fun N).H (sign_Right_fun N).fin (sign_Right_fun N).B (sign_Right_fun N).code := fun k lc h => by
  exact (get_nilE h).elim
theorem sign_Right_ok (N : Nat) : FnOk Try.prog ids (phi Try.prog ids) 64 sign_Right_sig (sign_Right_con N) :=
  fnOk2 (q := sign_Right_fun N) mix Try.func64 (by kernel_rfl) (by kernel_rfl) (by kernel_rfl) (by kernel_rfl) (by kernel_rfl) (by kernel_rfl) (by kernel_rfl) (tt_ok _ rfl) (fnsOk_of (by kernel_rfl)) (sign_Right_calls N) (sign_Right_loops N) (sign_Right_run N)
noncomputable def known_Known_tidy_tb : Tabs := ⟨TT, [], []⟩
noncomputable def known_Known_tidy_H : Hints := ⟨[(5, ⟨⟨[2, 1], [], [], []⟩, ⟨[(1, (.pt ⟨1001, 0, 0, 0, []⟩)), (2, (.pt ⟨1002, 0, 0, 0, []⟩))], [], [(1001, ⟨0, some 44, [⟨0, .o 0 .bool⟩, ⟨0, .o 0 (.int .i64)⟩]⟩), (1002, ⟨0, some 44, [⟨0, .o 0 .bool⟩, ⟨0, .o 0 (.int .i64)⟩]⟩)]⟩⟩)], [], [], ⟨⟨[0], [], [], []⟩, ⟨[(0, (.lf Y0))], [], []⟩⟩⟩
noncomputable def known_Known_tidy_sig : Sig := ⟨⟨[(0, (.lf Y0))], [], []⟩, ⟨[(0, (.lf Y0))], [], []⟩, false⟩
noncomputable def known_Known_tidy_code : Code := match Try.f94.body with | some c => c | none => .skip
noncomputable def known_Known_tidy_res : List ResultVar := Try.f94.results.toList
noncomputable def known_Known_tidy_con (N : Nat) : Con := ⟨Y0, Y0, fun x => known_Known_tidy N x⟩
noncomputable def known_Known_tidy_cs (N : Nat) : List (Nat × Con) := []
noncomputable def known_Known_tidy_ls (N : Nat) : List (Nat × LoopC (Bool × Int)) := []
noncomputable def known_Known_tidy_fun (N : Nat) : Fun := ⟨[Y0], known_Known_tidy_tb, known_Known_tidy_H, known_Known_tidy_cs N, Y0, (known_Known_tidy_con N).F, known_Known_tidy_code, known_Known_tidy_res, known_Known_tidy_ls N⟩
theorem known_Known_tidy_run (N : Nat) (x : (tupTy [Y0]).den) : (known_Known_tidy_fun N).run (inSt [Y0] x) = (known_Known_tidy_con N).F x := by kernel_rfl
theorem known_Known_tidy_calls (N : Nat) : CallsOk Try.prog ids (phi Try.prog ids) (known_Known_tidy_cs N) known_Known_tidy_tb := fun k sg con h1 h2 => by
  exact (get_nilE h2).elim
theorem known_Known_tidy_loops (N : Nat) : LoopsL (ρ := (known_Known_tidy_fun N).B.den) (known_Known_tidy_fun N).cs (known_Known_tidy_fun N).ls (known_Known_tidy_fun N).tb (known_Known_tidy_fun N).H (known_Known_tidy_fun N).fin (known_Known_tidy_fun N).B (known_Known_tidy_fun N).code := fun k lc h => by
  exact (get_nilE h).elim
theorem known_Known_tidy_ok (N : Nat) : FnOk Try.prog ids (phi Try.prog ids) 94 known_Known_tidy_sig (known_Known_tidy_con N) :=
  fnOk2 (q := known_Known_tidy_fun N) mix Try.func94 (by kernel_rfl) (by kernel_rfl) (by kernel_rfl) (by kernel_rfl) (by kernel_rfl) (by kernel_rfl) (by kernel_rfl) (tt_ok _ rfl) (fnsOk_of (by kernel_rfl)) (known_Known_tidy_calls N) (known_Known_tidy_loops N) (known_Known_tidy_run N)
noncomputable def known_Right_tb : Tabs := ⟨TT, [(94, known_Known_tidy_sig)], []⟩
noncomputable def known_Right_H : Hints := ⟨[], [], [], ⟨⟨[0], [], [], []⟩, ⟨[(0, (.lf .bool))], [], []⟩⟩⟩
noncomputable def known_Right_sig : Sig := ⟨⟨[(0, (.lf Y0))], [], []⟩, ⟨[(0, (.lf .bool))], [], []⟩, false⟩
noncomputable def known_Right_code : Code := match Try.f65.body with | some c => c | none => .skip
noncomputable def known_Right_res : List ResultVar := Try.f65.results.toList
noncomputable def known_Right_con (N : Nat) : Con := ⟨Y0, .bool, fun x => known_Right N x⟩
noncomputable def known_Right_cs (N : Nat) : List (Nat × Con) := [(94, known_Known_tidy_con N)]
noncomputable def known_Right_ls (N : Nat) : List (Nat × LoopC (Bool)) := []
noncomputable def known_Right_fun (N : Nat) : Fun := ⟨[Y0], known_Right_tb, known_Right_H, known_Right_cs N, .bool, (known_Right_con N).F, known_Right_code, known_Right_res, known_Right_ls N⟩
theorem known_Right_run (N : Nat) (x : (tupTy [Y0]).den) : (known_Right_fun N).run (inSt [Y0] x) = (known_Right_con N).F x := by kernel_rfl
theorem known_Right_calls (N : Nat) : CallsOk Try.prog ids (phi Try.prog ids) (known_Right_cs N) known_Right_tb := fun k sg con h1 h2 => by
  rcases get_consE h2 with ⟨rfl, rfl⟩ | h2
  · obtain rfl := Option.some.inj (h1.symm.trans (show get known_Right_tb.sigs 94 = some known_Known_tidy_sig from by kernel_rfl)); exact known_Known_tidy_ok N
  exact (get_nilE h2).elim
theorem known_Right_loops (N : Nat) : LoopsL (ρ := (known_Right_fun N).B.den) (known_Right_fun N).cs (known_Right_fun N).ls (known_Right_fun N).tb (known_Right_fun N).H (known_Right_fun N).fin (known_Right_fun N).B (known_Right_fun N).code := fun k lc h => by
  exact (get_nilE h).elim
theorem known_Right_ok (N : Nat) : FnOk Try.prog ids (phi Try.prog ids) 65 known_Right_sig (known_Right_con N) :=
  fnOk2 (q := known_Right_fun N) mix Try.func65 (by kernel_rfl) (by kernel_rfl) (by kernel_rfl) (by kernel_rfl) (by kernel_rfl) (by kernel_rfl) (by kernel_rfl) (tt_ok _ rfl) (fnsOk_of (by kernel_rfl)) (known_Right_calls N) (known_Right_loops N) (known_Right_run N)
noncomputable def span_Right_tb : Tabs := ⟨TT, [], []⟩
noncomputable def span_Right_H : Hints := ⟨[], [], [], ⟨⟨[0], [], [], []⟩, ⟨[(0, (.lf .bool))], [], []⟩⟩⟩
noncomputable def span_Right_sig : Sig := ⟨⟨[(0, (.lf Y1))], [], []⟩, ⟨[(0, (.lf .bool))], [], []⟩, false⟩
noncomputable def span_Right_code : Code := match Try.f66.body with | some c => c | none => .skip
noncomputable def span_Right_res : List ResultVar := Try.f66.results.toList
noncomputable def span_Right_con (N : Nat) : Con := ⟨Y1, .bool, fun x => span_Right N x⟩
noncomputable def span_Right_cs (N : Nat) : List (Nat × Con) := []
noncomputable def span_Right_ls (N : Nat) : List (Nat × LoopC (Bool)) := []
noncomputable def span_Right_fun (N : Nat) : Fun := ⟨[Y1], span_Right_tb, span_Right_H, span_Right_cs N, .bool, (span_Right_con N).F, span_Right_code, span_Right_res, span_Right_ls N⟩
theorem span_Right_run (N : Nat) (x : (tupTy [Y1]).den) : (span_Right_fun N).run (inSt [Y1] x) = (span_Right_con N).F x := by kernel_rfl
theorem span_Right_calls (N : Nat) : CallsOk Try.prog ids (phi Try.prog ids) (span_Right_cs N) span_Right_tb := fun k sg con h1 h2 => by
  exact (get_nilE h2).elim
theorem span_Right_loops (N : Nat) : LoopsL (ρ := (span_Right_fun N).B.den) (span_Right_fun N).cs (span_Right_fun N).ls (span_Right_fun N).tb (span_Right_fun N).H (span_Right_fun N).fin (span_Right_fun N).B (span_Right_fun N).code := fun k lc h => by
  exact (get_nilE h).elim
theorem span_Right_ok (N : Nat) : FnOk Try.prog ids (phi Try.prog ids) 66 span_Right_sig (span_Right_con N) :=
  fnOk2 (q := span_Right_fun N) mix Try.func66 (by kernel_rfl) (by kernel_rfl) (by kernel_rfl) (by kernel_rfl) (by kernel_rfl) (by kernel_rfl) (by kernel_rfl) (tt_ok _ rfl) (fnsOk_of (by kernel_rfl)) (span_Right_calls N) (span_Right_loops N) (span_Right_run N)
noncomputable def parity_Right_tb : Tabs := ⟨TT, [], []⟩
noncomputable def parity_Right_H : Hints := ⟨[], [], [], ⟨⟨[0], [], [], []⟩, ⟨[(0, (.lf .bool))], [], []⟩⟩⟩
noncomputable def parity_Right_sig : Sig := ⟨⟨[(0, (.lf (.int .i64)))], [], []⟩, ⟨[(0, (.lf .bool))], [], []⟩, false⟩
noncomputable def parity_Right_code : Code := match Try.f67.body with | some c => c | none => .skip
noncomputable def parity_Right_res : List ResultVar := Try.f67.results.toList
noncomputable def parity_Right_con (N : Nat) : Con := ⟨(.int .i64), .bool, fun x => parity_Right N x⟩
noncomputable def parity_Right_cs (N : Nat) : List (Nat × Con) := []
noncomputable def parity_Right_ls (N : Nat) : List (Nat × LoopC (Bool)) := []
noncomputable def parity_Right_fun (N : Nat) : Fun := ⟨[(.int .i64)], parity_Right_tb, parity_Right_H, parity_Right_cs N, .bool, (parity_Right_con N).F, parity_Right_code, parity_Right_res, parity_Right_ls N⟩
theorem parity_Right_run (N : Nat) (x : (tupTy [(.int .i64)]).den) : (parity_Right_fun N).run (inSt [(.int .i64)] x) = (parity_Right_con N).F x := by kernel_rfl
theorem parity_Right_calls (N : Nat) : CallsOk Try.prog ids (phi Try.prog ids) (parity_Right_cs N) parity_Right_tb := fun k sg con h1 h2 => by
  exact (get_nilE h2).elim
theorem parity_Right_loops (N : Nat) : LoopsL (ρ := (parity_Right_fun N).B.den) (parity_Right_fun N).cs (parity_Right_fun N).ls (parity_Right_fun N).tb (parity_Right_fun N).H (parity_Right_fun N).fin (parity_Right_fun N).B (parity_Right_fun N).code := fun k lc h => by
  exact (get_nilE h).elim
theorem parity_Right_ok (N : Nat) : FnOk Try.prog ids (phi Try.prog ids) 67 parity_Right_sig (parity_Right_con N) :=
  fnOk2 (q := parity_Right_fun N) mix Try.func67 (by kernel_rfl) (by kernel_rfl) (by kernel_rfl) (by kernel_rfl) (by kernel_rfl) (by kernel_rfl) (by kernel_rfl) (tt_ok _ rfl) (fnsOk_of (by kernel_rfl)) (parity_Right_calls N) (parity_Right_loops N) (parity_Right_run N)
noncomputable def fact_Right_tb : Tabs := ⟨TT, [(64, sign_Right_sig), (65, known_Right_sig), (66, span_Right_sig), (67, parity_Right_sig)], []⟩
noncomputable def fact_Right_H : Hints := ⟨[], [], [], ⟨⟨[0], [], [], []⟩, ⟨[(0, (.lf .bool))], [], []⟩⟩⟩
noncomputable def fact_Right_sig : Sig := ⟨⟨[(0, (.lf Y2))], [], []⟩, ⟨[(0, (.lf .bool))], [], []⟩, false⟩
noncomputable def fact_Right_code : Code := match Try.f32.body with | some c => c | none => .skip
noncomputable def fact_Right_res : List ResultVar := Try.f32.results.toList
noncomputable def fact_Right_con (N : Nat) : Con := ⟨Y2, .bool, fun x => fact_Right N x⟩
noncomputable def fact_Right_cs (N : Nat) : List (Nat × Con) := [(64, sign_Right_con N), (65, known_Right_con N), (66, span_Right_con N), (67, parity_Right_con N)]
noncomputable def fact_Right_ls (N : Nat) : List (Nat × LoopC (Bool)) := []
noncomputable def fact_Right_fun (N : Nat) : Fun := ⟨[Y2], fact_Right_tb, fact_Right_H, fact_Right_cs N, .bool, (fact_Right_con N).F, fact_Right_code, fact_Right_res, fact_Right_ls N⟩
theorem fact_Right_run (N : Nat) (x : (tupTy [Y2]).den) : (fact_Right_fun N).run (inSt [Y2] x) = (fact_Right_con N).F x := by kernel_rfl
theorem fact_Right_calls (N : Nat) : CallsOk Try.prog ids (phi Try.prog ids) (fact_Right_cs N) fact_Right_tb := fun k sg con h1 h2 => by
  rcases get_consE h2 with ⟨rfl, rfl⟩ | h2
  · obtain rfl := Option.some.inj (h1.symm.trans (show get fact_Right_tb.sigs 64 = some sign_Right_sig from by kernel_rfl)); exact sign_Right_ok N
  rcases get_consE h2 with ⟨rfl, rfl⟩ | h2
  · obtain rfl := Option.some.inj (h1.symm.trans (show get fact_Right_tb.sigs 65 = some known_Right_sig from by kernel_rfl)); exact known_Right_ok N
  rcases get_consE h2 with ⟨rfl, rfl⟩ | h2
  · obtain rfl := Option.some.inj (h1.symm.trans (show get fact_Right_tb.sigs 66 = some span_Right_sig from by kernel_rfl)); exact span_Right_ok N
  rcases get_consE h2 with ⟨rfl, rfl⟩ | h2
  · obtain rfl := Option.some.inj (h1.symm.trans (show get fact_Right_tb.sigs 67 = some parity_Right_sig from by kernel_rfl)); exact parity_Right_ok N
  exact (get_nilE h2).elim
theorem fact_Right_loops (N : Nat) : LoopsL (ρ := (fact_Right_fun N).B.den) (fact_Right_fun N).cs (fact_Right_fun N).ls (fact_Right_fun N).tb (fact_Right_fun N).H (fact_Right_fun N).fin (fact_Right_fun N).B (fact_Right_fun N).code := fun k lc h => by
  exact (get_nilE h).elim
theorem fact_Right_ok (N : Nat) : FnOk Try.prog ids (phi Try.prog ids) 32 fact_Right_sig (fact_Right_con N) :=
  fnOk2 (q := fact_Right_fun N) mix Try.func32 (by kernel_rfl) (by kernel_rfl) (by kernel_rfl) (by kernel_rfl) (by kernel_rfl) (by kernel_rfl) (by kernel_rfl) (tt_ok _ rfl) (fnsOk_of (by kernel_rfl)) (fact_Right_calls N) (fact_Right_loops N) (fact_Right_run N)
noncomputable def state_Right_1_tb : Tabs := ⟨TT, [(32, fact_Right_sig)], []⟩
noncomputable def state_Right_1_H : Hints := ⟨[], [], [], ⟨⟨[0], [], [], []⟩, ⟨[(0, (.lf .bool))], [], []⟩⟩⟩
noncomputable def state_Right_1_sig : Sig := ⟨⟨[(0, (.lf Y2))], [], []⟩, ⟨[(0, (.lf .bool))], [], []⟩, false⟩
noncomputable def state_Right_1_code : Code := match Try.f31.body with | some c => c | none => .skip
noncomputable def state_Right_1_res : List ResultVar := Try.f31.results.toList
noncomputable def state_Right_1_con (N : Nat) : Con := ⟨Y2, .bool, fun x => state_Right_1 N x⟩
noncomputable def state_Right_1_cs (N : Nat) : List (Nat × Con) := [(32, fact_Right_con N)]
noncomputable def state_Right_1_ls (N : Nat) : List (Nat × LoopC (Bool)) := []
noncomputable def state_Right_1_fun (N : Nat) : Fun := ⟨[Y2], state_Right_1_tb, state_Right_1_H, state_Right_1_cs N, .bool, (state_Right_1_con N).F, state_Right_1_code, state_Right_1_res, state_Right_1_ls N⟩
theorem state_Right_1_run (N : Nat) (x : (tupTy [Y2]).den) : (state_Right_1_fun N).run (inSt [Y2] x) = (state_Right_1_con N).F x := by kernel_rfl
theorem state_Right_1_calls (N : Nat) : CallsOk Try.prog ids (phi Try.prog ids) (state_Right_1_cs N) state_Right_1_tb := fun k sg con h1 h2 => by
  rcases get_consE h2 with ⟨rfl, rfl⟩ | h2
  · obtain rfl := Option.some.inj (h1.symm.trans (show get state_Right_1_tb.sigs 32 = some fact_Right_sig from by kernel_rfl)); exact fact_Right_ok N
  exact (get_nilE h2).elim
theorem state_Right_1_loops (N : Nat) : LoopsL (ρ := (state_Right_1_fun N).B.den) (state_Right_1_fun N).cs (state_Right_1_fun N).ls (state_Right_1_fun N).tb (state_Right_1_fun N).H (state_Right_1_fun N).fin (state_Right_1_fun N).B (state_Right_1_fun N).code := fun k lc h => by
  exact (get_nilE h).elim
theorem state_Right_1_ok (N : Nat) : FnOk Try.prog ids (phi Try.prog ids) 31 state_Right_1_sig (state_Right_1_con N) :=
  fnOk2 (q := state_Right_1_fun N) mix Try.func31 (by kernel_rfl) (by kernel_rfl) (by kernel_rfl) (by kernel_rfl) (by kernel_rfl) (by kernel_rfl) (by kernel_rfl) (tt_ok _ rfl) (fnsOk_of (by kernel_rfl)) (state_Right_1_calls N) (state_Right_1_loops N) (state_Right_1_run N)
noncomputable def state_Right_tb : Tabs := ⟨TT, [(29, bits_Right_sig), (30, slices_ContainsFunc_fact_Value_fact_Value_sig), (31, state_Right_1_sig)], []⟩
noncomputable def state_Right_H : Hints := ⟨[(11, ⟨⟨[2, 3, 1], [], [], []⟩, ⟨[(1, (.lf (.int .i64))), (2, (.lf (.int .i64))), (3, (.pt ⟨1003, 0, 0, 0, []⟩))], [], [(1003, ⟨0, some 32, [⟨0, .o 0 .bool⟩, ⟨0, .o 0 (.sl 47 Y2)⟩, ⟨0, .o 0 (.sl 27 (.sl 3 (.int .i64)))⟩]⟩)]⟩⟩)], [], [(7, ⟨⟨[27, 2, 25, 3, 26], [], [], []⟩, ⟨[(2, (.lf (.int .i64))), (3, (.pt ⟨1003, 0, 0, 0, []⟩)), (25, (.lf (.sl 27 (.sl 3 (.int .i64))))), (26, (.lf (.int .i64))), (27, (.lf (.int .i64)))], [], [(1003, ⟨0, some 32, [⟨0, .o 0 .bool⟩, ⟨0, .o 0 (.sl 47 Y2)⟩, ⟨0, .o 0 (.sl 27 (.sl 3 (.int .i64)))⟩]⟩)]⟩, [(0, ⟨⟨[3], [], [], []⟩, ⟨[(3, (.pt ⟨1003, 0, 0, 0, []⟩))], [], [(1003, ⟨0, some 32, [⟨0, .o 0 .bool⟩, ⟨0, .o 0 (.sl 47 Y2)⟩, ⟨0, .o 0 (.sl 27 (.sl 3 (.int .i64)))⟩]⟩)]⟩⟩)]⟩)], ⟨⟨[0], [], [], []⟩, ⟨[(0, (.lf .bool))], [], []⟩⟩⟩
noncomputable def state_Right_sig : Sig := ⟨⟨[(0, (.lf Y4)), (1, (.lf (.int .i64))), (2, (.lf (.int .i64)))], [], []⟩, ⟨[(0, (.lf .bool))], [], []⟩, false⟩
noncomputable def state_Right_code : Code := match Try.f10.body with | some c => c | none => .skip
noncomputable def state_Right_res : List ResultVar := Try.f10.results.toList
noncomputable def state_Right_con (N : Nat) : Con := ⟨(.pair Y4 (.pair (.int .i64) (.int .i64))), .bool, fun x => state_Right N x.1 x.2.1 x.2.2⟩
noncomputable def state_Right_cs (N : Nat) : List (Nat × Con) := [(29, bits_Right_con N), (30, slices_ContainsFunc_fact_Value_fact_Value_con N), (31, state_Right_1_con N), (1000031, state_Right_1_con N)]
noncomputable def state_Right_G7 (N n : Nat) (x : (tupTy [(.int .i64), (.sl 27 (.sl 3 (.int .i64))), (.int .i64), (.int .i64), .bool, (.sl 47 Y2), (.sl 27 (.sl 3 (.int .i64)))]).den) (ks : List (L → Option (Bool))) : Option (Bool) := state_Right_l7 N (fun y => kget ks 0 ⟨(.pair .bool (.pair (.sl 47 Y2) (.sl 27 (.sl 3 (.int .i64))))), y⟩) (fun y => kget ks 1 ⟨.bool, y⟩) n x.1 x.2.1 x.2.2.1 x.2.2.2.1 x.2.2.2.2.1 x.2.2.2.2.2.1 x.2.2.2.2.2.2
noncomputable def state_Right_lh7 : LH := lhAt state_Right_H 7
noncomputable def state_Right_c7 : Code := codeAt 7 state_Right_code
noncomputable def state_Right_ls (N : Nat) : List (Nat × LoopC (Bool)) := [(7, ⟨tupTy [(.int .i64), (.sl 27 (.sl 3 (.int .i64))), (.int .i64), (.int .i64), .bool, (.sl 47 Y2), (.sl 27 (.sl 3 (.int .i64)))], lenK 2 (state_Right_G7 N N)⟩)]
noncomputable def state_Right_fun (N : Nat) : Fun := ⟨[Y4, (.int .i64), (.int .i64)], state_Right_tb, state_Right_H, state_Right_cs N, .bool, (state_Right_con N).F, state_Right_code, state_Right_res, state_Right_ls N⟩
theorem state_Right_run (N : Nat) (x : (tupTy [Y4, (.int .i64), (.int .i64)]).den) : (state_Right_fun N).run (inSt [Y4, (.int .i64), (.int .i64)] x) = (state_Right_con N).F x := by kernel_rfl
theorem state_Right_o7 (N : Nat) : RoundOk (ρ := (state_Right_fun N).B.den) (state_Right_fun N).cs (state_Right_fun N).ls (state_Right_fun N).tb (state_Right_fun N).H (state_Right_fun N).fin (state_Right_fun N).B state_Right_lh7 state_Right_c7 [(.int .i64), (.sl 27 (.sl 3 (.int .i64))), (.int .i64), (.int .i64), .bool, (.sl 47 Y2), (.sl 27 (.sl 3 (.int .i64)))] [(.pair .bool (.pair (.sl 47 Y2) (.sl 27 (.sl 3 (.int .i64))))), .bool] (state_Right_G7 N) :=
  ⟨by kernel_rfl, fun _ _ => by kernel_rfl, fun _ _ _ => by kernel_rfl⟩
theorem state_Right_calls (N : Nat) : CallsOk Try.prog ids (phi Try.prog ids) (state_Right_cs N) state_Right_tb := fun k sg con h1 h2 => by
  rcases get_consE h2 with ⟨rfl, rfl⟩ | h2
  · obtain rfl := Option.some.inj (h1.symm.trans (show get state_Right_tb.sigs 29 = some bits_Right_sig from by kernel_rfl)); exact bits_Right_ok N
  rcases get_consE h2 with ⟨rfl, rfl⟩ | h2
  · obtain rfl := Option.some.inj (h1.symm.trans (show get state_Right_tb.sigs 30 = some slices_ContainsFunc_fact_Value_fact_Value_sig from by kernel_rfl)); exact slices_ContainsFunc_fact_Value_fact_Value_ok N
  rcases get_consE h2 with ⟨rfl, rfl⟩ | h2
  · obtain rfl := Option.some.inj (h1.symm.trans (show get state_Right_tb.sigs 31 = some state_Right_1_sig from by kernel_rfl)); exact state_Right_1_ok N
  rcases get_consE h2 with ⟨rfl, rfl⟩ | h2
  · cases (show get state_Right_tb.sigs 1000031 = none from by kernel_rfl).symm.trans h1
  exact (get_nilE h2).elim
theorem state_Right_loops (N : Nat) : LoopsL (ρ := (state_Right_fun N).B.den) (state_Right_fun N).cs (state_Right_fun N).ls (state_Right_fun N).tb (state_Right_fun N).H (state_Right_fun N).fin (state_Right_fun N).B (state_Right_fun N).code := fun k lc h => by
  rcases get_consE h with ⟨rfl, rfl⟩ | h
  · exact ⟨_, loopOk (state_Right_o7 N)⟩
  exact (get_nilE h).elim
theorem state_Right_fns (N : Nat) : FnsOk (phi Try.prog ids) (state_Right_cs N) := fun f c h => by
  rcases get_consE h with ⟨h1, _⟩ | h
  · omega
  rcases get_consE h with ⟨h1, _⟩ | h
  · omega
  rcases get_consE h with ⟨h1, _⟩ | h
  · omega
  rcases get_consE h with ⟨h1, rfl⟩ | h
  · obtain rfl : f = 31 := by omega
    exact fnVal (state_Right_1_ok N) (by kernel_rfl) (by kernel_rfl) (by kernel_rfl) (by kernel_rfl) (by kernel_rfl) (by kernel_rfl)
  exact (get_nilE h).elim
theorem state_Right_ok (N : Nat) : FnOk Try.prog ids (phi Try.prog ids) 10 state_Right_sig (state_Right_con N) :=
  fnOk2 (q := state_Right_fun N) mix Try.func10 (by kernel_rfl) (by kernel_rfl) (by kernel_rfl) (by kernel_rfl) (by kernel_rfl) (by kernel_rfl) (by kernel_rfl) (tt_ok _ rfl) (state_Right_fns N) (state_Right_calls N) (state_Right_loops N) (state_Right_run N)
noncomputable def avermentlaw13_told_tb : Tabs := ⟨TT, [(27, fact_Any_sig), (16, state_Begin_sig), (28, fact_Of_sig), (23, state_None_sig), (10, state_Right_sig)], [3]⟩
noncomputable def avermentlaw13_told_H : Hints := ⟨[], [], [], ⟨⟨[0], [], [], []⟩, ⟨[(0, (.lf .bool))], [], []⟩⟩⟩
noncomputable def avermentlaw13_told_sig : Sig := ⟨⟨[], [], []⟩, ⟨[(0, (.lf .bool))], [], []⟩, false⟩
noncomputable def avermentlaw13_told_code : Code := match Try.f8.body with | some c => c | none => .skip
noncomputable def avermentlaw13_told_res : List ResultVar := Try.f8.results.toList
noncomputable def avermentlaw13_told_con (N : Nat) : Con := ⟨.unit, .bool, fun x => avermentlaw13_told N⟩
noncomputable def avermentlaw13_told_cs (N : Nat) : List (Nat × Con) := [(27, fact_Any_con N), (16, state_Begin_con N), (28, fact_Of_con N), (23, state_None_con N), (10, state_Right_con N)]
noncomputable def avermentlaw13_told_ls (N : Nat) : List (Nat × LoopC (Bool)) := []
noncomputable def avermentlaw13_told_fun (N : Nat) : Fun := ⟨[], avermentlaw13_told_tb, avermentlaw13_told_H, avermentlaw13_told_cs N, .bool, (avermentlaw13_told_con N).F, avermentlaw13_told_code, avermentlaw13_told_res, avermentlaw13_told_ls N⟩
theorem avermentlaw13_told_run (N : Nat) (x : (tupTy []).den) : (avermentlaw13_told_fun N).run (inSt [] x) = (avermentlaw13_told_con N).F x := by kernel_rfl
theorem avermentlaw13_told_calls (N : Nat) : CallsOk Try.prog ids (phi Try.prog ids) (avermentlaw13_told_cs N) avermentlaw13_told_tb := fun k sg con h1 h2 => by
  rcases get_consE h2 with ⟨rfl, rfl⟩ | h2
  · obtain rfl := Option.some.inj (h1.symm.trans (show get avermentlaw13_told_tb.sigs 27 = some fact_Any_sig from by kernel_rfl)); exact fact_Any_ok N
  rcases get_consE h2 with ⟨rfl, rfl⟩ | h2
  · obtain rfl := Option.some.inj (h1.symm.trans (show get avermentlaw13_told_tb.sigs 16 = some state_Begin_sig from by kernel_rfl)); exact state_Begin_ok N
  rcases get_consE h2 with ⟨rfl, rfl⟩ | h2
  · obtain rfl := Option.some.inj (h1.symm.trans (show get avermentlaw13_told_tb.sigs 28 = some fact_Of_sig from by kernel_rfl)); exact fact_Of_ok N
  rcases get_consE h2 with ⟨rfl, rfl⟩ | h2
  · obtain rfl := Option.some.inj (h1.symm.trans (show get avermentlaw13_told_tb.sigs 23 = some state_None_sig from by kernel_rfl)); exact state_None_ok N
  rcases get_consE h2 with ⟨rfl, rfl⟩ | h2
  · obtain rfl := Option.some.inj (h1.symm.trans (show get avermentlaw13_told_tb.sigs 10 = some state_Right_sig from by kernel_rfl)); exact state_Right_ok N
  exact (get_nilE h2).elim
theorem avermentlaw13_told_loops (N : Nat) : LoopsL (ρ := (avermentlaw13_told_fun N).B.den) (avermentlaw13_told_fun N).cs (avermentlaw13_told_fun N).ls (avermentlaw13_told_fun N).tb (avermentlaw13_told_fun N).H (avermentlaw13_told_fun N).fin (avermentlaw13_told_fun N).B (avermentlaw13_told_fun N).code := fun k lc h => by
  exact (get_nilE h).elim
theorem avermentlaw13_told_ok (N : Nat) : FnOk Try.prog ids (phi Try.prog ids) 8 avermentlaw13_told_sig (avermentlaw13_told_con N) :=
  fnOk2 (q := avermentlaw13_told_fun N) mix Try.func8 (by kernel_rfl) (by kernel_rfl) (by kernel_rfl) (by kernel_rfl) (by kernel_rfl) (by kernel_rfl) (by kernel_rfl) (tt_ok _ rfl) (fnsOk_of (by kernel_rfl)) (avermentlaw13_told_calls N) (avermentlaw13_told_loops N) (avermentlaw13_told_run N)
noncomputable def avermentref13_Regs_tb : Tabs := ⟨TT, [], []⟩
noncomputable def avermentref13_Regs_H : Hints := ⟨[], [], [], ⟨⟨[0], [], [], []⟩, ⟨[(0, (.lf (.int .i64)))], [], []⟩⟩⟩
noncomputable def avermentref13_Regs_sig : Sig := ⟨⟨[(0, (.lf Y5))], [], []⟩, ⟨[(0, (.lf (.int .i64)))], [], []⟩, false⟩
noncomputable def avermentref13_Regs_code : Code := match Try.f52.body with | some c => c | none => .skip
noncomputable def avermentref13_Regs_res : List ResultVar := Try.f52.results.toList
noncomputable def avermentref13_Regs_con (N : Nat) : Con := ⟨Y5, (.int .i64), fun x => avermentref13_Regs N x⟩
noncomputable def avermentref13_Regs_cs (N : Nat) : List (Nat × Con) := []
noncomputable def avermentref13_Regs_ls (N : Nat) : List (Nat × LoopC (Int)) := []
noncomputable def avermentref13_Regs_fun (N : Nat) : Fun := ⟨[Y5], avermentref13_Regs_tb, avermentref13_Regs_H, avermentref13_Regs_cs N, (.int .i64), (avermentref13_Regs_con N).F, avermentref13_Regs_code, avermentref13_Regs_res, avermentref13_Regs_ls N⟩
theorem avermentref13_Regs_run (N : Nat) (x : (tupTy [Y5]).den) : (avermentref13_Regs_fun N).run (inSt [Y5] x) = (avermentref13_Regs_con N).F x := by kernel_rfl
theorem avermentref13_Regs_calls (N : Nat) : CallsOk Try.prog ids (phi Try.prog ids) (avermentref13_Regs_cs N) avermentref13_Regs_tb := fun k sg con h1 h2 => by
  exact (get_nilE h2).elim
theorem avermentref13_Regs_loops (N : Nat) : LoopsL (ρ := (avermentref13_Regs_fun N).B.den) (avermentref13_Regs_fun N).cs (avermentref13_Regs_fun N).ls (avermentref13_Regs_fun N).tb (avermentref13_Regs_fun N).H (avermentref13_Regs_fun N).fin (avermentref13_Regs_fun N).B (avermentref13_Regs_fun N).code := fun k lc h => by
  exact (get_nilE h).elim
theorem avermentref13_Regs_ok (N : Nat) : FnOk Try.prog ids (phi Try.prog ids) 52 avermentref13_Regs_sig (avermentref13_Regs_con N) :=
  fnOk2 (q := avermentref13_Regs_fun N) mix Try.func52 (by kernel_rfl) (by kernel_rfl) (by kernel_rfl) (by kernel_rfl) (by kernel_rfl) (by kernel_rfl) (by kernel_rfl) (tt_ok _ rfl) (fnsOk_of (by kernel_rfl)) (avermentref13_Regs_calls N) (avermentref13_Regs_loops N) (avermentref13_Regs_run N)
noncomputable def avermentref09_Clean_tb : Tabs := ⟨TT, [], []⟩
noncomputable def avermentref09_Clean_H : Hints := ⟨[], [], [], ⟨⟨[0], [], [], []⟩, ⟨[(0, (.lf Y0))], [], []⟩⟩⟩
noncomputable def avermentref09_Clean_sig : Sig := ⟨⟨[(0, (.lf Y0))], [], []⟩, ⟨[(0, (.lf Y0))], [], []⟩, false⟩
noncomputable def avermentref09_Clean_code : Code := match Try.f35.body with | some c => c | none => .skip
noncomputable def avermentref09_Clean_res : List ResultVar := Try.f35.results.toList
noncomputable def avermentref09_Clean_con (N : Nat) : Con := ⟨Y0, Y0, fun x => avermentref09_Clean N x⟩
noncomputable def avermentref09_Clean_cs (N : Nat) : List (Nat × Con) := []
noncomputable def avermentref09_Clean_ls (N : Nat) : List (Nat × LoopC (Bool × Int)) := []
noncomputable def avermentref09_Clean_fun (N : Nat) : Fun := ⟨[Y0], avermentref09_Clean_tb, avermentref09_Clean_H, avermentref09_Clean_cs N, Y0, (avermentref09_Clean_con N).F, avermentref09_Clean_code, avermentref09_Clean_res, avermentref09_Clean_ls N⟩
theorem avermentref09_Clean_run (N : Nat) (x : (tupTy [Y0]).den) : (avermentref09_Clean_fun N).run (inSt [Y0] x) = (avermentref09_Clean_con N).F x := by kernel_rfl
theorem avermentref09_Clean_calls (N : Nat) : CallsOk Try.prog ids (phi Try.prog ids) (avermentref09_Clean_cs N) avermentref09_Clean_tb := fun k sg con h1 h2 => by
  exact (get_nilE h2).elim
theorem avermentref09_Clean_loops (N : Nat) : LoopsL (ρ := (avermentref09_Clean_fun N).B.den) (avermentref09_Clean_fun N).cs (avermentref09_Clean_fun N).ls (avermentref09_Clean_fun N).tb (avermentref09_Clean_fun N).H (avermentref09_Clean_fun N).fin (avermentref09_Clean_fun N).B (avermentref09_Clean_fun N).code := fun k lc h => by
  exact (get_nilE h).elim
theorem avermentref09_Clean_ok (N : Nat) : FnOk Try.prog ids (phi Try.prog ids) 35 avermentref09_Clean_sig (avermentref09_Clean_con N) :=
  fnOk2 (q := avermentref09_Clean_fun N) mix Try.func35 (by kernel_rfl) (by kernel_rfl) (by kernel_rfl) (by kernel_rfl) (by kernel_rfl) (by kernel_rfl) (by kernel_rfl) (tt_ok _ rfl) (fnsOk_of (by kernel_rfl)) (avermentref09_Clean_calls N) (avermentref09_Clean_loops N) (avermentref09_Clean_run N)
noncomputable def avermentref10_Fix_tb : Tabs := ⟨TT, [], []⟩
noncomputable def avermentref10_Fix_H : Hints := ⟨[], [], [], ⟨⟨[0], [], [], []⟩, ⟨[(0, (.lf Y1))], [], []⟩⟩⟩
noncomputable def avermentref10_Fix_sig : Sig := ⟨⟨[(0, (.lf Y1))], [], []⟩, ⟨[(0, (.lf Y1))], [], []⟩, false⟩
noncomputable def avermentref10_Fix_code : Code := match Try.f36.body with | some c => c | none => .skip
noncomputable def avermentref10_Fix_res : List ResultVar := Try.f36.results.toList
noncomputable def avermentref10_Fix_con (N : Nat) : Con := ⟨Y1, Y1, fun x => avermentref10_Fix N x⟩
noncomputable def avermentref10_Fix_cs (N : Nat) : List (Nat × Con) := []
noncomputable def avermentref10_Fix_ls (N : Nat) : List (Nat × LoopC (Int × Int)) := []
noncomputable def avermentref10_Fix_fun (N : Nat) : Fun := ⟨[Y1], avermentref10_Fix_tb, avermentref10_Fix_H, avermentref10_Fix_cs N, Y1, (avermentref10_Fix_con N).F, avermentref10_Fix_code, avermentref10_Fix_res, avermentref10_Fix_ls N⟩
theorem avermentref10_Fix_run (N : Nat) (x : (tupTy [Y1]).den) : (avermentref10_Fix_fun N).run (inSt [Y1] x) = (avermentref10_Fix_con N).F x := by kernel_rfl
theorem avermentref10_Fix_calls (N : Nat) : CallsOk Try.prog ids (phi Try.prog ids) (avermentref10_Fix_cs N) avermentref10_Fix_tb := fun k sg con h1 h2 => by
  exact (get_nilE h2).elim
theorem avermentref10_Fix_loops (N : Nat) : LoopsL (ρ := (avermentref10_Fix_fun N).B.den) (avermentref10_Fix_fun N).cs (avermentref10_Fix_fun N).ls (avermentref10_Fix_fun N).tb (avermentref10_Fix_fun N).H (avermentref10_Fix_fun N).fin (avermentref10_Fix_fun N).B (avermentref10_Fix_fun N).code := fun k lc h => by
  exact (get_nilE h).elim
theorem avermentref10_Fix_ok (N : Nat) : FnOk Try.prog ids (phi Try.prog ids) 36 avermentref10_Fix_sig (avermentref10_Fix_con N) :=
  fnOk2 (q := avermentref10_Fix_fun N) mix Try.func36 (by kernel_rfl) (by kernel_rfl) (by kernel_rfl) (by kernel_rfl) (by kernel_rfl) (by kernel_rfl) (by kernel_rfl) (tt_ok _ rfl) (fnsOk_of (by kernel_rfl)) (avermentref10_Fix_calls N) (avermentref10_Fix_loops N) (avermentref10_Fix_run N)
noncomputable def avermentref12_Fix_tb : Tabs := ⟨TT, [(35, avermentref09_Clean_sig), (36, avermentref10_Fix_sig)], []⟩
noncomputable def avermentref12_Fix_H : Hints := ⟨[(17, ⟨⟨[2, 1], [], [], []⟩, ⟨[(1, (.pt ⟨1001, 0, 0, 0, []⟩)), (2, (.pt ⟨1002, 0, 0, 0, []⟩))], [], [(1001, ⟨0, some 42, [⟨0, .o 0 (.int .i64)⟩, ⟨0, .o 0 .bool⟩, ⟨0, .o 0 (.int .i64)⟩, ⟨0, .o 0 (.int .i64)⟩, ⟨0, .o 0 (.int .i64)⟩, ⟨0, .o 0 (.int .i64)⟩]⟩), (1002, ⟨0, some 42, [⟨0, .o 0 (.int .i64)⟩, ⟨0, .o 0 .bool⟩, ⟨0, .o 0 (.int .i64)⟩, ⟨0, .o 0 (.int .i64)⟩, ⟨0, .o 0 (.int .i64)⟩, ⟨0, .o 0 (.int .i64)⟩]⟩)]⟩⟩), (9, ⟨⟨[2, 1], [], [], []⟩, ⟨[(1, (.pt ⟨1001, 0, 0, 0, []⟩)), (2, (.pt ⟨1002, 0, 0, 0, []⟩))], [], [(1001, ⟨0, some 42, [⟨0, .o 0 (.int .i64)⟩, ⟨0, .o 0 .bool⟩, ⟨0, .o 0 (.int .i64)⟩, ⟨0, .o 0 (.int .i64)⟩, ⟨0, .o 0 (.int .i64)⟩, ⟨0, .o 0 (.int .i64)⟩]⟩), (1002, ⟨0, some 42, [⟨0, .o 0 (.int .i64)⟩, ⟨0, .o 0 .bool⟩, ⟨0, .o 0 (.int .i64)⟩, ⟨0, .o 0 (.int .i64)⟩, ⟨0, .o 0 (.int .i64)⟩, ⟨0, .o 0 (.int .i64)⟩]⟩)]⟩⟩)], [], [], ⟨⟨[0], [], [], []⟩, ⟨[(0, (.lf Y2))], [], []⟩⟩⟩
noncomputable def avermentref12_Fix_sig : Sig := ⟨⟨[(0, (.lf Y2))], [], []⟩, ⟨[(0, (.lf Y2))], [], []⟩, false⟩
noncomputable def avermentref12_Fix_code : Code := match Try.f13.body with | some c => c | none => .skip
noncomputable def avermentref12_Fix_res : List ResultVar := Try.f13.results.toList
noncomputable def avermentref12_Fix_con (N : Nat) : Con := ⟨Y2, Y2, fun x => avermentref12_Fix N x⟩
noncomputable def avermentref12_Fix_cs (N : Nat) : List (Nat × Con) := [(35, avermentref09_Clean_con N), (36, avermentref10_Fix_con N)]
noncomputable def avermentref12_Fix_ls (N : Nat) : List (Nat × LoopC (Int × (Bool × Int) × (Int × Int) × Int)) := []
noncomputable def avermentref12_Fix_fun (N : Nat) : Fun := ⟨[Y2], avermentref12_Fix_tb, avermentref12_Fix_H, avermentref12_Fix_cs N, Y2, (avermentref12_Fix_con N).F, avermentref12_Fix_code, avermentref12_Fix_res, avermentref12_Fix_ls N⟩
theorem avermentref12_Fix_run (N : Nat) (x : (tupTy [Y2]).den) : (avermentref12_Fix_fun N).run (inSt [Y2] x) = (avermentref12_Fix_con N).F x := by kernel_rfl
theorem avermentref12_Fix_calls (N : Nat) : CallsOk Try.prog ids (phi Try.prog ids) (avermentref12_Fix_cs N) avermentref12_Fix_tb := fun k sg con h1 h2 => by
  rcases get_consE h2 with ⟨rfl, rfl⟩ | h2
  · obtain rfl := Option.some.inj (h1.symm.trans (show get avermentref12_Fix_tb.sigs 35 = some avermentref09_Clean_sig from by kernel_rfl)); exact avermentref09_Clean_ok N
  rcases get_consE h2 with ⟨rfl, rfl⟩ | h2
  · obtain rfl := Option.some.inj (h1.symm.trans (show get avermentref12_Fix_tb.sigs 36 = some avermentref10_Fix_sig from by kernel_rfl)); exact avermentref10_Fix_ok N
  exact (get_nilE h2).elim
theorem avermentref12_Fix_loops (N : Nat) : LoopsL (ρ := (avermentref12_Fix_fun N).B.den) (avermentref12_Fix_fun N).cs (avermentref12_Fix_fun N).ls (avermentref12_Fix_fun N).tb (avermentref12_Fix_fun N).H (avermentref12_Fix_fun N).fin (avermentref12_Fix_fun N).B (avermentref12_Fix_fun N).code := fun k lc h => by
  exact (get_nilE h).elim
theorem avermentref12_Fix_ok (N : Nat) : FnOk Try.prog ids (phi Try.prog ids) 13 avermentref12_Fix_sig (avermentref12_Fix_con N) :=
  fnOk2 (q := avermentref12_Fix_fun N) mix Try.func13 (by kernel_rfl) (by kernel_rfl) (by kernel_rfl) (by kernel_rfl) (by kernel_rfl) (by kernel_rfl) (by kernel_rfl) (tt_ok _ rfl) (fnsOk_of (by kernel_rfl)) (avermentref12_Fix_calls N) (avermentref12_Fix_loops N) (avermentref12_Fix_run N)
noncomputable def avermentref04_Rise_tb : Tabs := ⟨TT, [], [53]⟩
noncomputable def avermentref04_Rise_H : Hints := ⟨[], [(1, ⟨⟨[3, 0, 4], [], [], []⟩, ⟨[(0, (.lf (.sl 3 (.int .i64)))), (3, (.ar ⟨1003, 0, 0, 0, []⟩)), (4, (.lf (.int .i64)))], [], [(1003, ⟨0, none, [⟨0, .o 1 (.sl 3 (.int .i64))⟩]⟩)]⟩⟩)], [(4, ⟨⟨[4, 3, 0], [3], [], []⟩, ⟨[(0, (.lf (.sl 3 (.int .i64)))), (3, (.ar ⟨1003, 0, 0, 0, []⟩)), (4, (.lf (.int .i64)))], [], [(1003, ⟨0, none, [⟨0, .o 1 (.sl 3 (.int .i64))⟩]⟩)]⟩, [(0, ⟨⟨[3], [], [], []⟩, ⟨[(3, (.ar ⟨1003, 0, 0, 0, []⟩))], [], [(1003, ⟨0, none, [⟨0, .o 1 (.sl 3 (.int .i64))⟩]⟩)]⟩⟩)]⟩), (7, ⟨⟨[5, 3, 0, 4], [], [], []⟩, ⟨[(0, (.lf (.sl 3 (.int .i64)))), (3, (.ar ⟨1003, 0, 0, 0, []⟩)), (4, (.lf (.int .i64))), (5, (.lf (.int .i64)))], [], [(1003, ⟨0, none, [⟨0, .o 1 (.sl 3 (.int .i64))⟩]⟩)]⟩, [(2, ⟨⟨[3, 0, 4, 5], [], [], []⟩, ⟨[(0, (.lf (.sl 3 (.int .i64)))), (3, (.ar ⟨1003, 0, 0, 0, []⟩)), (4, (.lf (.int .i64))), (5, (.lf (.int .i64)))], [], [(1003, ⟨0, none, [⟨0, .o 1 (.sl 3 (.int .i64))⟩]⟩)]⟩⟩)]⟩)], ⟨⟨[0], [], [], []⟩, ⟨[(0, (.lf (.sl 3 (.int .i64))))], [], []⟩⟩⟩
noncomputable def avermentref04_Rise_sig : Sig := ⟨⟨[(0, (.lf (.sl 3 (.int .i64))))], [], []⟩, ⟨[(0, (.lf (.sl 3 (.int .i64))))], [], []⟩, false⟩
noncomputable def avermentref04_Rise_code : Code := match Try.f53.body with | some c => c | none => .skip
noncomputable def avermentref04_Rise_res : List ResultVar := Try.f53.results.toList
noncomputable def avermentref04_Rise_con (N : Nat) : Con := ⟨(.sl 3 (.int .i64)), (.sl 3 (.int .i64)), fun x => avermentref04_Rise N x⟩
noncomputable def avermentref04_Rise_cs (N : Nat) : List (Nat × Con) := []
noncomputable def avermentref04_Rise_G7 (N n : Nat) (x : (tupTy [(.sl 3 (.int .i64)), (.int .i64), (.int .i64), (.sl 3 (.int .i64))]).den) (ks : List (L → Option (List Int))) : Option (List Int) := avermentref04_Rise_l7 N (fun y => kget ks 0 ⟨(.pair (.sl 3 (.int .i64)) (.pair (.int .i64) (.pair (.int .i64) (.sl 3 (.int .i64))))), y⟩) n x.1 x.2.1 x.2.2.1 x.2.2.2
noncomputable def avermentref04_Rise_lh7 : LH := lhAt avermentref04_Rise_H 7
noncomputable def avermentref04_Rise_c7 : Code := codeAt 7 avermentref04_Rise_code
noncomputable def avermentref04_Rise_G4 (N n : Nat) (x : (tupTy [(.sl 3 (.int .i64)), (.int .i64), (.sl 3 (.int .i64))]).den) (ks : List (L → Option (List Int))) : Option (List Int) := avermentref04_Rise_l4 N (fun y => kget ks 0 ⟨(.sl 3 (.int .i64)), y⟩) n x.1 x.2.1 x.2.2
noncomputable def avermentref04_Rise_lh4 : LH := lhAt avermentref04_Rise_H 4
noncomputable def avermentref04_Rise_c4 : Code := codeAt 4 avermentref04_Rise_code
noncomputable def avermentref04_Rise_ls (N : Nat) : List (Nat × LoopC (List Int)) := [(7, ⟨tupTy [(.sl 3 (.int .i64)), (.int .i64), (.int .i64), (.sl 3 (.int .i64))], lenK 1 (avermentref04_Rise_G7 N N)⟩), (4, ⟨tupTy [(.sl 3 (.int .i64)), (.int .i64), (.sl 3 (.int .i64))], lenK 1 (avermentref04_Rise_G4 N N)⟩)]
noncomputable def avermentref04_Rise_fun (N : Nat) : Fun := ⟨[(.sl 3 (.int .i64))], avermentref04_Rise_tb, avermentref04_Rise_H, avermentref04_Rise_cs N, (.sl 3 (.int .i64)), (avermentref04_Rise_con N).F, avermentref04_Rise_code, avermentref04_Rise_res, avermentref04_Rise_ls N⟩
theorem avermentref04_Rise_run (N : Nat) (x : (tupTy [(.sl 3 (.int .i64))]).den) : (avermentref04_Rise_fun N).run (inSt [(.sl 3 (.int .i64))] x) = (avermentref04_Rise_con N).F x := by kernel_rfl
theorem avermentref04_Rise_o7 (N : Nat) : RoundOk (ρ := (avermentref04_Rise_fun N).B.den) (avermentref04_Rise_fun N).cs (avermentref04_Rise_fun N).ls (avermentref04_Rise_fun N).tb (avermentref04_Rise_fun N).H (avermentref04_Rise_fun N).fin (avermentref04_Rise_fun N).B avermentref04_Rise_lh7 avermentref04_Rise_c7 [(.sl 3 (.int .i64)), (.int .i64), (.int .i64), (.sl 3 (.int .i64))] [(.pair (.sl 3 (.int .i64)) (.pair (.int .i64) (.pair (.int .i64) (.sl 3 (.int .i64)))))] (avermentref04_Rise_G7 N) :=
  ⟨by kernel_rfl, fun _ _ => by kernel_rfl, fun _ _ _ => by kernel_rfl⟩
theorem avermentref04_Rise_o4 (N : Nat) : RoundOk (ρ := (avermentref04_Rise_fun N).B.den) (avermentref04_Rise_fun N).cs (avermentref04_Rise_fun N).ls (avermentref04_Rise_fun N).tb (avermentref04_Rise_fun N).H (avermentref04_Rise_fun N).fin (avermentref04_Rise_fun N).B avermentref04_Rise_lh4 avermentref04_Rise_c4 [(.sl 3 (.int .i64)), (.int .i64), (.sl 3 (.int .i64))] [(.sl 3 (.int .i64))] (avermentref04_Rise_G4 N) :=
  ⟨by kernel_rfl, fun _ _ => by kernel_rfl, fun _ _ _ => by kernel_rfl⟩
theorem avermentref04_Rise_calls (N : Nat) : CallsOk Try.prog ids (phi Try.prog ids) (avermentref04_Rise_cs N) avermentref04_Rise_tb := fun k sg con h1 h2 => by
  exact (get_nilE h2).elim
theorem avermentref04_Rise_loops (N : Nat) : LoopsL (ρ := (avermentref04_Rise_fun N).B.den) (avermentref04_Rise_fun N).cs (avermentref04_Rise_fun N).ls (avermentref04_Rise_fun N).tb (avermentref04_Rise_fun N).H (avermentref04_Rise_fun N).fin (avermentref04_Rise_fun N).B (avermentref04_Rise_fun N).code := fun k lc h => by
  rcases get_consE h with ⟨rfl, rfl⟩ | h
  · exact ⟨_, loopOk (avermentref04_Rise_o7 N)⟩
  rcases get_consE h with ⟨rfl, rfl⟩ | h
  · exact ⟨_, loopOk (avermentref04_Rise_o4 N)⟩
  exact (get_nilE h).elim
theorem avermentref04_Rise_ok (N : Nat) : FnOk Try.prog ids (phi Try.prog ids) 53 avermentref04_Rise_sig (avermentref04_Rise_con N) :=
  fnOk2 (q := avermentref04_Rise_fun N) mix Try.func53 (by kernel_rfl) (by kernel_rfl) (by kernel_rfl) (by kernel_rfl) (by kernel_rfl) (by kernel_rfl) (by kernel_rfl) (tt_ok _ rfl) (fnsOk_of (by kernel_rfl)) (avermentref04_Rise_calls N) (avermentref04_Rise_loops N) (avermentref04_Rise_run N)
noncomputable def avermentref13_Fix_tb : Tabs := ⟨TT, [(52, avermentref13_Regs_sig), (13, avermentref12_Fix_sig), (53, avermentref04_Rise_sig)], [55, 65, 72]⟩
noncomputable def avermentref13_Fix_H : Hints := ⟨[], [], [(6, ⟨⟨[2, 8, 3, 7, 6, 1], [], [], [(1007, 2, 1)]⟩, ⟨[(1, (.lf (.int .i64))), (2, (.lf (.int .i64))), (3, (.pt ⟨1003, 0, 0, 0, []⟩)), (6, (.pt ⟨1006, 0, 0, 0, []⟩)), (7, (.pt ⟨1007, 0, 0, 0, []⟩)), (8, (.lf (.int .i64)))], [], [(1003, ⟨0, some 25, [⟨0, .o 0 .bool⟩, ⟨0, .o 0 (.sl 42 Y2)⟩, ⟨0, .o 0 (.sl 27 (.sl 3 (.int .i64)))⟩]⟩), (1006, ⟨0, some 25, [⟨0, .o 0 .bool⟩, ⟨0, .o 1 (.sl 42 Y2)⟩, ⟨0, .o 2 (.sl 27 (.sl 3 (.int .i64)))⟩]⟩), (1007, ⟨0, some 25, [⟨0, .o 0 .bool⟩, ⟨0, .o 1 (.sl 42 Y2)⟩, ⟨0, .o 1 (.sl 27 (.sl 3 (.int .i64)))⟩]⟩)]⟩, [(0, ⟨⟨[6, 7], [], [], []⟩, ⟨[(6, (.pt ⟨1006, 0, 0, 0, []⟩)), (7, (.pt ⟨1007, 0, 0, 0, []⟩))], [], [(1006, ⟨0, some 25, [⟨0, .o 0 .bool⟩, ⟨0, .o 1 (.sl 42 Y2)⟩, ⟨0, .o 2 (.sl 27 (.sl 3 (.int .i64)))⟩]⟩), (1007, ⟨0, some 25, [⟨0, .o 0 .bool⟩, ⟨0, .o 1 (.sl 42 Y2)⟩, ⟨0, .o 1 (.sl 27 (.sl 3 (.int .i64)))⟩]⟩)]⟩⟩)]⟩), (10, ⟨⟨[10, 2, 8, 3, 9, 7, 6, 1], [9], [], []⟩, ⟨[(1, (.lf (.int .i64))), (2, (.lf (.int .i64))), (3, (.pt ⟨1003, 0, 0, 0, []⟩)), (6, (.pt ⟨1006, 0, 0, 0, []⟩)), (7, (.pt ⟨1007, 0, 0, 0, []⟩)), (8, (.lf (.int .i64))), (9, (.ar ⟨1009, 0, 0, 0, []⟩)), (10, (.lf (.int .i64)))], [], [(1003, ⟨0, some 25, [⟨0, .o 0 .bool⟩, ⟨0, .o 0 (.sl 42 Y2)⟩, ⟨0, .o 0 (.sl 27 (.sl 3 (.int .i64)))⟩]⟩), (1006, ⟨0, some 25, [⟨0, .o 0 .bool⟩, ⟨0, .o 1 (.sl 42 Y2)⟩, ⟨0, .o 2 (.sl 27 (.sl 3 (.int .i64)))⟩]⟩), (1007, ⟨0, some 25, [⟨0, .o 0 .bool⟩, ⟨0, .o 1 (.sl 42 Y2)⟩, ⟨0, .o 1 (.sl 27 (.sl 3 (.int .i64)))⟩]⟩), (1009, ⟨0, none, [⟨0, .o 1 (.sl 3 (.int .i64))⟩]⟩)]⟩, [(2, ⟨⟨[2, 3, 7, 6, 1, 8, 9], [], [], []⟩, ⟨[(1, (.lf (.int .i64))), (2, (.lf (.int .i64))), (3, (.pt ⟨1003, 0, 0, 0, []⟩)), (6, (.pt ⟨1006, 0, 0, 0, []⟩)), (7, (.pt ⟨1007, 0, 0, 0, []⟩)), (8, (.lf (.int .i64))), (9, (.ar ⟨1009, 0, 0, 0, []⟩))], [], [(1003, ⟨0, some 25, [⟨0, .o 0 .bool⟩, ⟨0, .o 0 (.sl 42 Y2)⟩, ⟨0, .o 0 (.sl 27 (.sl 3 (.int .i64)))⟩]⟩), (1006, ⟨0, some 25, [⟨0, .o 0 .bool⟩, ⟨0, .o 1 (.sl 42 Y2)⟩, ⟨0, .o 2 (.sl 27 (.sl 3 (.int .i64)))⟩]⟩), (1007, ⟨0, some 25, [⟨0, .o 0 .bool⟩, ⟨0, .o 1 (.sl 42 Y2)⟩, ⟨0, .o 1 (.sl 27 (.sl 3 (.int .i64)))⟩]⟩), (1009, ⟨0, none, [⟨0, .o 1 (.sl 3 (.int .i64))⟩]⟩)]⟩⟩)]⟩)], ⟨⟨[0], [], [], []⟩, ⟨[(0, (.lf Y5))], [], []⟩⟩⟩
noncomputable def avermentref13_Fix_sig : Sig := ⟨⟨[(0, (.lf Y5)), (1, (.lf (.int .i64))), (2, (.lf (.int .i64)))], [], []⟩, ⟨[(0, (.lf Y5))], [], []⟩, false⟩
noncomputable def avermentref13_Fix_code : Code := match Try.f24.body with | some c => c | none => .skip
noncomputable def avermentref13_Fix_res : List ResultVar := Try.f24.results.toList
noncomputable def avermentref13_Fix_con (N : Nat) : Con := ⟨(.pair Y5 (.pair (.int .i64) (.int .i64))), Y5, fun x => avermentref13_Fix N x.1 x.2.1 x.2.2⟩
noncomputable def avermentref13_Fix_cs (N : Nat) : List (Nat × Con) := [(52, avermentref13_Regs_con N), (13, avermentref12_Fix_con N), (53, avermentref04_Rise_con N)]
noncomputable def avermentref13_Fix_G10 (N n : Nat) (x : (tupTy [(.int .i64), (.int .i64), (.int .i64), (.int .i64), .bool, (.sl 42 Y2), (.sl 27 (.sl 3 (.int .i64))), .bool, (.sl 42 Y2), (.sl 27 (.sl 3 (.int .i64))), .bool, (.sl 42 Y2), (.sl 27 (.sl 3 (.int .i64))), (.sl 3 (.int .i64))]).den) (ks : List (L → Option (Bool × (List (Int × (Bool × Int) × (Int × Int) × Int)) × List (List Int)))) : Option (Bool × (List (Int × (Bool × Int) × (Int × Int) × Int)) × List (List Int)) := avermentref13_Fix_l10 N (fun y => kget ks 0 ⟨(.pair (.int .i64) (.pair (.int .i64) (.pair (.int .i64) (.pair .bool (.pair (.sl 42 Y2) (.pair (.sl 27 (.sl 3 (.int .i64))) (.pair .bool (.pair (.sl 42 Y2) (.pair (.sl 27 (.sl 3 (.int .i64))) (.pair .bool (.pair (.sl 42 Y2) (.pair (.sl 27 (.sl 3 (.int .i64))) (.sl 3 (.int .i64)))))))))))))), y⟩) n x.1 x.2.1 x.2.2.1 x.2.2.2.1 x.2.2.2.2.1 x.2.2.2.2.2.1 x.2.2.2.2.2.2.1 x.2.2.2.2.2.2.2.1 x.2.2.2.2.2.2.2.2.1 x.2.2.2.2.2.2.2.2.2.1 x.2.2.2.2.2.2.2.2.2.2.1 x.2.2.2.2.2.2.2.2.2.2.2.1 x.2.2.2.2.2.2.2.2.2.2.2.2.1 x.2.2.2.2.2.2.2.2.2.2.2.2.2
noncomputable def avermentref13_Fix_lh10 : LH := lhAt avermentref13_Fix_H 10
noncomputable def avermentref13_Fix_c10 : Code := codeAt 10 avermentref13_Fix_code
noncomputable def avermentref13_Fix_G6 (N n : Nat) (x : (tupTy [(.int .i64), (.int .i64), (.int .i64), .bool, (.sl 42 Y2), (.sl 27 (.sl 3 (.int .i64))), .bool, (.sl 42 Y2), (.sl 27 (.sl 3 (.int .i64))), .bool, (.sl 42 Y2), (.sl 27 (.sl 3 (.int .i64)))]).den) (ks : List (L → Option (Bool × (List (Int × (Bool × Int) × (Int × Int) × Int)) × List (List Int)))) : Option (Bool × (List (Int × (Bool × Int) × (Int × Int) × Int)) × List (List Int)) := avermentref13_Fix_l6 N (fun y => kget ks 0 ⟨(.pair .bool (.pair (.sl 42 Y2) (.pair (.sl 27 (.sl 3 (.int .i64))) (.pair .bool (.pair (.sl 42 Y2) (.sl 27 (.sl 3 (.int .i64)))))))), y⟩) n x.1 x.2.1 x.2.2.1 x.2.2.2.1 x.2.2.2.2.1 x.2.2.2.2.2.1 x.2.2.2.2.2.2.1 x.2.2.2.2.2.2.2.1 x.2.2.2.2.2.2.2.2.1 x.2.2.2.2.2.2.2.2.2.1 x.2.2.2.2.2.2.2.2.2.2.1 x.2.2.2.2.2.2.2.2.2.2.2
noncomputable def avermentref13_Fix_lh6 : LH := lhAt avermentref13_Fix_H 6
noncomputable def avermentref13_Fix_c6 : Code := codeAt 6 avermentref13_Fix_code
noncomputable def avermentref13_Fix_ls (N : Nat) : List (Nat × LoopC (Bool × (List (Int × (Bool × Int) × (Int × Int) × Int)) × List (List Int))) := [(10, ⟨tupTy [(.int .i64), (.int .i64), (.int .i64), (.int .i64), .bool, (.sl 42 Y2), (.sl 27 (.sl 3 (.int .i64))), .bool, (.sl 42 Y2), (.sl 27 (.sl 3 (.int .i64))), .bool, (.sl 42 Y2), (.sl 27 (.sl 3 (.int .i64))), (.sl 3 (.int .i64))], lenK 1 (avermentref13_Fix_G10 N N)⟩), (6, ⟨tupTy [(.int .i64), (.int .i64), (.int .i64), .bool, (.sl 42 Y2), (.sl 27 (.sl 3 (.int .i64))), .bool, (.sl 42 Y2), (.sl 27 (.sl 3 (.int .i64))), .bool, (.sl 42 Y2), (.sl 27 (.sl 3 (.int .i64)))], lenK 1 (avermentref13_Fix_G6 N N)⟩)]
noncomputable def avermentref13_Fix_fun (N : Nat) : Fun := ⟨[Y5, (.int .i64), (.int .i64)], avermentref13_Fix_tb, avermentref13_Fix_H, avermentref13_Fix_cs N, Y5, (avermentref13_Fix_con N).F, avermentref13_Fix_code, avermentref13_Fix_res, avermentref13_Fix_ls N⟩
theorem avermentref13_Fix_run (N : Nat) (x : (tupTy [Y5, (.int .i64), (.int .i64)]).den) : (avermentref13_Fix_fun N).run (inSt [Y5, (.int .i64), (.int .i64)] x) = (avermentref13_Fix_con N).F x := by kernel_rfl
theorem avermentref13_Fix_o10 (N : Nat) : RoundOk (ρ := (avermentref13_Fix_fun N).B.den) (avermentref13_Fix_fun N).cs (avermentref13_Fix_fun N).ls (avermentref13_Fix_fun N).tb (avermentref13_Fix_fun N).H (avermentref13_Fix_fun N).fin (avermentref13_Fix_fun N).B avermentref13_Fix_lh10 avermentref13_Fix_c10 [(.int .i64), (.int .i64), (.int .i64), (.int .i64), .bool, (.sl 42 Y2), (.sl 27 (.sl 3 (.int .i64))), .bool, (.sl 42 Y2), (.sl 27 (.sl 3 (.int .i64))), .bool, (.sl 42 Y2), (.sl 27 (.sl 3 (.int .i64))), (.sl 3 (.int .i64))] [(.pair (.int .i64) (.pair (.int .i64) (.pair (.int .i64) (.pair .bool (.pair (.sl 42 Y2) (.pair (.sl 27 (.sl 3 (.int .i64))) (.pair .bool (.pair (.sl 42 Y2) (.pair (.sl 27 (.sl 3 (.int .i64))) (.pair .bool (.pair (.sl 42 Y2) (.pair (.sl 27 (.sl 3 (.int .i64))) (.sl 3 (.int .i64))))))))))))))] (avermentref13_Fix_G10 N) :=
  ⟨by kernel_rfl, fun _ _ => by kernel_rfl, fun _ _ _ => by kernel_rfl⟩
theorem avermentref13_Fix_o6 (N : Nat) : RoundOk (ρ := (avermentref13_Fix_fun N).B.den) (avermentref13_Fix_fun N).cs (avermentref13_Fix_fun N).ls (avermentref13_Fix_fun N).tb (avermentref13_Fix_fun N).H (avermentref13_Fix_fun N).fin (avermentref13_Fix_fun N).B avermentref13_Fix_lh6 avermentref13_Fix_c6 [(.int .i64), (.int .i64), (.int .i64), .bool, (.sl 42 Y2), (.sl 27 (.sl 3 (.int .i64))), .bool, (.sl 42 Y2), (.sl 27 (.sl 3 (.int .i64))), .bool, (.sl 42 Y2), (.sl 27 (.sl 3 (.int .i64)))] [(.pair .bool (.pair (.sl 42 Y2) (.pair (.sl 27 (.sl 3 (.int .i64))) (.pair .bool (.pair (.sl 42 Y2) (.sl 27 (.sl 3 (.int .i64))))))))] (avermentref13_Fix_G6 N) :=
  ⟨by kernel_rfl, fun _ _ => by kernel_rfl, fun _ _ _ => by kernel_rfl⟩
theorem avermentref13_Fix_calls (N : Nat) : CallsOk Try.prog ids (phi Try.prog ids) (avermentref13_Fix_cs N) avermentref13_Fix_tb := fun k sg con h1 h2 => by
  rcases get_consE h2 with ⟨rfl, rfl⟩ | h2
  · obtain rfl := Option.some.inj (h1.symm.trans (show get avermentref13_Fix_tb.sigs 52 = some avermentref13_Regs_sig from by kernel_rfl)); exact avermentref13_Regs_ok N
  rcases get_consE h2 with ⟨rfl, rfl⟩ | h2
  · obtain rfl := Option.some.inj (h1.symm.trans (show get avermentref13_Fix_tb.sigs 13 = some avermentref12_Fix_sig from by kernel_rfl)); exact avermentref12_Fix_ok N
  rcases get_consE h2 with ⟨rfl, rfl⟩ | h2
  · obtain rfl := Option.some.inj (h1.symm.trans (show get avermentref13_Fix_tb.sigs 53 = some avermentref04_Rise_sig from by kernel_rfl)); exact avermentref04_Rise_ok N
  exact (get_nilE h2).elim
theorem avermentref13_Fix_loops (N : Nat) : LoopsL (ρ := (avermentref13_Fix_fun N).B.den) (avermentref13_Fix_fun N).cs (avermentref13_Fix_fun N).ls (avermentref13_Fix_fun N).tb (avermentref13_Fix_fun N).H (avermentref13_Fix_fun N).fin (avermentref13_Fix_fun N).B (avermentref13_Fix_fun N).code := fun k lc h => by
  rcases get_consE h with ⟨rfl, rfl⟩ | h
  · exact ⟨_, loopOk (avermentref13_Fix_o10 N)⟩
  rcases get_consE h with ⟨rfl, rfl⟩ | h
  · exact ⟨_, loopOk (avermentref13_Fix_o6 N)⟩
  exact (get_nilE h).elim
theorem avermentref13_Fix_ok (N : Nat) : FnOk Try.prog ids (phi Try.prog ids) 24 avermentref13_Fix_sig (avermentref13_Fix_con N) :=
  fnOk2 (q := avermentref13_Fix_fun N) mix Try.func24 (by kernel_rfl) (by kernel_rfl) (by kernel_rfl) (by kernel_rfl) (by kernel_rfl) (by kernel_rfl) (by kernel_rfl) (tt_ok _ rfl) (fnsOk_of (by kernel_rfl)) (avermentref13_Fix_calls N) (avermentref13_Fix_loops N) (avermentref13_Fix_run N)
noncomputable def avermentlaw13_fix_tb : Tabs := ⟨TT, [(24, avermentref13_Fix_sig)], []⟩
noncomputable def avermentlaw13_fix_H : Hints := ⟨[], [], [], ⟨⟨[0], [], [], []⟩, ⟨[(0, (.lf Y5))], [], []⟩⟩⟩
noncomputable def avermentlaw13_fix_sig : Sig := ⟨⟨[(0, (.lf Y5))], [], []⟩, ⟨[(0, (.lf Y5))], [], []⟩, false⟩
noncomputable def avermentlaw13_fix_code : Code := match Try.f9.body with | some c => c | none => .skip
noncomputable def avermentlaw13_fix_res : List ResultVar := Try.f9.results.toList
noncomputable def avermentlaw13_fix_con (N : Nat) : Con := ⟨Y5, Y5, fun x => avermentlaw13_fix N x⟩
noncomputable def avermentlaw13_fix_cs (N : Nat) : List (Nat × Con) := [(24, avermentref13_Fix_con N)]
noncomputable def avermentlaw13_fix_ls (N : Nat) : List (Nat × LoopC (Bool × (List (Int × (Bool × Int) × (Int × Int) × Int)) × List (List Int))) := []
noncomputable def avermentlaw13_fix_fun (N : Nat) : Fun := ⟨[Y5], avermentlaw13_fix_tb, avermentlaw13_fix_H, avermentlaw13_fix_cs N, Y5, (avermentlaw13_fix_con N).F, avermentlaw13_fix_code, avermentlaw13_fix_res, avermentlaw13_fix_ls N⟩
theorem avermentlaw13_fix_run (N : Nat) (x : (tupTy [Y5]).den) : (avermentlaw13_fix_fun N).run (inSt [Y5] x) = (avermentlaw13_fix_con N).F x := by kernel_rfl
theorem avermentlaw13_fix_calls (N : Nat) : CallsOk Try.prog ids (phi Try.prog ids) (avermentlaw13_fix_cs N) avermentlaw13_fix_tb := fun k sg con h1 h2 => by
  rcases get_consE h2 with ⟨rfl, rfl⟩ | h2
  · obtain rfl := Option.some.inj (h1.symm.trans (show get avermentlaw13_fix_tb.sigs 24 = some avermentref13_Fix_sig from by kernel_rfl)); exact avermentref13_Fix_ok N
  exact (get_nilE h2).elim
theorem avermentlaw13_fix_loops (N : Nat) : LoopsL (ρ := (avermentlaw13_fix_fun N).B.den) (avermentlaw13_fix_fun N).cs (avermentlaw13_fix_fun N).ls (avermentlaw13_fix_fun N).tb (avermentlaw13_fix_fun N).H (avermentlaw13_fix_fun N).fin (avermentlaw13_fix_fun N).B (avermentlaw13_fix_fun N).code := fun k lc h => by
  exact (get_nilE h).elim
theorem avermentlaw13_fix_ok (N : Nat) : FnOk Try.prog ids (phi Try.prog ids) 9 avermentlaw13_fix_sig (avermentlaw13_fix_con N) :=
  fnOk2 (q := avermentlaw13_fix_fun N) mix Try.func9 (by kernel_rfl) (by kernel_rfl) (by kernel_rfl) (by kernel_rfl) (by kernel_rfl) (by kernel_rfl) (by kernel_rfl) (tt_ok _ rfl) (fnsOk_of (by kernel_rfl)) (avermentlaw13_fix_calls N) (avermentlaw13_fix_loops N) (avermentlaw13_fix_run N)
noncomputable def avermentlaw09_To_tb : Tabs := ⟨TT, [], []⟩
noncomputable def avermentlaw09_To_H : Hints := ⟨[], [], [], ⟨⟨[0], [], [], []⟩, ⟨[(0, (.lf Y0))], [], []⟩⟩⟩
noncomputable def avermentlaw09_To_sig : Sig := ⟨⟨[(0, (.lf Y0))], [], []⟩, ⟨[(0, (.lf Y0))], [], []⟩, false⟩
noncomputable def avermentlaw09_To_code : Code := match Try.f37.body with | some c => c | none => .skip
noncomputable def avermentlaw09_To_res : List ResultVar := Try.f37.results.toList
noncomputable def avermentlaw09_To_con (N : Nat) : Con := ⟨Y0, Y0, fun x => avermentlaw09_To N x⟩
noncomputable def avermentlaw09_To_cs (N : Nat) : List (Nat × Con) := []
noncomputable def avermentlaw09_To_ls (N : Nat) : List (Nat × LoopC (Bool × Int)) := []
noncomputable def avermentlaw09_To_fun (N : Nat) : Fun := ⟨[Y0], avermentlaw09_To_tb, avermentlaw09_To_H, avermentlaw09_To_cs N, Y0, (avermentlaw09_To_con N).F, avermentlaw09_To_code, avermentlaw09_To_res, avermentlaw09_To_ls N⟩
theorem avermentlaw09_To_run (N : Nat) (x : (tupTy [Y0]).den) : (avermentlaw09_To_fun N).run (inSt [Y0] x) = (avermentlaw09_To_con N).F x := by kernel_rfl
theorem avermentlaw09_To_calls (N : Nat) : CallsOk Try.prog ids (phi Try.prog ids) (avermentlaw09_To_cs N) avermentlaw09_To_tb := fun k sg con h1 h2 => by
  exact (get_nilE h2).elim
theorem avermentlaw09_To_loops (N : Nat) : LoopsL (ρ := (avermentlaw09_To_fun N).B.den) (avermentlaw09_To_fun N).cs (avermentlaw09_To_fun N).ls (avermentlaw09_To_fun N).tb (avermentlaw09_To_fun N).H (avermentlaw09_To_fun N).fin (avermentlaw09_To_fun N).B (avermentlaw09_To_fun N).code := fun k lc h => by
  exact (get_nilE h).elim
theorem avermentlaw09_To_ok (N : Nat) : FnOk Try.prog ids (phi Try.prog ids) 37 avermentlaw09_To_sig (avermentlaw09_To_con N) :=
  fnOk2 (q := avermentlaw09_To_fun N) mix Try.func37 (by kernel_rfl) (by kernel_rfl) (by kernel_rfl) (by kernel_rfl) (by kernel_rfl) (by kernel_rfl) (by kernel_rfl) (tt_ok _ rfl) (fnsOk_of (by kernel_rfl)) (avermentlaw09_To_calls N) (avermentlaw09_To_loops N) (avermentlaw09_To_run N)
noncomputable def avermentlaw10_To_tb : Tabs := ⟨TT, [], []⟩
noncomputable def avermentlaw10_To_H : Hints := ⟨[], [], [], ⟨⟨[0], [], [], []⟩, ⟨[(0, (.lf Y1))], [], []⟩⟩⟩
noncomputable def avermentlaw10_To_sig : Sig := ⟨⟨[(0, (.lf Y1))], [], []⟩, ⟨[(0, (.lf Y1))], [], []⟩, false⟩
noncomputable def avermentlaw10_To_code : Code := match Try.f38.body with | some c => c | none => .skip
noncomputable def avermentlaw10_To_res : List ResultVar := Try.f38.results.toList
noncomputable def avermentlaw10_To_con (N : Nat) : Con := ⟨Y1, Y1, fun x => avermentlaw10_To N x⟩
noncomputable def avermentlaw10_To_cs (N : Nat) : List (Nat × Con) := []
noncomputable def avermentlaw10_To_ls (N : Nat) : List (Nat × LoopC (Int × Int)) := []
noncomputable def avermentlaw10_To_fun (N : Nat) : Fun := ⟨[Y1], avermentlaw10_To_tb, avermentlaw10_To_H, avermentlaw10_To_cs N, Y1, (avermentlaw10_To_con N).F, avermentlaw10_To_code, avermentlaw10_To_res, avermentlaw10_To_ls N⟩
theorem avermentlaw10_To_run (N : Nat) (x : (tupTy [Y1]).den) : (avermentlaw10_To_fun N).run (inSt [Y1] x) = (avermentlaw10_To_con N).F x := by kernel_rfl
theorem avermentlaw10_To_calls (N : Nat) : CallsOk Try.prog ids (phi Try.prog ids) (avermentlaw10_To_cs N) avermentlaw10_To_tb := fun k sg con h1 h2 => by
  exact (get_nilE h2).elim
theorem avermentlaw10_To_loops (N : Nat) : LoopsL (ρ := (avermentlaw10_To_fun N).B.den) (avermentlaw10_To_fun N).cs (avermentlaw10_To_fun N).ls (avermentlaw10_To_fun N).tb (avermentlaw10_To_fun N).H (avermentlaw10_To_fun N).fin (avermentlaw10_To_fun N).B (avermentlaw10_To_fun N).code := fun k lc h => by
  exact (get_nilE h).elim
theorem avermentlaw10_To_ok (N : Nat) : FnOk Try.prog ids (phi Try.prog ids) 38 avermentlaw10_To_sig (avermentlaw10_To_con N) :=
  fnOk2 (q := avermentlaw10_To_fun N) mix Try.func38 (by kernel_rfl) (by kernel_rfl) (by kernel_rfl) (by kernel_rfl) (by kernel_rfl) (by kernel_rfl) (by kernel_rfl) (tt_ok _ rfl) (fnsOk_of (by kernel_rfl)) (avermentlaw10_To_calls N) (avermentlaw10_To_loops N) (avermentlaw10_To_run N)
noncomputable def avermentlaw12_To_tb : Tabs := ⟨TT, [(37, avermentlaw09_To_sig), (38, avermentlaw10_To_sig)], []⟩
noncomputable def avermentlaw12_To_H : Hints := ⟨[], [], [], ⟨⟨[0], [], [], []⟩, ⟨[(0, (.lf Y2))], [], []⟩⟩⟩
noncomputable def avermentlaw12_To_sig : Sig := ⟨⟨[(0, (.lf Y2))], [], []⟩, ⟨[(0, (.lf Y2))], [], []⟩, false⟩
noncomputable def avermentlaw12_To_code : Code := match Try.f14.body with | some c => c | none => .skip
noncomputable def avermentlaw12_To_res : List ResultVar := Try.f14.results.toList
noncomputable def avermentlaw12_To_con (N : Nat) : Con := ⟨Y2, Y2, fun x => avermentlaw12_To N x⟩
noncomputable def avermentlaw12_To_cs (N : Nat) : List (Nat × Con) := [(37, avermentlaw09_To_con N), (38, avermentlaw10_To_con N)]
noncomputable def avermentlaw12_To_ls (N : Nat) : List (Nat × LoopC (Int × (Bool × Int) × (Int × Int) × Int)) := []
noncomputable def avermentlaw12_To_fun (N : Nat) : Fun := ⟨[Y2], avermentlaw12_To_tb, avermentlaw12_To_H, avermentlaw12_To_cs N, Y2, (avermentlaw12_To_con N).F, avermentlaw12_To_code, avermentlaw12_To_res, avermentlaw12_To_ls N⟩
theorem avermentlaw12_To_run (N : Nat) (x : (tupTy [Y2]).den) : (avermentlaw12_To_fun N).run (inSt [Y2] x) = (avermentlaw12_To_con N).F x := by kernel_rfl
theorem avermentlaw12_To_calls (N : Nat) : CallsOk Try.prog ids (phi Try.prog ids) (avermentlaw12_To_cs N) avermentlaw12_To_tb := fun k sg con h1 h2 => by
  rcases get_consE h2 with ⟨rfl, rfl⟩ | h2
  · obtain rfl := Option.some.inj (h1.symm.trans (show get avermentlaw12_To_tb.sigs 37 = some avermentlaw09_To_sig from by kernel_rfl)); exact avermentlaw09_To_ok N
  rcases get_consE h2 with ⟨rfl, rfl⟩ | h2
  · obtain rfl := Option.some.inj (h1.symm.trans (show get avermentlaw12_To_tb.sigs 38 = some avermentlaw10_To_sig from by kernel_rfl)); exact avermentlaw10_To_ok N
  exact (get_nilE h2).elim
theorem avermentlaw12_To_loops (N : Nat) : LoopsL (ρ := (avermentlaw12_To_fun N).B.den) (avermentlaw12_To_fun N).cs (avermentlaw12_To_fun N).ls (avermentlaw12_To_fun N).tb (avermentlaw12_To_fun N).H (avermentlaw12_To_fun N).fin (avermentlaw12_To_fun N).B (avermentlaw12_To_fun N).code := fun k lc h => by
  exact (get_nilE h).elim
theorem avermentlaw12_To_ok (N : Nat) : FnOk Try.prog ids (phi Try.prog ids) 14 avermentlaw12_To_sig (avermentlaw12_To_con N) :=
  fnOk2 (q := avermentlaw12_To_fun N) mix Try.func14 (by kernel_rfl) (by kernel_rfl) (by kernel_rfl) (by kernel_rfl) (by kernel_rfl) (by kernel_rfl) (by kernel_rfl) (tt_ok _ rfl) (fnsOk_of (by kernel_rfl)) (avermentlaw12_To_calls N) (avermentlaw12_To_loops N) (avermentlaw12_To_run N)
noncomputable def avermentlaw13_To_tb : Tabs := ⟨TT, [(14, avermentlaw12_To_sig)], [24, 43]⟩
noncomputable def avermentlaw13_To_H : Hints := ⟨[], [], [(8, ⟨⟨[5, 3, 1, 2], [], [], [(1003, 2, 1)]⟩, ⟨[(1, (.pt ⟨1001, 0, 0, 0, []⟩)), (2, (.pt ⟨1002, 0, 0, 0, []⟩)), (3, (.pt ⟨1003, 0, 0, 0, []⟩)), (5, (.lf (.int .i64)))], [], [(1001, ⟨0, some 25, [⟨0, .o 0 .bool⟩, ⟨0, .o 0 (.sl 42 Y2)⟩, ⟨0, .o 0 (.sl 27 (.sl 3 (.int .i64)))⟩]⟩), (1002, ⟨0, some 32, [⟨0, .o 0 .bool⟩, ⟨0, .o 1 (.sl 47 Y2)⟩, ⟨0, .o 2 (.sl 27 (.sl 3 (.int .i64)))⟩]⟩), (1003, ⟨0, some 32, [⟨0, .o 0 .bool⟩, ⟨0, .o 1 (.sl 47 Y2)⟩, ⟨0, .o 1 (.sl 27 (.sl 3 (.int .i64)))⟩]⟩)]⟩, [(2, ⟨⟨[2, 3], [], [], []⟩, ⟨[(2, (.pt ⟨1002, 0, 0, 0, []⟩)), (3, (.pt ⟨1003, 0, 0, 0, []⟩))], [], [(1002, ⟨0, some 32, [⟨0, .o 0 .bool⟩, ⟨0, .o 1 (.sl 47 Y2)⟩, ⟨0, .o 2 (.sl 27 (.sl 3 (.int .i64)))⟩]⟩), (1003, ⟨0, some 32, [⟨0, .o 0 .bool⟩, ⟨0, .o 1 (.sl 47 Y2)⟩, ⟨0, .o 1 (.sl 27 (.sl 3 (.int .i64)))⟩]⟩)]⟩⟩)]⟩), (4, ⟨⟨[4, 3, 1, 2], [], [], []⟩, ⟨[(1, (.pt ⟨1001, 0, 0, 0, []⟩)), (2, (.pt ⟨1002, 0, 0, 0, []⟩)), (3, (.pt ⟨1003, 0, 0, 0, []⟩)), (4, (.lf (.int .i64)))], [], [(1001, ⟨0, some 25, [⟨0, .o 0 .bool⟩, ⟨0, .o 0 (.sl 42 Y2)⟩, ⟨0, .o 0 (.sl 27 (.sl 3 (.int .i64)))⟩]⟩), (1002, ⟨0, some 32, [⟨0, .o 0 .bool⟩, ⟨0, .o 1 (.sl 47 Y2)⟩, ⟨0, .o 2 (.sl 27 (.sl 3 (.int .i64)))⟩]⟩), (1003, ⟨0, some 32, [⟨0, .o 0 .bool⟩, ⟨0, .o 1 (.sl 47 Y2)⟩, ⟨0, .o 2 (.sl 27 (.sl 3 (.int .i64)))⟩]⟩)]⟩, [(0, ⟨⟨[3, 1, 2], [], [], []⟩, ⟨[(1, (.pt ⟨1001, 0, 0, 0, []⟩)), (2, (.pt ⟨1002, 0, 0, 0, []⟩)), (3, (.pt ⟨1003, 0, 0, 0, []⟩))], [], [(1001, ⟨0, some 25, [⟨0, .o 0 .bool⟩, ⟨0, .o 0 (.sl 42 Y2)⟩, ⟨0, .o 0 (.sl 27 (.sl 3 (.int .i64)))⟩]⟩), (1002, ⟨0, some 32, [⟨0, .o 0 .bool⟩, ⟨0, .o 1 (.sl 47 Y2)⟩, ⟨0, .o 2 (.sl 27 (.sl 3 (.int .i64)))⟩]⟩), (1003, ⟨0, some 32, [⟨0, .o 0 .bool⟩, ⟨0, .o 1 (.sl 47 Y2)⟩, ⟨0, .o 2 (.sl 27 (.sl 3 (.int .i64)))⟩]⟩)]⟩⟩)]⟩)], ⟨⟨[0], [], [], []⟩, ⟨[(0, (.lf Y4))], [], []⟩⟩⟩
noncomputable def avermentlaw13_To_sig : Sig := ⟨⟨[(0, (.lf Y5))], [], []⟩, ⟨[(0, (.lf Y4))], [], []⟩, false⟩
noncomputable def avermentlaw13_To_code : Code := match Try.f11.body with | some c => c | none => .skip
noncomputable def avermentlaw13_To_res : List ResultVar := Try.f11.results.toList
noncomputable def avermentlaw13_To_con (N : Nat) : Con := ⟨Y5, Y4, fun x => avermentlaw13_To N x⟩
noncomputable def avermentlaw13_To_cs (N : Nat) : List (Nat × Con) := [(14, avermentlaw12_To_con N)]
noncomputable def avermentlaw13_To_G4 (N n : Nat) (x : (tupTy [(.int .i64), .bool, (.sl 42 Y2), (.sl 27 (.sl 3 (.int .i64))), .bool, (.sl 47 Y2), (.sl 27 (.sl 3 (.int .i64))), .bool, (.sl 47 Y2), (.sl 27 (.sl 3 (.int .i64)))]).den) (ks : List (L → Option (Bool × (List (Int × (Bool × Int) × (Int × Int) × Int)) × List (List Int)))) : Option (Bool × (List (Int × (Bool × Int) × (Int × Int) × Int)) × List (List Int)) := avermentlaw13_To_l4 N (fun y => kget ks 0 ⟨(.pair .bool (.pair (.sl 42 Y2) (.pair (.sl 27 (.sl 3 (.int .i64))) (.pair .bool (.pair (.sl 47 Y2) (.pair (.sl 27 (.sl 3 (.int .i64))) (.pair .bool (.pair (.sl 47 Y2) (.sl 27 (.sl 3 (.int .i64))))))))))), y⟩) n x.1 x.2.1 x.2.2.1 x.2.2.2.1 x.2.2.2.2.1 x.2.2.2.2.2.1 x.2.2.2.2.2.2.1 x.2.2.2.2.2.2.2.1 x.2.2.2.2.2.2.2.2.1 x.2.2.2.2.2.2.2.2.2
noncomputable def avermentlaw13_To_lh4 : LH := lhAt avermentlaw13_To_H 4
noncomputable def avermentlaw13_To_c4 : Code := codeAt 4 avermentlaw13_To_code
noncomputable def avermentlaw13_To_G8 (N n : Nat) (x : (tupTy [(.int .i64), .bool, (.sl 42 Y2), (.sl 27 (.sl 3 (.int .i64))), .bool, (.sl 47 Y2), (.sl 27 (.sl 3 (.int .i64))), .bool, (.sl 47 Y2), (.sl 27 (.sl 3 (.int .i64)))]).den) (ks : List (L → Option (Bool × (List (Int × (Bool × Int) × (Int × Int) × Int)) × List (List Int)))) : Option (Bool × (List (Int × (Bool × Int) × (Int × Int) × Int)) × List (List Int)) := avermentlaw13_To_l8 N (fun y => kget ks 0 ⟨(.pair .bool (.pair (.sl 47 Y2) (.pair (.sl 27 (.sl 3 (.int .i64))) (.pair .bool (.pair (.sl 47 Y2) (.sl 27 (.sl 3 (.int .i64)))))))), y⟩) n x.1 x.2.1 x.2.2.1 x.2.2.2.1 x.2.2.2.2.1 x.2.2.2.2.2.1 x.2.2.2.2.2.2.1 x.2.2.2.2.2.2.2.1 x.2.2.2.2.2.2.2.2.1 x.2.2.2.2.2.2.2.2.2
noncomputable def avermentlaw13_To_lh8 : LH := lhAt avermentlaw13_To_H 8
noncomputable def avermentlaw13_To_c8 : Code := codeAt 8 avermentlaw13_To_code
noncomputable def avermentlaw13_To_ls (N : Nat) : List (Nat × LoopC (Bool × (List (Int × (Bool × Int) × (Int × Int) × Int)) × List (List Int))) := [(4, ⟨tupTy [(.int .i64), .bool, (.sl 42 Y2), (.sl 27 (.sl 3 (.int .i64))), .bool, (.sl 47 Y2), (.sl 27 (.sl 3 (.int .i64))), .bool, (.sl 47 Y2), (.sl 27 (.sl 3 (.int .i64)))], lenK 1 (avermentlaw13_To_G4 N N)⟩), (8, ⟨tupTy [(.int .i64), .bool, (.sl 42 Y2), (.sl 27 (.sl 3 (.int .i64))), .bool, (.sl 47 Y2), (.sl 27 (.sl 3 (.int .i64))), .bool, (.sl 47 Y2), (.sl 27 (.sl 3 (.int .i64)))], lenK 1 (avermentlaw13_To_G8 N N)⟩)]
noncomputable def avermentlaw13_To_fun (N : Nat) : Fun := ⟨[Y5], avermentlaw13_To_tb, avermentlaw13_To_H, avermentlaw13_To_cs N, Y4, (avermentlaw13_To_con N).F, avermentlaw13_To_code, avermentlaw13_To_res, avermentlaw13_To_ls N⟩
theorem avermentlaw13_To_run (N : Nat) (x : (tupTy [Y5]).den) : (avermentlaw13_To_fun N).run (inSt [Y5] x) = (avermentlaw13_To_con N).F x := by kernel_rfl
theorem avermentlaw13_To_o4 (N : Nat) : RoundOk (ρ := (avermentlaw13_To_fun N).B.den) (avermentlaw13_To_fun N).cs (avermentlaw13_To_fun N).ls (avermentlaw13_To_fun N).tb (avermentlaw13_To_fun N).H (avermentlaw13_To_fun N).fin (avermentlaw13_To_fun N).B avermentlaw13_To_lh4 avermentlaw13_To_c4 [(.int .i64), .bool, (.sl 42 Y2), (.sl 27 (.sl 3 (.int .i64))), .bool, (.sl 47 Y2), (.sl 27 (.sl 3 (.int .i64))), .bool, (.sl 47 Y2), (.sl 27 (.sl 3 (.int .i64)))] [(.pair .bool (.pair (.sl 42 Y2) (.pair (.sl 27 (.sl 3 (.int .i64))) (.pair .bool (.pair (.sl 47 Y2) (.pair (.sl 27 (.sl 3 (.int .i64))) (.pair .bool (.pair (.sl 47 Y2) (.sl 27 (.sl 3 (.int .i64)))))))))))] (avermentlaw13_To_G4 N) :=
  ⟨by kernel_rfl, fun _ _ => by kernel_rfl, fun _ _ _ => by kernel_rfl⟩
theorem avermentlaw13_To_o8 (N : Nat) : RoundOk (ρ := (avermentlaw13_To_fun N).B.den) (avermentlaw13_To_fun N).cs (avermentlaw13_To_fun N).ls (avermentlaw13_To_fun N).tb (avermentlaw13_To_fun N).H (avermentlaw13_To_fun N).fin (avermentlaw13_To_fun N).B avermentlaw13_To_lh8 avermentlaw13_To_c8 [(.int .i64), .bool, (.sl 42 Y2), (.sl 27 (.sl 3 (.int .i64))), .bool, (.sl 47 Y2), (.sl 27 (.sl 3 (.int .i64))), .bool, (.sl 47 Y2), (.sl 27 (.sl 3 (.int .i64)))] [(.pair .bool (.pair (.sl 47 Y2) (.pair (.sl 27 (.sl 3 (.int .i64))) (.pair .bool (.pair (.sl 47 Y2) (.sl 27 (.sl 3 (.int .i64))))))))] (avermentlaw13_To_G8 N) :=
  ⟨by kernel_rfl, fun _ _ => by kernel_rfl, fun _ _ _ => by kernel_rfl⟩
theorem avermentlaw13_To_calls (N : Nat) : CallsOk Try.prog ids (phi Try.prog ids) (avermentlaw13_To_cs N) avermentlaw13_To_tb := fun k sg con h1 h2 => by
  rcases get_consE h2 with ⟨rfl, rfl⟩ | h2
  · obtain rfl := Option.some.inj (h1.symm.trans (show get avermentlaw13_To_tb.sigs 14 = some avermentlaw12_To_sig from by kernel_rfl)); exact avermentlaw12_To_ok N
  exact (get_nilE h2).elim
theorem avermentlaw13_To_loops (N : Nat) : LoopsL (ρ := (avermentlaw13_To_fun N).B.den) (avermentlaw13_To_fun N).cs (avermentlaw13_To_fun N).ls (avermentlaw13_To_fun N).tb (avermentlaw13_To_fun N).H (avermentlaw13_To_fun N).fin (avermentlaw13_To_fun N).B (avermentlaw13_To_fun N).code := fun k lc h => by
  rcases get_consE h with ⟨rfl, rfl⟩ | h
  · exact ⟨_, loopOk (avermentlaw13_To_o4 N)⟩
  rcases get_consE h with ⟨rfl, rfl⟩ | h
  · exact ⟨_, loopOk (avermentlaw13_To_o8 N)⟩
  exact (get_nilE h).elim
theorem avermentlaw13_To_ok (N : Nat) : FnOk Try.prog ids (phi Try.prog ids) 11 avermentlaw13_To_sig (avermentlaw13_To_con N) :=
  fnOk2 (q := avermentlaw13_To_fun N) mix Try.func11 (by kernel_rfl) (by kernel_rfl) (by kernel_rfl) (by kernel_rfl) (by kernel_rfl) (by kernel_rfl) (by kernel_rfl) (tt_ok _ rfl) (fnsOk_of (by kernel_rfl)) (avermentlaw13_To_calls N) (avermentlaw13_To_loops N) (avermentlaw13_To_run N)
noncomputable def avermentref12_Right_tb : Tabs := ⟨TT, [], []⟩
noncomputable def avermentref12_Right_H : Hints := ⟨[], [], [], ⟨⟨[0], [], [], []⟩, ⟨[(0, (.lf .bool))], [], []⟩⟩⟩
noncomputable def avermentref12_Right_sig : Sig := ⟨⟨[(0, (.lf Y2))], [], []⟩, ⟨[(0, (.lf .bool))], [], []⟩, false⟩
noncomputable def avermentref12_Right_code : Code := match Try.f33.body with | some c => c | none => .skip
noncomputable def avermentref12_Right_res : List ResultVar := Try.f33.results.toList
noncomputable def avermentref12_Right_con (N : Nat) : Con := ⟨Y2, .bool, fun x => avermentref12_Right N x⟩
noncomputable def avermentref12_Right_cs (N : Nat) : List (Nat × Con) := []
noncomputable def avermentref12_Right_ls (N : Nat) : List (Nat × LoopC (Bool)) := []
noncomputable def avermentref12_Right_fun (N : Nat) : Fun := ⟨[Y2], avermentref12_Right_tb, avermentref12_Right_H, avermentref12_Right_cs N, .bool, (avermentref12_Right_con N).F, avermentref12_Right_code, avermentref12_Right_res, avermentref12_Right_ls N⟩
theorem avermentref12_Right_run (N : Nat) (x : (tupTy [Y2]).den) : (avermentref12_Right_fun N).run (inSt [Y2] x) = (avermentref12_Right_con N).F x := by kernel_rfl
theorem avermentref12_Right_calls (N : Nat) : CallsOk Try.prog ids (phi Try.prog ids) (avermentref12_Right_cs N) avermentref12_Right_tb := fun k sg con h1 h2 => by
  exact (get_nilE h2).elim
theorem avermentref12_Right_loops (N : Nat) : LoopsL (ρ := (avermentref12_Right_fun N).B.den) (avermentref12_Right_fun N).cs (avermentref12_Right_fun N).ls (avermentref12_Right_fun N).tb (avermentref12_Right_fun N).H (avermentref12_Right_fun N).fin (avermentref12_Right_fun N).B (avermentref12_Right_fun N).code := fun k lc h => by
  exact (get_nilE h).elim
theorem avermentref12_Right_ok (N : Nat) : FnOk Try.prog ids (phi Try.prog ids) 33 avermentref12_Right_sig (avermentref12_Right_con N) :=
  fnOk2 (q := avermentref12_Right_fun N) mix Try.func33 (by kernel_rfl) (by kernel_rfl) (by kernel_rfl) (by kernel_rfl) (by kernel_rfl) (by kernel_rfl) (by kernel_rfl) (tt_ok _ rfl) (fnsOk_of (by kernel_rfl)) (avermentref12_Right_calls N) (avermentref12_Right_loops N) (avermentref12_Right_run N)
noncomputable def avermentref03_Right_tb : Tabs := ⟨TT, [], []⟩
noncomputable def avermentref03_Right_H : Hints := ⟨[], [], [(5, ⟨⟨[5, 1, 0], [], [], []⟩, ⟨[(0, (.lf (.int .i64))), (1, (.lf (.sl 3 (.int .i64)))), (5, (.lf (.int .i64)))], [], []⟩, [(0, ⟨⟨[], [], [], []⟩, ⟨[], [], []⟩⟩)]⟩)], ⟨⟨[0], [], [], []⟩, ⟨[(0, (.lf .bool))], [], []⟩⟩⟩
noncomputable def avermentref03_Right_sig : Sig := ⟨⟨[(0, (.lf (.int .i64))), (1, (.lf (.sl 3 (.int .i64))))], [], []⟩, ⟨[(0, (.lf .bool))], [], []⟩, false⟩
noncomputable def avermentref03_Right_code : Code := match Try.f34.body with | some c => c | none => .skip
noncomputable def avermentref03_Right_res : List ResultVar := Try.f34.results.toList
noncomputable def avermentref03_Right_con (N : Nat) : Con := ⟨(.pair (.int .i64) (.sl 3 (.int .i64))), .bool, fun x => avermentref03_Right N x.1 x.2⟩
noncomputable def avermentref03_Right_cs (N : Nat) : List (Nat × Con) := []
noncomputable def avermentref03_Right_G5 (N n : Nat) (x : (tupTy [(.int .i64), (.sl 3 (.int .i64)), (.int .i64)]).den) (ks : List (L → Option (Bool))) : Option (Bool) := avermentref03_Right_l5 N (fun y => kget ks 0 ⟨.unit, y⟩) (fun y => kget ks 1 ⟨.bool, y⟩) n x.1 x.2.1 x.2.2
noncomputable def avermentref03_Right_lh5 : LH := lhAt avermentref03_Right_H 5
noncomputable def avermentref03_Right_c5 : Code := codeAt 5 avermentref03_Right_code
noncomputable def avermentref03_Right_ls (N : Nat) : List (Nat × LoopC (Bool)) := [(5, ⟨tupTy [(.int .i64), (.sl 3 (.int .i64)), (.int .i64)], lenK 2 (avermentref03_Right_G5 N N)⟩)]
noncomputable def avermentref03_Right_fun (N : Nat) : Fun := ⟨[(.int .i64), (.sl 3 (.int .i64))], avermentref03_Right_tb, avermentref03_Right_H, avermentref03_Right_cs N, .bool, (avermentref03_Right_con N).F, avermentref03_Right_code, avermentref03_Right_res, avermentref03_Right_ls N⟩
theorem avermentref03_Right_run (N : Nat) (x : (tupTy [(.int .i64), (.sl 3 (.int .i64))]).den) : (avermentref03_Right_fun N).run (inSt [(.int .i64), (.sl 3 (.int .i64))] x) = (avermentref03_Right_con N).F x := by kernel_rfl
theorem avermentref03_Right_o5 (N : Nat) : RoundOk (ρ := (avermentref03_Right_fun N).B.den) (avermentref03_Right_fun N).cs (avermentref03_Right_fun N).ls (avermentref03_Right_fun N).tb (avermentref03_Right_fun N).H (avermentref03_Right_fun N).fin (avermentref03_Right_fun N).B avermentref03_Right_lh5 avermentref03_Right_c5 [(.int .i64), (.sl 3 (.int .i64)), (.int .i64)] [.unit, .bool] (avermentref03_Right_G5 N) :=
  ⟨by kernel_rfl, fun _ _ => by kernel_rfl, fun _ _ _ => by kernel_rfl⟩
theorem avermentref03_Right_calls (N : Nat) : CallsOk Try.prog ids (phi Try.prog ids) (avermentref03_Right_cs N) avermentref03_Right_tb := fun k sg con h1 h2 => by
  exact (get_nilE h2).elim
theorem avermentref03_Right_loops (N : Nat) : LoopsL (ρ := (avermentref03_Right_fun N).B.den) (avermentref03_Right_fun N).cs (avermentref03_Right_fun N).ls (avermentref03_Right_fun N).tb (avermentref03_Right_fun N).H (avermentref03_Right_fun N).fin (avermentref03_Right_fun N).B (avermentref03_Right_fun N).code := fun k lc h => by
  rcases get_consE h with ⟨rfl, rfl⟩ | h
  · exact ⟨_, loopOk (avermentref03_Right_o5 N)⟩
  exact (get_nilE h).elim
theorem avermentref03_Right_ok (N : Nat) : FnOk Try.prog ids (phi Try.prog ids) 34 avermentref03_Right_sig (avermentref03_Right_con N) :=
  fnOk2 (q := avermentref03_Right_fun N) mix Try.func34 (by kernel_rfl) (by kernel_rfl) (by kernel_rfl) (by kernel_rfl) (by kernel_rfl) (by kernel_rfl) (by kernel_rfl) (tt_ok _ rfl) (fnsOk_of (by kernel_rfl)) (avermentref03_Right_calls N) (avermentref03_Right_loops N) (avermentref03_Right_run N)
noncomputable def avermentref13_Right_tb : Tabs := ⟨TT, [(33, avermentref12_Right_sig), (34, avermentref03_Right_sig)], []⟩
noncomputable def avermentref13_Right_H : Hints := ⟨[], [], [(7, ⟨⟨[7, 3, 2, 1], [], [], []⟩, ⟨[(1, (.lf (.int .i64))), (2, (.lf (.int .i64))), (3, (.pt ⟨1003, 0, 0, 0, []⟩)), (7, (.lf (.int .i64)))], [], [(1003, ⟨0, some 25, [⟨0, .o 0 .bool⟩, ⟨0, .o 0 (.sl 42 Y2)⟩, ⟨0, .o 0 (.sl 27 (.sl 3 (.int .i64)))⟩]⟩)]⟩, [(0, ⟨⟨[], [], [], []⟩, ⟨[], [], []⟩⟩)]⟩)], ⟨⟨[0], [], [], []⟩, ⟨[(0, (.lf .bool))], [], []⟩⟩⟩
noncomputable def avermentref13_Right_sig : Sig := ⟨⟨[(0, (.lf Y5)), (1, (.lf (.int .i64))), (2, (.lf (.int .i64)))], [], []⟩, ⟨[(0, (.lf .bool))], [], []⟩, false⟩
noncomputable def avermentref13_Right_code : Code := match Try.f12.body with | some c => c | none => .skip
noncomputable def avermentref13_Right_res : List ResultVar := Try.f12.results.toList
noncomputable def avermentref13_Right_con (N : Nat) : Con := ⟨(.pair Y5 (.pair (.int .i64) (.int .i64))), .bool, fun x => avermentref13_Right N x.1 x.2.1 x.2.2⟩
noncomputable def avermentref13_Right_cs (N : Nat) : List (Nat × Con) := [(33, avermentref12_Right_con N), (34, avermentref03_Right_con N)]
noncomputable def avermentref13_Right_G7 (N n : Nat) (x : (tupTy [(.int .i64), (.int .i64), (.int .i64), .bool, (.sl 42 Y2), (.sl 27 (.sl 3 (.int .i64)))]).den) (ks : List (L → Option (Bool))) : Option (Bool) := avermentref13_Right_l7 N (fun y => kget ks 0 ⟨.unit, y⟩) (fun y => kget ks 1 ⟨.bool, y⟩) n x.1 x.2.1 x.2.2.1 x.2.2.2.1 x.2.2.2.2.1 x.2.2.2.2.2
noncomputable def avermentref13_Right_lh7 : LH := lhAt avermentref13_Right_H 7
noncomputable def avermentref13_Right_c7 : Code := codeAt 7 avermentref13_Right_code
noncomputable def avermentref13_Right_ls (N : Nat) : List (Nat × LoopC (Bool)) := [(7, ⟨tupTy [(.int .i64), (.int .i64), (.int .i64), .bool, (.sl 42 Y2), (.sl 27 (.sl 3 (.int .i64)))], lenK 2 (avermentref13_Right_G7 N N)⟩)]
noncomputable def avermentref13_Right_fun (N : Nat) : Fun := ⟨[Y5, (.int .i64), (.int .i64)], avermentref13_Right_tb, avermentref13_Right_H, avermentref13_Right_cs N, .bool, (avermentref13_Right_con N).F, avermentref13_Right_code, avermentref13_Right_res, avermentref13_Right_ls N⟩
theorem avermentref13_Right_run (N : Nat) (x : (tupTy [Y5, (.int .i64), (.int .i64)]).den) : (avermentref13_Right_fun N).run (inSt [Y5, (.int .i64), (.int .i64)] x) = (avermentref13_Right_con N).F x := by kernel_rfl
theorem avermentref13_Right_o7 (N : Nat) : RoundOk (ρ := (avermentref13_Right_fun N).B.den) (avermentref13_Right_fun N).cs (avermentref13_Right_fun N).ls (avermentref13_Right_fun N).tb (avermentref13_Right_fun N).H (avermentref13_Right_fun N).fin (avermentref13_Right_fun N).B avermentref13_Right_lh7 avermentref13_Right_c7 [(.int .i64), (.int .i64), (.int .i64), .bool, (.sl 42 Y2), (.sl 27 (.sl 3 (.int .i64)))] [.unit, .bool] (avermentref13_Right_G7 N) :=
  ⟨by kernel_rfl, fun _ _ => by kernel_rfl, fun _ _ _ => by kernel_rfl⟩
theorem avermentref13_Right_calls (N : Nat) : CallsOk Try.prog ids (phi Try.prog ids) (avermentref13_Right_cs N) avermentref13_Right_tb := fun k sg con h1 h2 => by
  rcases get_consE h2 with ⟨rfl, rfl⟩ | h2
  · obtain rfl := Option.some.inj (h1.symm.trans (show get avermentref13_Right_tb.sigs 33 = some avermentref12_Right_sig from by kernel_rfl)); exact avermentref12_Right_ok N
  rcases get_consE h2 with ⟨rfl, rfl⟩ | h2
  · obtain rfl := Option.some.inj (h1.symm.trans (show get avermentref13_Right_tb.sigs 34 = some avermentref03_Right_sig from by kernel_rfl)); exact avermentref03_Right_ok N
  exact (get_nilE h2).elim
theorem avermentref13_Right_loops (N : Nat) : LoopsL (ρ := (avermentref13_Right_fun N).B.den) (avermentref13_Right_fun N).cs (avermentref13_Right_fun N).ls (avermentref13_Right_fun N).tb (avermentref13_Right_fun N).H (avermentref13_Right_fun N).fin (avermentref13_Right_fun N).B (avermentref13_Right_fun N).code := fun k lc h => by
  rcases get_consE h with ⟨rfl, rfl⟩ | h
  · exact ⟨_, loopOk (avermentref13_Right_o7 N)⟩
  exact (get_nilE h).elim
theorem avermentref13_Right_ok (N : Nat) : FnOk Try.prog ids (phi Try.prog ids) 12 avermentref13_Right_sig (avermentref13_Right_con N) :=
  fnOk2 (q := avermentref13_Right_fun N) mix Try.func12 (by kernel_rfl) (by kernel_rfl) (by kernel_rfl) (by kernel_rfl) (by kernel_rfl) (by kernel_rfl) (by kernel_rfl) (tt_ok _ rfl) (fnsOk_of (by kernel_rfl)) (avermentref13_Right_calls N) (avermentref13_Right_loops N) (avermentref13_Right_run N)
noncomputable def avermentlaw13_StateRight_tb : Tabs := ⟨TT, [(8, avermentlaw13_told_sig), (9, avermentlaw13_fix_sig), (11, avermentlaw13_To_sig), (10, state_Right_sig), (12, avermentref13_Right_sig)], []⟩
noncomputable def avermentlaw13_StateRight_H : Hints := ⟨[], [], [(5, ⟨⟨[7, 3, 2, 1], [], [], []⟩, ⟨[(1, (.lf (.int .i64))), (2, (.lf (.int .i64))), (3, (.pt ⟨1003, 0, 0, 0, []⟩)), (7, (.lf (.int .i64)))], [], [(1003, ⟨0, some 25, [⟨0, .o 0 .bool⟩, ⟨0, .o 0 (.sl 42 Y2)⟩, ⟨0, .o 0 (.sl 27 (.sl 3 (.int .i64)))⟩]⟩)]⟩, [(0, ⟨⟨[2, 1, 3], [], [], []⟩, ⟨[(1, (.lf (.int .i64))), (2, (.lf (.int .i64))), (3, (.pt ⟨1003, 0, 0, 0, []⟩))], [], [(1003, ⟨0, some 25, [⟨0, .o 0 .bool⟩, ⟨0, .o 0 (.sl 42 Y2)⟩, ⟨0, .o 0 (.sl 27 (.sl 3 (.int .i64)))⟩]⟩)]⟩⟩)]⟩)], ⟨⟨[0], [], [], []⟩, ⟨[(0, (.lf .bool))], [], []⟩⟩⟩
noncomputable def avermentlaw13_StateRight_sig : Sig := ⟨⟨[(0, (.lf Y5)), (1, (.lf (.int .i64))), (2, (.lf (.int .i64)))], [], []⟩, ⟨[(0, (.lf .bool))], [], []⟩, false⟩
noncomputable def avermentlaw13_StateRight_code : Code := match Try.f3.body with | some c => c | none => .skip
noncomputable def avermentlaw13_StateRight_res : List ResultVar := Try.f3.results.toList
noncomputable def avermentlaw13_StateRight_con (N : Nat) : Con := ⟨(.pair Y5 (.pair (.int .i64) (.int .i64))), .bool, fun x => avermentlaw13_StateRight N x.1 x.2.1 x.2.2⟩
noncomputable def avermentlaw13_StateRight_cs (N : Nat) : List (Nat × Con) := [(8, avermentlaw13_told_con N), (9, avermentlaw13_fix_con N), (11, avermentlaw13_To_con N), (10, state_Right_con N), (12, avermentref13_Right_con N)]
noncomputable def avermentlaw13_StateRight_G5 (N n : Nat) (x : (tupTy [(.int .i64), (.int .i64), (.int .i64), .bool, (.sl 42 Y2), (.sl 27 (.sl 3 (.int .i64)))]).den) (ks : List (L → Option (Bool))) : Option (Bool) := avermentlaw13_StateRight_l5 N (fun y => kget ks 0 ⟨(.pair (.int .i64) (.pair (.int .i64) (.pair .bool (.pair (.sl 42 Y2) (.sl 27 (.sl 3 (.int .i64))))))), y⟩) (fun y => kget ks 1 ⟨.bool, y⟩) n x.1 x.2.1 x.2.2.1 x.2.2.2.1 x.2.2.2.2.1 x.2.2.2.2.2
noncomputable def avermentlaw13_StateRight_lh5 : LH := lhAt avermentlaw13_StateRight_H 5
noncomputable def avermentlaw13_StateRight_c5 : Code := codeAt 5 avermentlaw13_StateRight_code
noncomputable def avermentlaw13_StateRight_ls (N : Nat) : List (Nat × LoopC (Bool)) := [(5, ⟨tupTy [(.int .i64), (.int .i64), (.int .i64), .bool, (.sl 42 Y2), (.sl 27 (.sl 3 (.int .i64)))], lenK 2 (avermentlaw13_StateRight_G5 N N)⟩)]
noncomputable def avermentlaw13_StateRight_fun (N : Nat) : Fun := ⟨[Y5, (.int .i64), (.int .i64)], avermentlaw13_StateRight_tb, avermentlaw13_StateRight_H, avermentlaw13_StateRight_cs N, .bool, (avermentlaw13_StateRight_con N).F, avermentlaw13_StateRight_code, avermentlaw13_StateRight_res, avermentlaw13_StateRight_ls N⟩
theorem avermentlaw13_StateRight_run (N : Nat) (x : (tupTy [Y5, (.int .i64), (.int .i64)]).den) : (avermentlaw13_StateRight_fun N).run (inSt [Y5, (.int .i64), (.int .i64)] x) = (avermentlaw13_StateRight_con N).F x := by kernel_rfl
theorem avermentlaw13_StateRight_o5 (N : Nat) : RoundOk (ρ := (avermentlaw13_StateRight_fun N).B.den) (avermentlaw13_StateRight_fun N).cs (avermentlaw13_StateRight_fun N).ls (avermentlaw13_StateRight_fun N).tb (avermentlaw13_StateRight_fun N).H (avermentlaw13_StateRight_fun N).fin (avermentlaw13_StateRight_fun N).B avermentlaw13_StateRight_lh5 avermentlaw13_StateRight_c5 [(.int .i64), (.int .i64), (.int .i64), .bool, (.sl 42 Y2), (.sl 27 (.sl 3 (.int .i64)))] [(.pair (.int .i64) (.pair (.int .i64) (.pair .bool (.pair (.sl 42 Y2) (.sl 27 (.sl 3 (.int .i64))))))), .bool] (avermentlaw13_StateRight_G5 N) :=
  ⟨by kernel_rfl, fun _ _ => by kernel_rfl, fun _ _ _ => by kernel_rfl⟩
theorem avermentlaw13_StateRight_calls (N : Nat) : CallsOk Try.prog ids (phi Try.prog ids) (avermentlaw13_StateRight_cs N) avermentlaw13_StateRight_tb := fun k sg con h1 h2 => by
  rcases get_consE h2 with ⟨rfl, rfl⟩ | h2
  · obtain rfl := Option.some.inj (h1.symm.trans (show get avermentlaw13_StateRight_tb.sigs 8 = some avermentlaw13_told_sig from by kernel_rfl)); exact avermentlaw13_told_ok N
  rcases get_consE h2 with ⟨rfl, rfl⟩ | h2
  · obtain rfl := Option.some.inj (h1.symm.trans (show get avermentlaw13_StateRight_tb.sigs 9 = some avermentlaw13_fix_sig from by kernel_rfl)); exact avermentlaw13_fix_ok N
  rcases get_consE h2 with ⟨rfl, rfl⟩ | h2
  · obtain rfl := Option.some.inj (h1.symm.trans (show get avermentlaw13_StateRight_tb.sigs 11 = some avermentlaw13_To_sig from by kernel_rfl)); exact avermentlaw13_To_ok N
  rcases get_consE h2 with ⟨rfl, rfl⟩ | h2
  · obtain rfl := Option.some.inj (h1.symm.trans (show get avermentlaw13_StateRight_tb.sigs 10 = some state_Right_sig from by kernel_rfl)); exact state_Right_ok N
  rcases get_consE h2 with ⟨rfl, rfl⟩ | h2
  · obtain rfl := Option.some.inj (h1.symm.trans (show get avermentlaw13_StateRight_tb.sigs 12 = some avermentref13_Right_sig from by kernel_rfl)); exact avermentref13_Right_ok N
  exact (get_nilE h2).elim
theorem avermentlaw13_StateRight_loops (N : Nat) : LoopsL (ρ := (avermentlaw13_StateRight_fun N).B.den) (avermentlaw13_StateRight_fun N).cs (avermentlaw13_StateRight_fun N).ls (avermentlaw13_StateRight_fun N).tb (avermentlaw13_StateRight_fun N).H (avermentlaw13_StateRight_fun N).fin (avermentlaw13_StateRight_fun N).B (avermentlaw13_StateRight_fun N).code := fun k lc h => by
  rcases get_consE h with ⟨rfl, rfl⟩ | h
  · exact ⟨_, loopOk (avermentlaw13_StateRight_o5 N)⟩
  exact (get_nilE h).elim
theorem avermentlaw13_StateRight_ok (N : Nat) : FnOk Try.prog ids (phi Try.prog ids) 3 avermentlaw13_StateRight_sig (avermentlaw13_StateRight_con N) :=
  fnOk2 (q := avermentlaw13_StateRight_fun N) mix Try.func3 (by kernel_rfl) (by kernel_rfl) (by kernel_rfl) (by kernel_rfl) (by kernel_rfl) (by kernel_rfl) (by kernel_rfl) (tt_ok _ rfl) (fnsOk_of (by kernel_rfl)) (avermentlaw13_StateRight_calls N) (avermentlaw13_StateRight_loops N) (avermentlaw13_StateRight_run N)
noncomputable def avermentref08_Of_tb : Tabs := ⟨TT, [], []⟩
noncomputable def avermentref08_Of_H : Hints := ⟨[], [], [], ⟨⟨[0], [], [], []⟩, ⟨[(0, (.lf (.int .i64)))], [], []⟩⟩⟩
noncomputable def avermentref08_Of_sig : Sig := ⟨⟨[(0, (.lf (.int .i64)))], [], []⟩, ⟨[(0, (.lf (.int .i64)))], [], []⟩, false⟩
noncomputable def avermentref08_Of_code : Code := match Try.f54.body with | some c => c | none => .skip
noncomputable def avermentref08_Of_res : List ResultVar := Try.f54.results.toList
noncomputable def avermentref08_Of_con (N : Nat) : Con := ⟨(.int .i64), (.int .i64), fun x => avermentref08_Of N x⟩
noncomputable def avermentref08_Of_cs (N : Nat) : List (Nat × Con) := []
noncomputable def avermentref08_Of_ls (N : Nat) : List (Nat × LoopC (Int)) := []
noncomputable def avermentref08_Of_fun (N : Nat) : Fun := ⟨[(.int .i64)], avermentref08_Of_tb, avermentref08_Of_H, avermentref08_Of_cs N, (.int .i64), (avermentref08_Of_con N).F, avermentref08_Of_code, avermentref08_Of_res, avermentref08_Of_ls N⟩
theorem avermentref08_Of_run (N : Nat) (x : (tupTy [(.int .i64)]).den) : (avermentref08_Of_fun N).run (inSt [(.int .i64)] x) = (avermentref08_Of_con N).F x := by kernel_rfl
theorem avermentref08_Of_calls (N : Nat) : CallsOk Try.prog ids (phi Try.prog ids) (avermentref08_Of_cs N) avermentref08_Of_tb := fun k sg con h1 h2 => by
  exact (get_nilE h2).elim
theorem avermentref08_Of_loops (N : Nat) : LoopsL (ρ := (avermentref08_Of_fun N).B.den) (avermentref08_Of_fun N).cs (avermentref08_Of_fun N).ls (avermentref08_Of_fun N).tb (avermentref08_Of_fun N).H (avermentref08_Of_fun N).fin (avermentref08_Of_fun N).B (avermentref08_Of_fun N).code := fun k lc h => by
  exact (get_nilE h).elim
theorem avermentref08_Of_ok (N : Nat) : FnOk Try.prog ids (phi Try.prog ids) 54 avermentref08_Of_sig (avermentref08_Of_con N) :=
  fnOk2 (q := avermentref08_Of_fun N) mix Try.func54 (by kernel_rfl) (by kernel_rfl) (by kernel_rfl) (by kernel_rfl) (by kernel_rfl) (by kernel_rfl) (by kernel_rfl) (tt_ok _ rfl) (fnsOk_of (by kernel_rfl)) (avermentref08_Of_calls N) (avermentref08_Of_loops N) (avermentref08_Of_run N)
noncomputable def avermentref11_Of_tb : Tabs := ⟨TT, [], []⟩
noncomputable def avermentref11_Of_H : Hints := ⟨[], [], [], ⟨⟨[0], [], [], []⟩, ⟨[(0, (.lf (.int .i64)))], [], []⟩⟩⟩
noncomputable def avermentref11_Of_sig : Sig := ⟨⟨[(0, (.lf (.int .i64)))], [], []⟩, ⟨[(0, (.lf (.int .i64)))], [], []⟩, false⟩
noncomputable def avermentref11_Of_code : Code := match Try.f55.body with | some c => c | none => .skip
noncomputable def avermentref11_Of_res : List ResultVar := Try.f55.results.toList
noncomputable def avermentref11_Of_con (N : Nat) : Con := ⟨(.int .i64), (.int .i64), fun x => avermentref11_Of N x⟩
noncomputable def avermentref11_Of_cs (N : Nat) : List (Nat × Con) := []
noncomputable def avermentref11_Of_ls (N : Nat) : List (Nat × LoopC (Int)) := []
noncomputable def avermentref11_Of_fun (N : Nat) : Fun := ⟨[(.int .i64)], avermentref11_Of_tb, avermentref11_Of_H, avermentref11_Of_cs N, (.int .i64), (avermentref11_Of_con N).F, avermentref11_Of_code, avermentref11_Of_res, avermentref11_Of_ls N⟩
theorem avermentref11_Of_run (N : Nat) (x : (tupTy [(.int .i64)]).den) : (avermentref11_Of_fun N).run (inSt [(.int .i64)] x) = (avermentref11_Of_con N).F x := by kernel_rfl
theorem avermentref11_Of_calls (N : Nat) : CallsOk Try.prog ids (phi Try.prog ids) (avermentref11_Of_cs N) avermentref11_Of_tb := fun k sg con h1 h2 => by
  exact (get_nilE h2).elim
theorem avermentref11_Of_loops (N : Nat) : LoopsL (ρ := (avermentref11_Of_fun N).B.den) (avermentref11_Of_fun N).cs (avermentref11_Of_fun N).ls (avermentref11_Of_fun N).tb (avermentref11_Of_fun N).H (avermentref11_Of_fun N).fin (avermentref11_Of_fun N).B (avermentref11_Of_fun N).code := fun k lc h => by
  exact (get_nilE h).elim
theorem avermentref11_Of_ok (N : Nat) : FnOk Try.prog ids (phi Try.prog ids) 55 avermentref11_Of_sig (avermentref11_Of_con N) :=
  fnOk2 (q := avermentref11_Of_fun N) mix Try.func55 (by kernel_rfl) (by kernel_rfl) (by kernel_rfl) (by kernel_rfl) (by kernel_rfl) (by kernel_rfl) (by kernel_rfl) (tt_ok _ rfl) (fnsOk_of (by kernel_rfl)) (avermentref11_Of_calls N) (avermentref11_Of_loops N) (avermentref11_Of_run N)
noncomputable def avermentref12_Of_tb : Tabs := ⟨TT, [(54, avermentref08_Of_sig), (55, avermentref11_Of_sig)], []⟩
noncomputable def avermentref12_Of_H : Hints := ⟨[], [], [], ⟨⟨[0], [], [], []⟩, ⟨[(0, (.lf Y2))], [], []⟩⟩⟩
noncomputable def avermentref12_Of_sig : Sig := ⟨⟨[(0, (.lf (.int .i64)))], [], []⟩, ⟨[(0, (.lf Y2))], [], []⟩, false⟩
noncomputable def avermentref12_Of_code : Code := match Try.f25.body with | some c => c | none => .skip
noncomputable def avermentref12_Of_res : List ResultVar := Try.f25.results.toList
noncomputable def avermentref12_Of_con (N : Nat) : Con := ⟨(.int .i64), Y2, fun x => avermentref12_Of N x⟩
noncomputable def avermentref12_Of_cs (N : Nat) : List (Nat × Con) := [(54, avermentref08_Of_con N), (55, avermentref11_Of_con N)]
noncomputable def avermentref12_Of_ls (N : Nat) : List (Nat × LoopC (Int × (Bool × Int) × (Int × Int) × Int)) := []
noncomputable def avermentref12_Of_fun (N : Nat) : Fun := ⟨[(.int .i64)], avermentref12_Of_tb, avermentref12_Of_H, avermentref12_Of_cs N, Y2, (avermentref12_Of_con N).F, avermentref12_Of_code, avermentref12_Of_res, avermentref12_Of_ls N⟩
theorem avermentref12_Of_run (N : Nat) (x : (tupTy [(.int .i64)]).den) : (avermentref12_Of_fun N).run (inSt [(.int .i64)] x) = (avermentref12_Of_con N).F x := by kernel_rfl
theorem avermentref12_Of_calls (N : Nat) : CallsOk Try.prog ids (phi Try.prog ids) (avermentref12_Of_cs N) avermentref12_Of_tb := fun k sg con h1 h2 => by
  rcases get_consE h2 with ⟨rfl, rfl⟩ | h2
  · obtain rfl := Option.some.inj (h1.symm.trans (show get avermentref12_Of_tb.sigs 54 = some avermentref08_Of_sig from by kernel_rfl)); exact avermentref08_Of_ok N
  rcases get_consE h2 with ⟨rfl, rfl⟩ | h2
  · obtain rfl := Option.some.inj (h1.symm.trans (show get avermentref12_Of_tb.sigs 55 = some avermentref11_Of_sig from by kernel_rfl)); exact avermentref11_Of_ok N
  exact (get_nilE h2).elim
theorem avermentref12_Of_loops (N : Nat) : LoopsL (ρ := (avermentref12_Of_fun N).B.den) (avermentref12_Of_fun N).cs (avermentref12_Of_fun N).ls (avermentref12_Of_fun N).tb (avermentref12_Of_fun N).H (avermentref12_Of_fun N).fin (avermentref12_Of_fun N).B (avermentref12_Of_fun N).code := fun k lc h => by
  exact (get_nilE h).elim
theorem avermentref12_Of_ok (N : Nat) : FnOk Try.prog ids (phi Try.prog ids) 25 avermentref12_Of_sig (avermentref12_Of_con N) :=
  fnOk2 (q := avermentref12_Of_fun N) mix Try.func25 (by kernel_rfl) (by kernel_rfl) (by kernel_rfl) (by kernel_rfl) (by kernel_rfl) (by kernel_rfl) (by kernel_rfl) (tt_ok _ rfl) (fnsOk_of (by kernel_rfl)) (avermentref12_Of_calls N) (avermentref12_Of_loops N) (avermentref12_Of_run N)
noncomputable def avermentref13_Begin_tb : Tabs := ⟨TT, [(25, avermentref12_Of_sig)], [28, 36, 37]⟩
noncomputable def avermentref13_Begin_H : Hints := ⟨[(20, ⟨⟨[7, 2, 1, 6, 0, 8, 9], [], [], []⟩, ⟨[(0, (.lf (.int .i64))), (1, (.lf (.sl 42 Y2))), (2, (.lf (.int .i64))), (6, (.pt ⟨1006, 0, 0, 0, []⟩)), (7, (.pt ⟨1007, 0, 0, 0, []⟩)), (8, (.lf (.int .i64))), (9, (.pt ⟨1009, 0, 0, 0, []⟩))], [], [(1006, ⟨0, some 25, [⟨0, .o 0 .bool⟩, ⟨0, .o 1 (.sl 42 Y2)⟩, ⟨0, .o 2 (.sl 27 (.sl 3 (.int .i64)))⟩]⟩), (1007, ⟨0, some 25, [⟨0, .o 0 .bool⟩, ⟨0, .o 1 (.sl 42 Y2)⟩, ⟨0, .o 1 (.sl 27 (.sl 3 (.int .i64)))⟩]⟩), (1009, ⟨0, some 42, [⟨0, .o 0 (.int .i64)⟩, ⟨0, .o 0 .bool⟩, ⟨0, .o 0 (.int .i64)⟩, ⟨0, .o 0 (.int .i64)⟩, ⟨0, .o 0 (.int .i64)⟩, ⟨0, .o 0 (.int .i64)⟩]⟩)]⟩⟩)], [], [(4, ⟨⟨[8, 7, 2, 1, 6, 0], [], [], [(1007, 2, 1)]⟩, ⟨[(0, (.lf (.int .i64))), (1, (.lf (.sl 42 Y2))), (2, (.lf (.int .i64))), (6, (.pt ⟨1006, 0, 0, 0, []⟩)), (7, (.pt ⟨1007, 0, 0, 0, []⟩)), (8, (.lf (.int .i64)))], [], [(1006, ⟨0, some 25, [⟨0, .o 0 .bool⟩, ⟨0, .o 1 (.sl 42 Y2)⟩, ⟨0, .o 2 (.sl 27 (.sl 3 (.int .i64)))⟩]⟩), (1007, ⟨0, some 25, [⟨0, .o 0 .bool⟩, ⟨0, .o 1 (.sl 42 Y2)⟩, ⟨0, .o 1 (.sl 27 (.sl 3 (.int .i64)))⟩]⟩)]⟩, [(0, ⟨⟨[6, 7], [], [], []⟩, ⟨[(6, (.pt ⟨1006, 0, 0, 0, []⟩)), (7, (.pt ⟨1007, 0, 0, 0, []⟩))], [], [(1006, ⟨0, some 25, [⟨0, .o 0 .bool⟩, ⟨0, .o 1 (.sl 42 Y2)⟩, ⟨0, .o 2 (.sl 27 (.sl 3 (.int .i64)))⟩]⟩), (1007, ⟨0, some 25, [⟨0, .o 0 .bool⟩, ⟨0, .o 1 (.sl 42 Y2)⟩, ⟨0, .o 1 (.sl 27 (.sl 3 (.int .i64)))⟩]⟩)]⟩⟩)]⟩)], ⟨⟨[0], [], [], []⟩, ⟨[(0, (.lf Y5))], [], []⟩⟩⟩
noncomputable def avermentref13_Begin_sig : Sig := ⟨⟨[(0, (.lf (.int .i64))), (1, (.lf (.sl 42 Y2))), (2, (.lf (.int .i64)))], [], []⟩, ⟨[(0, (.lf Y5))], [], []⟩, false⟩
noncomputable def avermentref13_Begin_code : Code := match Try.f17.body with | some c => c | none => .skip
noncomputable def avermentref13_Begin_res : List ResultVar := Try.f17.results.toList
noncomputable def avermentref13_Begin_con (N : Nat) : Con := ⟨(.pair (.int .i64) (.pair (.sl 42 Y2) (.int .i64))), Y5, fun x => avermentref13_Begin N x.1 x.2.1 x.2.2⟩
noncomputable def avermentref13_Begin_cs (N : Nat) : List (Nat × Con) := [(25, avermentref12_Of_con N)]
noncomputable def avermentref13_Begin_G4 (N n : Nat) (x : (tupTy [(.int .i64), (.sl 42 Y2), (.int .i64), (.int .i64), .bool, (.sl 42 Y2), (.sl 27 (.sl 3 (.int .i64))), .bool, (.sl 42 Y2), (.sl 27 (.sl 3 (.int .i64)))]).den) (ks : List (L → Option (Bool × (List (Int × (Bool × Int) × (Int × Int) × Int)) × List (List Int)))) : Option (Bool × (List (Int × (Bool × Int) × (Int × Int) × Int)) × List (List Int)) := avermentref13_Begin_l4 N (fun y => kget ks 0 ⟨(.pair .bool (.pair (.sl 42 Y2) (.pair (.sl 27 (.sl 3 (.int .i64))) (.pair .bool (.pair (.sl 42 Y2) (.sl 27 (.sl 3 (.int .i64)))))))), y⟩) n x.1 x.2.1 x.2.2.1 x.2.2.2.1 x.2.2.2.2.1 x.2.2.2.2.2.1 x.2.2.2.2.2.2.1 x.2.2.2.2.2.2.2.1 x.2.2.2.2.2.2.2.2.1 x.2.2.2.2.2.2.2.2.2
noncomputable def avermentref13_Begin_lh4 : LH := lhAt avermentref13_Begin_H 4
noncomputable def avermentref13_Begin_c4 : Code := codeAt 4 avermentref13_Begin_code
noncomputable def avermentref13_Begin_ls (N : Nat) : List (Nat × LoopC (Bool × (List (Int × (Bool × Int) × (Int × Int) × Int)) × List (List Int))) := [(4, ⟨tupTy [(.int .i64), (.sl 42 Y2), (.int .i64), (.int .i64), .bool, (.sl 42 Y2), (.sl 27 (.sl 3 (.int .i64))), .bool, (.sl 42 Y2), (.sl 27 (.sl 3 (.int .i64)))], lenK 1 (avermentref13_Begin_G4 N N)⟩)]
noncomputable def avermentref13_Begin_fun (N : Nat) : Fun := ⟨[(.int .i64), (.sl 42 Y2), (.int .i64)], avermentref13_Begin_tb, avermentref13_Begin_H, avermentref13_Begin_cs N, Y5, (avermentref13_Begin_con N).F, avermentref13_Begin_code, avermentref13_Begin_res, avermentref13_Begin_ls N⟩
theorem avermentref13_Begin_run (N : Nat) (x : (tupTy [(.int .i64), (.sl 42 Y2), (.int .i64)]).den) : (avermentref13_Begin_fun N).run (inSt [(.int .i64), (.sl 42 Y2), (.int .i64)] x) = (avermentref13_Begin_con N).F x := by kernel_rfl
theorem avermentref13_Begin_o4 (N : Nat) : RoundOk (ρ := (avermentref13_Begin_fun N).B.den) (avermentref13_Begin_fun N).cs (avermentref13_Begin_fun N).ls (avermentref13_Begin_fun N).tb (avermentref13_Begin_fun N).H (avermentref13_Begin_fun N).fin (avermentref13_Begin_fun N).B avermentref13_Begin_lh4 avermentref13_Begin_c4 [(.int .i64), (.sl 42 Y2), (.int .i64), (.int .i64), .bool, (.sl 42 Y2), (.sl 27 (.sl 3 (.int .i64))), .bool, (.sl 42 Y2), (.sl 27 (.sl 3 (.int .i64)))] [(.pair .bool (.pair (.sl 42 Y2) (.pair (.sl 27 (.sl 3 (.int .i64))) (.pair .bool (.pair (.sl 42 Y2) (.sl 27 (.sl 3 (.int .i64))))))))] (avermentref13_Begin_G4 N) :=
  ⟨by kernel_rfl, fun _ _ => by kernel_rfl, fun _ _ _ => by kernel_rfl⟩
theorem avermentref13_Begin_calls (N : Nat) : CallsOk Try.prog ids (phi Try.prog ids) (avermentref13_Begin_cs N) avermentref13_Begin_tb := fun k sg con h1 h2 => by
  rcases get_consE h2 with ⟨rfl, rfl⟩ | h2
  · obtain rfl := Option.some.inj (h1.symm.trans (show get avermentref13_Begin_tb.sigs 25 = some avermentref12_Of_sig from by kernel_rfl)); exact avermentref12_Of_ok N
  exact (get_nilE h2).elim
theorem avermentref13_Begin_loops (N : Nat) : LoopsL (ρ := (avermentref13_Begin_fun N).B.den) (avermentref13_Begin_fun N).cs (avermentref13_Begin_fun N).ls (avermentref13_Begin_fun N).tb (avermentref13_Begin_fun N).H (avermentref13_Begin_fun N).fin (avermentref13_Begin_fun N).B (avermentref13_Begin_fun N).code := fun k lc h => by
  rcases get_consE h with ⟨rfl, rfl⟩ | h
  · exact ⟨_, loopOk (avermentref13_Begin_o4 N)⟩
  exact (get_nilE h).elim
theorem avermentref13_Begin_ok (N : Nat) : FnOk Try.prog ids (phi Try.prog ids) 17 avermentref13_Begin_sig (avermentref13_Begin_con N) :=
  fnOk2 (q := avermentref13_Begin_fun N) mix Try.func17 (by kernel_rfl) (by kernel_rfl) (by kernel_rfl) (by kernel_rfl) (by kernel_rfl) (by kernel_rfl) (by kernel_rfl) (tt_ok _ rfl) (fnsOk_of (by kernel_rfl)) (avermentref13_Begin_calls N) (avermentref13_Begin_loops N) (avermentref13_Begin_run N)
noncomputable def avermentlaw09_From_tb : Tabs := ⟨TT, [], []⟩
noncomputable def avermentlaw09_From_H : Hints := ⟨[], [], [], ⟨⟨[0], [], [], []⟩, ⟨[(0, (.lf Y0))], [], []⟩⟩⟩
noncomputable def avermentlaw09_From_sig : Sig := ⟨⟨[(0, (.lf Y0))], [], []⟩, ⟨[(0, (.lf Y0))], [], []⟩, false⟩
noncomputable def avermentlaw09_From_code : Code := match Try.f95.body with | some c => c | none => .skip
noncomputable def avermentlaw09_From_res : List ResultVar := Try.f95.results.toList
noncomputable def avermentlaw09_From_con (N : Nat) : Con := ⟨Y0, Y0, fun x => avermentlaw09_From N x⟩
noncomputable def avermentlaw09_From_cs (N : Nat) : List (Nat × Con) := []
noncomputable def avermentlaw09_From_ls (N : Nat) : List (Nat × LoopC (Bool × Int)) := []
noncomputable def avermentlaw09_From_fun (N : Nat) : Fun := ⟨[Y0], avermentlaw09_From_tb, avermentlaw09_From_H, avermentlaw09_From_cs N, Y0, (avermentlaw09_From_con N).F, avermentlaw09_From_code, avermentlaw09_From_res, avermentlaw09_From_ls N⟩
theorem avermentlaw09_From_run (N : Nat) (x : (tupTy [Y0]).den) : (avermentlaw09_From_fun N).run (inSt [Y0] x) = (avermentlaw09_From_con N).F x := by kernel_rfl
theorem avermentlaw09_From_calls (N : Nat) : CallsOk Try.prog ids (phi Try.prog ids) (avermentlaw09_From_cs N) avermentlaw09_From_tb := fun k sg con h1 h2 => by
  exact (get_nilE h2).elim
theorem avermentlaw09_From_loops (N : Nat) : LoopsL (ρ := (avermentlaw09_From_fun N).B.den) (avermentlaw09_From_fun N).cs (avermentlaw09_From_fun N).ls (avermentlaw09_From_fun N).tb (avermentlaw09_From_fun N).H (avermentlaw09_From_fun N).fin (avermentlaw09_From_fun N).B (avermentlaw09_From_fun N).code := fun k lc h => by
  exact (get_nilE h).elim
theorem avermentlaw09_From_ok (N : Nat) : FnOk Try.prog ids (phi Try.prog ids) 95 avermentlaw09_From_sig (avermentlaw09_From_con N) :=
  fnOk2 (q := avermentlaw09_From_fun N) mix Try.func95 (by kernel_rfl) (by kernel_rfl) (by kernel_rfl) (by kernel_rfl) (by kernel_rfl) (by kernel_rfl) (by kernel_rfl) (tt_ok _ rfl) (fnsOk_of (by kernel_rfl)) (avermentlaw09_From_calls N) (avermentlaw09_From_loops N) (avermentlaw09_From_run N)
noncomputable def avermentlaw10_From_tb : Tabs := ⟨TT, [], []⟩
noncomputable def avermentlaw10_From_H : Hints := ⟨[], [], [], ⟨⟨[0], [], [], []⟩, ⟨[(0, (.lf Y1))], [], []⟩⟩⟩
noncomputable def avermentlaw10_From_sig : Sig := ⟨⟨[(0, (.lf Y1))], [], []⟩, ⟨[(0, (.lf Y1))], [], []⟩, false⟩
noncomputable def avermentlaw10_From_code : Code := match Try.f96.body with | some c => c | none => .skip
noncomputable def avermentlaw10_From_res : List ResultVar := Try.f96.results.toList
noncomputable def avermentlaw10_From_con (N : Nat) : Con := ⟨Y1, Y1, fun x => avermentlaw10_From N x⟩
noncomputable def avermentlaw10_From_cs (N : Nat) : List (Nat × Con) := []
noncomputable def avermentlaw10_From_ls (N : Nat) : List (Nat × LoopC (Int × Int)) := []
noncomputable def avermentlaw10_From_fun (N : Nat) : Fun := ⟨[Y1], avermentlaw10_From_tb, avermentlaw10_From_H, avermentlaw10_From_cs N, Y1, (avermentlaw10_From_con N).F, avermentlaw10_From_code, avermentlaw10_From_res, avermentlaw10_From_ls N⟩
theorem avermentlaw10_From_run (N : Nat) (x : (tupTy [Y1]).den) : (avermentlaw10_From_fun N).run (inSt [Y1] x) = (avermentlaw10_From_con N).F x := by kernel_rfl
theorem avermentlaw10_From_calls (N : Nat) : CallsOk Try.prog ids (phi Try.prog ids) (avermentlaw10_From_cs N) avermentlaw10_From_tb := fun k sg con h1 h2 => by
  exact (get_nilE h2).elim
theorem avermentlaw10_From_loops (N : Nat) : LoopsL (ρ := (avermentlaw10_From_fun N).B.den) (avermentlaw10_From_fun N).cs (avermentlaw10_From_fun N).ls (avermentlaw10_From_fun N).tb (avermentlaw10_From_fun N).H (avermentlaw10_From_fun N).fin (avermentlaw10_From_fun N).B (avermentlaw10_From_fun N).code := fun k lc h => by
  exact (get_nilE h).elim
theorem avermentlaw10_From_ok (N : Nat) : FnOk Try.prog ids (phi Try.prog ids) 96 avermentlaw10_From_sig (avermentlaw10_From_con N) :=
  fnOk2 (q := avermentlaw10_From_fun N) mix Try.func96 (by kernel_rfl) (by kernel_rfl) (by kernel_rfl) (by kernel_rfl) (by kernel_rfl) (by kernel_rfl) (by kernel_rfl) (tt_ok _ rfl) (fnsOk_of (by kernel_rfl)) (avermentlaw10_From_calls N) (avermentlaw10_From_loops N) (avermentlaw10_From_run N)
noncomputable def avermentlaw12_From_tb : Tabs := ⟨TT, [(95, avermentlaw09_From_sig), (96, avermentlaw10_From_sig)], []⟩
noncomputable def avermentlaw12_From_H : Hints := ⟨[], [], [], ⟨⟨[0], [], [], []⟩, ⟨[(0, (.lf Y2))], [], []⟩⟩⟩
noncomputable def avermentlaw12_From_sig : Sig := ⟨⟨[(0, (.lf Y2))], [], []⟩, ⟨[(0, (.lf Y2))], [], []⟩, false⟩
noncomputable def avermentlaw12_From_code : Code := match Try.f69.body with | some c => c | none => .skip
noncomputable def avermentlaw12_From_res : List ResultVar := Try.f69.results.toList
noncomputable def avermentlaw12_From_con (N : Nat) : Con := ⟨Y2, Y2, fun x => avermentlaw12_From N x⟩
noncomputable def avermentlaw12_From_cs (N : Nat) : List (Nat × Con) := [(95, avermentlaw09_From_con N), (96, avermentlaw10_From_con N)]
noncomputable def avermentlaw12_From_ls (N : Nat) : List (Nat × LoopC (Int × (Bool × Int) × (Int × Int) × Int)) := []
noncomputable def avermentlaw12_From_fun (N : Nat) : Fun := ⟨[Y2], avermentlaw12_From_tb, avermentlaw12_From_H, avermentlaw12_From_cs N, Y2, (avermentlaw12_From_con N).F, avermentlaw12_From_code, avermentlaw12_From_res, avermentlaw12_From_ls N⟩
theorem avermentlaw12_From_run (N : Nat) (x : (tupTy [Y2]).den) : (avermentlaw12_From_fun N).run (inSt [Y2] x) = (avermentlaw12_From_con N).F x := by kernel_rfl
theorem avermentlaw12_From_calls (N : Nat) : CallsOk Try.prog ids (phi Try.prog ids) (avermentlaw12_From_cs N) avermentlaw12_From_tb := fun k sg con h1 h2 => by
  rcases get_consE h2 with ⟨rfl, rfl⟩ | h2
  · obtain rfl := Option.some.inj (h1.symm.trans (show get avermentlaw12_From_tb.sigs 95 = some avermentlaw09_From_sig from by kernel_rfl)); exact avermentlaw09_From_ok N
  rcases get_consE h2 with ⟨rfl, rfl⟩ | h2
  · obtain rfl := Option.some.inj (h1.symm.trans (show get avermentlaw12_From_tb.sigs 96 = some avermentlaw10_From_sig from by kernel_rfl)); exact avermentlaw10_From_ok N
  exact (get_nilE h2).elim
theorem avermentlaw12_From_loops (N : Nat) : LoopsL (ρ := (avermentlaw12_From_fun N).B.den) (avermentlaw12_From_fun N).cs (avermentlaw12_From_fun N).ls (avermentlaw12_From_fun N).tb (avermentlaw12_From_fun N).H (avermentlaw12_From_fun N).fin (avermentlaw12_From_fun N).B (avermentlaw12_From_fun N).code := fun k lc h => by
  exact (get_nilE h).elim
theorem avermentlaw12_From_ok (N : Nat) : FnOk Try.prog ids (phi Try.prog ids) 69 avermentlaw12_From_sig (avermentlaw12_From_con N) :=
  fnOk2 (q := avermentlaw12_From_fun N) mix Try.func69 (by kernel_rfl) (by kernel_rfl) (by kernel_rfl) (by kernel_rfl) (by kernel_rfl) (by kernel_rfl) (by kernel_rfl) (tt_ok _ rfl) (fnsOk_of (by kernel_rfl)) (avermentlaw12_From_calls N) (avermentlaw12_From_loops N) (avermentlaw12_From_run N)
noncomputable def avermentlaw13_From_tb : Tabs := ⟨TT, [(69, avermentlaw12_From_sig)], [24, 43]⟩
noncomputable def avermentlaw13_From_H : Hints := ⟨[], [], [(8, ⟨⟨[5, 3, 1, 2], [], [], [(1003, 2, 1)]⟩, ⟨[(1, (.pt ⟨1001, 0, 0, 0, []⟩)), (2, (.pt ⟨1002, 0, 0, 0, []⟩)), (3, (.pt ⟨1003, 0, 0, 0, []⟩)), (5, (.lf (.int .i64)))], [], [(1001, ⟨0, some 32, [⟨0, .o 0 .bool⟩, ⟨0, .o 0 (.sl 47 Y2)⟩, ⟨0, .o 0 (.sl 27 (.sl 3 (.int .i64)))⟩]⟩), (1002, ⟨0, some 25, [⟨0, .o 0 .bool⟩, ⟨0, .o 1 (.sl 42 Y2)⟩, ⟨0, .o 2 (.sl 27 (.sl 3 (.int .i64)))⟩]⟩), (1003, ⟨0, some 25, [⟨0, .o 0 .bool⟩, ⟨0, .o 1 (.sl 42 Y2)⟩, ⟨0, .o 1 (.sl 27 (.sl 3 (.int .i64)))⟩]⟩)]⟩, [(2, ⟨⟨[2, 3], [], [], []⟩, ⟨[(2, (.pt ⟨1002, 0, 0, 0, []⟩)), (3, (.pt ⟨1003, 0, 0, 0, []⟩))], [], [(1002, ⟨0, some 25, [⟨0, .o 0 .bool⟩, ⟨0, .o 1 (.sl 42 Y2)⟩, ⟨0, .o 2 (.sl 27 (.sl 3 (.int .i64)))⟩]⟩), (1003, ⟨0, some 25, [⟨0, .o 0 .bool⟩, ⟨0, .o 1 (.sl 42 Y2)⟩, ⟨0, .o 1 (.sl 27 (.sl 3 (.int .i64)))⟩]⟩)]⟩⟩)]⟩), (4, ⟨⟨[4, 3, 1, 2], [], [], []⟩, ⟨[(1, (.pt ⟨1001, 0, 0, 0, []⟩)), (2, (.pt ⟨1002, 0, 0, 0, []⟩)), (3, (.pt ⟨1003, 0, 0, 0, []⟩)), (4, (.lf (.int .i64)))], [], [(1001, ⟨0, some 32, [⟨0, .o 0 .bool⟩, ⟨0, .o 0 (.sl 47 Y2)⟩, ⟨0, .o 0 (.sl 27 (.sl 3 (.int .i64)))⟩]⟩), (1002, ⟨0, some 25, [⟨0, .o 0 .bool⟩, ⟨0, .o 1 (.sl 42 Y2)⟩, ⟨0, .o 2 (.sl 27 (.sl 3 (.int .i64)))⟩]⟩), (1003, ⟨0, some 25, [⟨0, .o 0 .bool⟩, ⟨0, .o 1 (.sl 42 Y2)⟩, ⟨0, .o 2 (.sl 27 (.sl 3 (.int .i64)))⟩]⟩)]⟩, [(0, ⟨⟨[3, 1, 2], [], [], []⟩, ⟨[(1, (.pt ⟨1001, 0, 0, 0, []⟩)), (2, (.pt ⟨1002, 0, 0, 0, []⟩)), (3, (.pt ⟨1003, 0, 0, 0, []⟩))], [], [(1001, ⟨0, some 32, [⟨0, .o 0 .bool⟩, ⟨0, .o 0 (.sl 47 Y2)⟩, ⟨0, .o 0 (.sl 27 (.sl 3 (.int .i64)))⟩]⟩), (1002, ⟨0, some 25, [⟨0, .o 0 .bool⟩, ⟨0, .o 1 (.sl 42 Y2)⟩, ⟨0, .o 2 (.sl 27 (.sl 3 (.int .i64)))⟩]⟩), (1003, ⟨0, some 25, [⟨0, .o 0 .bool⟩, ⟨0, .o 1 (.sl 42 Y2)⟩, ⟨0, .o 2 (.sl 27 (.sl 3 (.int .i64)))⟩]⟩)]⟩⟩)]⟩)], ⟨⟨[0], [], [], []⟩, ⟨[(0, (.lf Y5))], [], []⟩⟩⟩
noncomputable def avermentlaw13_From_sig : Sig := ⟨⟨[(0, (.lf Y4))], [], []⟩, ⟨[(0, (.lf Y5))], [], []⟩, false⟩
noncomputable def avermentlaw13_From_code : Code := match Try.f40.body with | some c => c | none => .skip
noncomputable def avermentlaw13_From_res : List ResultVar := Try.f40.results.toList
noncomputable def avermentlaw13_From_con (N : Nat) : Con := ⟨Y4, Y5, fun x => avermentlaw13_From N x⟩
noncomputable def avermentlaw13_From_cs (N : Nat) : List (Nat × Con) := [(69, avermentlaw12_From_con N)]
noncomputable def avermentlaw13_From_G4 (N n : Nat) (x : (tupTy [(.int .i64), .bool, (.sl 47 Y2), (.sl 27 (.sl 3 (.int .i64))), .bool, (.sl 42 Y2), (.sl 27 (.sl 3 (.int .i64))), .bool, (.sl 42 Y2), (.sl 27 (.sl 3 (.int .i64)))]).den) (ks : List (L → Option (Bool × (List (Int × (Bool × Int) × (Int × Int) × Int)) × List (List Int)))) : Option (Bool × (List (Int × (Bool × Int) × (Int × Int) × Int)) × List (List Int)) := avermentlaw13_From_l4 N (fun y => kget ks 0 ⟨(.pair .bool (.pair (.sl 47 Y2) (.pair (.sl 27 (.sl 3 (.int .i64))) (.pair .bool (.pair (.sl 42 Y2) (.pair (.sl 27 (.sl 3 (.int .i64))) (.pair .bool (.pair (.sl 42 Y2) (.sl 27 (.sl 3 (.int .i64))))))))))), y⟩) n x.1 x.2.1 x.2.2.1 x.2.2.2.1 x.2.2.2.2.1 x.2.2.2.2.2.1 x.2.2.2.2.2.2.1 x.2.2.2.2.2.2.2.1 x.2.2.2.2.2.2.2.2.1 x.2.2.2.2.2.2.2.2.2
noncomputable def avermentlaw13_From_lh4 : LH := lhAt avermentlaw13_From_H 4
noncomputable def avermentlaw13_From_c4 : Code := codeAt 4 avermentlaw13_From_code
noncomputable def avermentlaw13_From_G8 (N n : Nat) (x : (tupTy [(.int .i64), .bool, (.sl 47 Y2), (.sl 27 (.sl 3 (.int .i64))), .bool, (.sl 42 Y2), (.sl 27 (.sl 3 (.int .i64))), .bool, (.sl 42 Y2), (.sl 27 (.sl 3 (.int .i64)))]).den) (ks : List (L → Option (Bool × (List (Int × (Bool × Int) × (Int × Int) × Int)) × List (List Int)))) : Option (Bool × (List (Int × (Bool × Int) × (Int × Int) × Int)) × List (List Int)) := avermentlaw13_From_l8 N (fun y => kget ks 0 ⟨(.pair .bool (.pair (.sl 42 Y2) (.pair (.sl 27 (.sl 3 (.int .i64))) (.pair .bool (.pair (.sl 42 Y2) (.sl 27 (.sl 3 (.int .i64)))))))), y⟩) n x.1 x.2.1 x.2.2.1 x.2.2.2.1 x.2.2.2.2.1 x.2.2.2.2.2.1 x.2.2.2.2.2.2.1 x.2.2.2.2.2.2.2.1 x.2.2.2.2.2.2.2.2.1 x.2.2.2.2.2.2.2.2.2
noncomputable def avermentlaw13_From_lh8 : LH := lhAt avermentlaw13_From_H 8
noncomputable def avermentlaw13_From_c8 : Code := codeAt 8 avermentlaw13_From_code
noncomputable def avermentlaw13_From_ls (N : Nat) : List (Nat × LoopC (Bool × (List (Int × (Bool × Int) × (Int × Int) × Int)) × List (List Int))) := [(4, ⟨tupTy [(.int .i64), .bool, (.sl 47 Y2), (.sl 27 (.sl 3 (.int .i64))), .bool, (.sl 42 Y2), (.sl 27 (.sl 3 (.int .i64))), .bool, (.sl 42 Y2), (.sl 27 (.sl 3 (.int .i64)))], lenK 1 (avermentlaw13_From_G4 N N)⟩), (8, ⟨tupTy [(.int .i64), .bool, (.sl 47 Y2), (.sl 27 (.sl 3 (.int .i64))), .bool, (.sl 42 Y2), (.sl 27 (.sl 3 (.int .i64))), .bool, (.sl 42 Y2), (.sl 27 (.sl 3 (.int .i64)))], lenK 1 (avermentlaw13_From_G8 N N)⟩)]
noncomputable def avermentlaw13_From_fun (N : Nat) : Fun := ⟨[Y4], avermentlaw13_From_tb, avermentlaw13_From_H, avermentlaw13_From_cs N, Y5, (avermentlaw13_From_con N).F, avermentlaw13_From_code, avermentlaw13_From_res, avermentlaw13_From_ls N⟩
theorem avermentlaw13_From_run (N : Nat) (x : (tupTy [Y4]).den) : (avermentlaw13_From_fun N).run (inSt [Y4] x) = (avermentlaw13_From_con N).F x := by kernel_rfl
theorem avermentlaw13_From_o4 (N : Nat) : RoundOk (ρ := (avermentlaw13_From_fun N).B.den) (avermentlaw13_From_fun N).cs (avermentlaw13_From_fun N).ls (avermentlaw13_From_fun N).tb (avermentlaw13_From_fun N).H (avermentlaw13_From_fun N).fin (avermentlaw13_From_fun N).B avermentlaw13_From_lh4 avermentlaw13_From_c4 [(.int .i64), .bool, (.sl 47 Y2), (.sl 27 (.sl 3 (.int .i64))), .bool, (.sl 42 Y2), (.sl 27 (.sl 3 (.int .i64))), .bool, (.sl 42 Y2), (.sl 27 (.sl 3 (.int .i64)))] [(.pair .bool (.pair (.sl 47 Y2) (.pair (.sl 27 (.sl 3 (.int .i64))) (.pair .bool (.pair (.sl 42 Y2) (.pair (.sl 27 (.sl 3 (.int .i64))) (.pair .bool (.pair (.sl 42 Y2) (.sl 27 (.sl 3 (.int .i64)))))))))))] (avermentlaw13_From_G4 N) :=
  ⟨by kernel_rfl, fun _ _ => by kernel_rfl, fun _ _ _ => by kernel_rfl⟩
theorem avermentlaw13_From_o8 (N : Nat) : RoundOk (ρ := (avermentlaw13_From_fun N).B.den) (avermentlaw13_From_fun N).cs (avermentlaw13_From_fun N).ls (avermentlaw13_From_fun N).tb (avermentlaw13_From_fun N).H (avermentlaw13_From_fun N).fin (avermentlaw13_From_fun N).B avermentlaw13_From_lh8 avermentlaw13_From_c8 [(.int .i64), .bool, (.sl 47 Y2), (.sl 27 (.sl 3 (.int .i64))), .bool, (.sl 42 Y2), (.sl 27 (.sl 3 (.int .i64))), .bool, (.sl 42 Y2), (.sl 27 (.sl 3 (.int .i64)))] [(.pair .bool (.pair (.sl 42 Y2) (.pair (.sl 27 (.sl 3 (.int .i64))) (.pair .bool (.pair (.sl 42 Y2) (.sl 27 (.sl 3 (.int .i64))))))))] (avermentlaw13_From_G8 N) :=
  ⟨by kernel_rfl, fun _ _ => by kernel_rfl, fun _ _ _ => by kernel_rfl⟩
theorem avermentlaw13_From_calls (N : Nat) : CallsOk Try.prog ids (phi Try.prog ids) (avermentlaw13_From_cs N) avermentlaw13_From_tb := fun k sg con h1 h2 => by
  rcases get_consE h2 with ⟨rfl, rfl⟩ | h2
  · obtain rfl := Option.some.inj (h1.symm.trans (show get avermentlaw13_From_tb.sigs 69 = some avermentlaw12_From_sig from by kernel_rfl)); exact avermentlaw12_From_ok N
  exact (get_nilE h2).elim
theorem avermentlaw13_From_loops (N : Nat) : LoopsL (ρ := (avermentlaw13_From_fun N).B.den) (avermentlaw13_From_fun N).cs (avermentlaw13_From_fun N).ls (avermentlaw13_From_fun N).tb (avermentlaw13_From_fun N).H (avermentlaw13_From_fun N).fin (avermentlaw13_From_fun N).B (avermentlaw13_From_fun N).code := fun k lc h => by
  rcases get_consE h with ⟨rfl, rfl⟩ | h
  · exact ⟨_, loopOk (avermentlaw13_From_o4 N)⟩
  rcases get_consE h with ⟨rfl, rfl⟩ | h
  · exact ⟨_, loopOk (avermentlaw13_From_o8 N)⟩
  exact (get_nilE h).elim
theorem avermentlaw13_From_ok (N : Nat) : FnOk Try.prog ids (phi Try.prog ids) 40 avermentlaw13_From_sig (avermentlaw13_From_con N) :=
  fnOk2 (q := avermentlaw13_From_fun N) mix Try.func40 (by kernel_rfl) (by kernel_rfl) (by kernel_rfl) (by kernel_rfl) (by kernel_rfl) (by kernel_rfl) (by kernel_rfl) (tt_ok _ rfl) (fnsOk_of (by kernel_rfl)) (avermentlaw13_From_calls N) (avermentlaw13_From_loops N) (avermentlaw13_From_run N)
noncomputable def avermentref01_Same_tb : Tabs := ⟨TT, [], []⟩
noncomputable def avermentref01_Same_H : Hints := ⟨[], [], [(5, ⟨⟨[5, 1, 0], [], [], []⟩, ⟨[(0, (.lf (.sl 3 (.int .i64)))), (1, (.lf (.sl 3 (.int .i64)))), (5, (.lf (.int .i64)))], [], []⟩, [(0, ⟨⟨[], [], [], []⟩, ⟨[], [], []⟩⟩)]⟩)], ⟨⟨[0], [], [], []⟩, ⟨[(0, (.lf .bool))], [], []⟩⟩⟩
noncomputable def avermentref01_Same_sig : Sig := ⟨⟨[(0, (.lf (.sl 3 (.int .i64)))), (1, (.lf (.sl 3 (.int .i64))))], [], []⟩, ⟨[(0, (.lf .bool))], [], []⟩, false⟩
noncomputable def avermentref01_Same_code : Code := match Try.f68.body with | some c => c | none => .skip
noncomputable def avermentref01_Same_res : List ResultVar := Try.f68.results.toList
noncomputable def avermentref01_Same_con (N : Nat) : Con := ⟨(.pair (.sl 3 (.int .i64)) (.sl 3 (.int .i64))), .bool, fun x => avermentref01_Same N x.1 x.2⟩
noncomputable def avermentref01_Same_cs (N : Nat) : List (Nat × Con) := []
noncomputable def avermentref01_Same_G5 (N n : Nat) (x : (tupTy [(.sl 3 (.int .i64)), (.sl 3 (.int .i64)), (.int .i64)]).den) (ks : List (L → Option (Bool))) : Option (Bool) := avermentref01_Same_l5 N (fun y => kget ks 0 ⟨.unit, y⟩) (fun y => kget ks 1 ⟨.bool, y⟩) n x.1 x.2.1 x.2.2
noncomputable def avermentref01_Same_lh5 : LH := lhAt avermentref01_Same_H 5
noncomputable def avermentref01_Same_c5 : Code := codeAt 5 avermentref01_Same_code
noncomputable def avermentref01_Same_ls (N : Nat) : List (Nat × LoopC (Bool)) := [(5, ⟨tupTy [(.sl 3 (.int .i64)), (.sl 3 (.int .i64)), (.int .i64)], lenK 2 (avermentref01_Same_G5 N N)⟩)]
noncomputable def avermentref01_Same_fun (N : Nat) : Fun := ⟨[(.sl 3 (.int .i64)), (.sl 3 (.int .i64))], avermentref01_Same_tb, avermentref01_Same_H, avermentref01_Same_cs N, .bool, (avermentref01_Same_con N).F, avermentref01_Same_code, avermentref01_Same_res, avermentref01_Same_ls N⟩
theorem avermentref01_Same_run (N : Nat) (x : (tupTy [(.sl 3 (.int .i64)), (.sl 3 (.int .i64))]).den) : (avermentref01_Same_fun N).run (inSt [(.sl 3 (.int .i64)), (.sl 3 (.int .i64))] x) = (avermentref01_Same_con N).F x := by kernel_rfl
theorem avermentref01_Same_o5 (N : Nat) : RoundOk (ρ := (avermentref01_Same_fun N).B.den) (avermentref01_Same_fun N).cs (avermentref01_Same_fun N).ls (avermentref01_Same_fun N).tb (avermentref01_Same_fun N).H (avermentref01_Same_fun N).fin (avermentref01_Same_fun N).B avermentref01_Same_lh5 avermentref01_Same_c5 [(.sl 3 (.int .i64)), (.sl 3 (.int .i64)), (.int .i64)] [.unit, .bool] (avermentref01_Same_G5 N) :=
  ⟨by kernel_rfl, fun _ _ => by kernel_rfl, fun _ _ _ => by kernel_rfl⟩
theorem avermentref01_Same_calls (N : Nat) : CallsOk Try.prog ids (phi Try.prog ids) (avermentref01_Same_cs N) avermentref01_Same_tb := fun k sg con h1 h2 => by
  exact (get_nilE h2).elim
theorem avermentref01_Same_loops (N : Nat) : LoopsL (ρ := (avermentref01_Same_fun N).B.den) (avermentref01_Same_fun N).cs (avermentref01_Same_fun N).ls (avermentref01_Same_fun N).tb (avermentref01_Same_fun N).H (avermentref01_Same_fun N).fin (avermentref01_Same_fun N).B (avermentref01_Same_fun N).code := fun k lc h => by
  rcases get_consE h with ⟨rfl, rfl⟩ | h
  · exact ⟨_, loopOk (avermentref01_Same_o5 N)⟩
  exact (get_nilE h).elim
theorem avermentref01_Same_ok (N : Nat) : FnOk Try.prog ids (phi Try.prog ids) 68 avermentref01_Same_sig (avermentref01_Same_con N) :=
  fnOk2 (q := avermentref01_Same_fun N) mix Try.func68 (by kernel_rfl) (by kernel_rfl) (by kernel_rfl) (by kernel_rfl) (by kernel_rfl) (by kernel_rfl) (by kernel_rfl) (tt_ok _ rfl) (fnsOk_of (by kernel_rfl)) (avermentref01_Same_calls N) (avermentref01_Same_loops N) (avermentref01_Same_run N)
noncomputable def avermentref13_Equal_tb : Tabs := ⟨TT, [(68, avermentref01_Same_sig)], []⟩
noncomputable def avermentref13_Equal_H : Hints := ⟨[], [], [(10, ⟨⟨[6, 3, 2], [], [], []⟩, ⟨[(2, (.pt ⟨1002, 0, 0, 0, []⟩)), (3, (.pt ⟨1003, 0, 0, 0, []⟩)), (6, (.lf (.int .i64)))], [], [(1002, ⟨0, some 25, [⟨0, .o 0 .bool⟩, ⟨0, .o 0 (.sl 42 Y2)⟩, ⟨0, .o 0 (.sl 27 (.sl 3 (.int .i64)))⟩]⟩), (1003, ⟨0, some 25, [⟨0, .o 0 .bool⟩, ⟨0, .o 0 (.sl 42 Y2)⟩, ⟨0, .o 0 (.sl 27 (.sl 3 (.int .i64)))⟩]⟩)]⟩, [(2, ⟨⟨[], [], [], []⟩, ⟨[], [], []⟩⟩)]⟩), (5, ⟨⟨[5, 3, 2], [], [], []⟩, ⟨[(2, (.pt ⟨1002, 0, 0, 0, []⟩)), (3, (.pt ⟨1003, 0, 0, 0, []⟩)), (5, (.lf (.int .i64)))], [], [(1002, ⟨0, some 25, [⟨0, .o 0 .bool⟩, ⟨0, .o 0 (.sl 42 Y2)⟩, ⟨0, .o 0 (.sl 27 (.sl 3 (.int .i64)))⟩]⟩), (1003, ⟨0, some 25, [⟨0, .o 0 .bool⟩, ⟨0, .o 0 (.sl 42 Y2)⟩, ⟨0, .o 0 (.sl 27 (.sl 3 (.int .i64)))⟩]⟩)]⟩, [(0, ⟨⟨[3, 2], [], [], []⟩, ⟨[(2, (.pt ⟨1002, 0, 0, 0, []⟩)), (3, (.pt ⟨1003, 0, 0, 0, []⟩))], [], [(1002, ⟨0, some 25, [⟨0, .o 0 .bool⟩, ⟨0, .o 0 (.sl 42 Y2)⟩, ⟨0, .o 0 (.sl 27 (.sl 3 (.int .i64)))⟩]⟩), (1003, ⟨0, some 25, [⟨0, .o 0 .bool⟩, ⟨0, .o 0 (.sl 42 Y2)⟩, ⟨0, .o 0 (.sl 27 (.sl 3 (.int .i64)))⟩]⟩)]⟩⟩)]⟩)], ⟨⟨[0], [], [], []⟩, ⟨[(0, (.lf .bool))], [], []⟩⟩⟩
noncomputable def avermentref13_Equal_sig : Sig := ⟨⟨[(0, (.lf Y5)), (1, (.lf Y5))], [], []⟩, ⟨[(0, (.lf .bool))], [], []⟩, false⟩
noncomputable def avermentref13_Equal_code : Code := match Try.f39.body with | some c => c | none => .skip
noncomputable def avermentref13_Equal_res : List ResultVar := Try.f39.results.toList
noncomputable def avermentref13_Equal_con (N : Nat) : Con := ⟨(.pair Y5 Y5), .bool, fun x => avermentref13_Equal N x.1 x.2⟩
noncomputable def avermentref13_Equal_cs (N : Nat) : List (Nat × Con) := [(68, avermentref01_Same_con N)]
noncomputable def avermentref13_Equal_G5 (N n : Nat) (x : (tupTy [(.int .i64), .bool, (.sl 42 Y2), (.sl 27 (.sl 3 (.int .i64))), .bool, (.sl 42 Y2), (.sl 27 (.sl 3 (.int .i64)))]).den) (ks : List (L → Option (Bool))) : Option (Bool) := avermentref13_Equal_l5 N (fun y => kget ks 0 ⟨(.pair .bool (.pair (.sl 42 Y2) (.pair (.sl 27 (.sl 3 (.int .i64))) (.pair .bool (.pair (.sl 42 Y2) (.sl 27 (.sl 3 (.int .i64)))))))), y⟩) (fun y => kget ks 1 ⟨.bool, y⟩) n x.1 x.2.1 x.2.2.1 x.2.2.2.1 x.2.2.2.2.1 x.2.2.2.2.2.1 x.2.2.2.2.2.2
noncomputable def avermentref13_Equal_lh5 : LH := lhAt avermentref13_Equal_H 5
noncomputable def avermentref13_Equal_c5 : Code := codeAt 5 avermentref13_Equal_code
noncomputable def avermentref13_Equal_G10 (N n : Nat) (x : (tupTy [(.int .i64), .bool, (.sl 42 Y2), (.sl 27 (.sl 3 (.int .i64))), .bool, (.sl 42 Y2), (.sl 27 (.sl 3 (.int .i64)))]).den) (ks : List (L → Option (Bool))) : Option (Bool) := avermentref13_Equal_l10 N (fun y => kget ks 0 ⟨.unit, y⟩) (fun y => kget ks 1 ⟨.bool, y⟩) n x.1 x.2.1 x.2.2.1 x.2.2.2.1 x.2.2.2.2.1 x.2.2.2.2.2.1 x.2.2.2.2.2.2
noncomputable def avermentref13_Equal_lh10 : LH := lhAt avermentref13_Equal_H 10
noncomputable def avermentref13_Equal_c10 : Code := codeAt 10 avermentref13_Equal_code
noncomputable def avermentref13_Equal_ls (N : Nat) : List (Nat × LoopC (Bool)) := [(5, ⟨tupTy [(.int .i64), .bool, (.sl 42 Y2), (.sl 27 (.sl 3 (.int .i64))), .bool, (.sl 42 Y2), (.sl 27 (.sl 3 (.int .i64)))], lenK 2 (avermentref13_Equal_G5 N N)⟩), (10, ⟨tupTy [(.int .i64), .bool, (.sl 42 Y2), (.sl 27 (.sl 3 (.int .i64))), .bool, (.sl 42 Y2), (.sl 27 (.sl 3 (.int .i64)))], lenK 2 (avermentref13_Equal_G10 N N)⟩)]
noncomputable def avermentref13_Equal_fun (N : Nat) : Fun := ⟨[Y5, Y5], avermentref13_Equal_tb, avermentref13_Equal_H, avermentref13_Equal_cs N, .bool, (avermentref13_Equal_con N).F, avermentref13_Equal_code, avermentref13_Equal_res, avermentref13_Equal_ls N⟩
theorem avermentref13_Equal_run (N : Nat) (x : (tupTy [Y5, Y5]).den) : (avermentref13_Equal_fun N).run (inSt [Y5, Y5] x) = (avermentref13_Equal_con N).F x := by kernel_rfl
theorem avermentref13_Equal_o5 (N : Nat) : RoundOk (ρ := (avermentref13_Equal_fun N).B.den) (avermentref13_Equal_fun N).cs (avermentref13_Equal_fun N).ls (avermentref13_Equal_fun N).tb (avermentref13_Equal_fun N).H (avermentref13_Equal_fun N).fin (avermentref13_Equal_fun N).B avermentref13_Equal_lh5 avermentref13_Equal_c5 [(.int .i64), .bool, (.sl 42 Y2), (.sl 27 (.sl 3 (.int .i64))), .bool, (.sl 42 Y2), (.sl 27 (.sl 3 (.int .i64)))] [(.pair .bool (.pair (.sl 42 Y2) (.pair (.sl 27 (.sl 3 (.int .i64))) (.pair .bool (.pair (.sl 42 Y2) (.sl 27 (.sl 3 (.int .i64)))))))), .bool] (avermentref13_Equal_G5 N) :=
  ⟨by kernel_rfl, fun _ _ => by kernel_rfl, fun _ _ _ => by kernel_rfl⟩
theorem avermentref13_Equal_o10 (N : Nat) : RoundOk (ρ := (avermentref13_Equal_fun N).B.den) (avermentref13_Equal_fun N).cs (avermentref13_Equal_fun N).ls (avermentref13_Equal_fun N).tb (avermentref13_Equal_fun N).H (avermentref13_Equal_fun N).fin (avermentref13_Equal_fun N).B avermentref13_Equal_lh10 avermentref13_Equal_c10 [(.int .i64), .bool, (.sl 42 Y2), (.sl 27 (.sl 3 (.int .i64))), .bool, (.sl 42 Y2), (.sl 27 (.sl 3 (.int .i64)))] [.unit, .bool] (avermentref13_Equal_G10 N) :=
  ⟨by kernel_rfl, fun _ _ => by kernel_rfl, fun _ _ _ => by kernel_rfl⟩
theorem avermentref13_Equal_calls (N : Nat) : CallsOk Try.prog ids (phi Try.prog ids) (avermentref13_Equal_cs N) avermentref13_Equal_tb := fun k sg con h1 h2 => by
  rcases get_consE h2 with ⟨rfl, rfl⟩ | h2
  · obtain rfl := Option.some.inj (h1.symm.trans (show get avermentref13_Equal_tb.sigs 68 = some avermentref01_Same_sig from by kernel_rfl)); exact avermentref01_Same_ok N
  exact (get_nilE h2).elim
theorem avermentref13_Equal_loops (N : Nat) : LoopsL (ρ := (avermentref13_Equal_fun N).B.den) (avermentref13_Equal_fun N).cs (avermentref13_Equal_fun N).ls (avermentref13_Equal_fun N).tb (avermentref13_Equal_fun N).H (avermentref13_Equal_fun N).fin (avermentref13_Equal_fun N).B (avermentref13_Equal_fun N).code := fun k lc h => by
  rcases get_consE h with ⟨rfl, rfl⟩ | h
  · exact ⟨_, loopOk (avermentref13_Equal_o5 N)⟩
  rcases get_consE h with ⟨rfl, rfl⟩ | h
  · exact ⟨_, loopOk (avermentref13_Equal_o10 N)⟩
  exact (get_nilE h).elim
theorem avermentref13_Equal_ok (N : Nat) : FnOk Try.prog ids (phi Try.prog ids) 39 avermentref13_Equal_sig (avermentref13_Equal_con N) :=
  fnOk2 (q := avermentref13_Equal_fun N) mix Try.func39 (by kernel_rfl) (by kernel_rfl) (by kernel_rfl) (by kernel_rfl) (by kernel_rfl) (by kernel_rfl) (by kernel_rfl) (tt_ok _ rfl) (fnsOk_of (by kernel_rfl)) (avermentref13_Equal_calls N) (avermentref13_Equal_loops N) (avermentref13_Equal_run N)
noncomputable def avermentlaw13_same_tb : Tabs := ⟨TT, [(40, avermentlaw13_From_sig), (39, avermentref13_Equal_sig)], []⟩
noncomputable def avermentlaw13_same_H : Hints := ⟨[], [], [], ⟨⟨[0], [], [], []⟩, ⟨[(0, (.lf .bool))], [], []⟩⟩⟩
noncomputable def avermentlaw13_same_sig : Sig := ⟨⟨[(0, (.lf Y4)), (1, (.lf Y5))], [], []⟩, ⟨[(0, (.lf .bool))], [], []⟩, false⟩
noncomputable def avermentlaw13_same_code : Code := match Try.f15.body with | some c => c | none => .skip
noncomputable def avermentlaw13_same_res : List ResultVar := Try.f15.results.toList
noncomputable def avermentlaw13_same_con (N : Nat) : Con := ⟨(.pair Y4 Y5), .bool, fun x => avermentlaw13_same N x.1 x.2⟩
noncomputable def avermentlaw13_same_cs (N : Nat) : List (Nat × Con) := [(40, avermentlaw13_From_con N), (39, avermentref13_Equal_con N)]
noncomputable def avermentlaw13_same_ls (N : Nat) : List (Nat × LoopC (Bool)) := []
noncomputable def avermentlaw13_same_fun (N : Nat) : Fun := ⟨[Y4, Y5], avermentlaw13_same_tb, avermentlaw13_same_H, avermentlaw13_same_cs N, .bool, (avermentlaw13_same_con N).F, avermentlaw13_same_code, avermentlaw13_same_res, avermentlaw13_same_ls N⟩
theorem avermentlaw13_same_run (N : Nat) (x : (tupTy [Y4, Y5]).den) : (avermentlaw13_same_fun N).run (inSt [Y4, Y5] x) = (avermentlaw13_same_con N).F x := by kernel_rfl
theorem avermentlaw13_same_calls (N : Nat) : CallsOk Try.prog ids (phi Try.prog ids) (avermentlaw13_same_cs N) avermentlaw13_same_tb := fun k sg con h1 h2 => by
  rcases get_consE h2 with ⟨rfl, rfl⟩ | h2
  · obtain rfl := Option.some.inj (h1.symm.trans (show get avermentlaw13_same_tb.sigs 40 = some avermentlaw13_From_sig from by kernel_rfl)); exact avermentlaw13_From_ok N
  rcases get_consE h2 with ⟨rfl, rfl⟩ | h2
  · obtain rfl := Option.some.inj (h1.symm.trans (show get avermentlaw13_same_tb.sigs 39 = some avermentref13_Equal_sig from by kernel_rfl)); exact avermentref13_Equal_ok N
  exact (get_nilE h2).elim
theorem avermentlaw13_same_loops (N : Nat) : LoopsL (ρ := (avermentlaw13_same_fun N).B.den) (avermentlaw13_same_fun N).cs (avermentlaw13_same_fun N).ls (avermentlaw13_same_fun N).tb (avermentlaw13_same_fun N).H (avermentlaw13_same_fun N).fin (avermentlaw13_same_fun N).B (avermentlaw13_same_fun N).code := fun k lc h => by
  exact (get_nilE h).elim
theorem avermentlaw13_same_ok (N : Nat) : FnOk Try.prog ids (phi Try.prog ids) 15 avermentlaw13_same_sig (avermentlaw13_same_con N) :=
  fnOk2 (q := avermentlaw13_same_fun N) mix Try.func15 (by kernel_rfl) (by kernel_rfl) (by kernel_rfl) (by kernel_rfl) (by kernel_rfl) (by kernel_rfl) (by kernel_rfl) (tt_ok _ rfl) (fnsOk_of (by kernel_rfl)) (avermentlaw13_same_calls N) (avermentlaw13_same_loops N) (avermentlaw13_same_run N)
noncomputable def avermentlaw13_StateBegins_tb : Tabs := ⟨TT, [(13, avermentref12_Fix_sig), (14, avermentlaw12_To_sig), (8, avermentlaw13_told_sig), (16, state_Begin_sig), (17, avermentref13_Begin_sig), (15, avermentlaw13_same_sig)], [30, 40]⟩
noncomputable def avermentlaw13_StateBegins_H : Hints := ⟨[(11, ⟨⟨[1, 3], [], [], []⟩, ⟨[(1, (.pt ⟨1001, 0, 0, 0, []⟩)), (3, (.lf (.int .i64)))], [], [(1001, ⟨0, some 36, [⟨0, .o 0 (.int .i64)⟩, ⟨0, .o 0 (.sl 42 Y2)⟩, ⟨0, .o 0 (.int .i64)⟩]⟩)]⟩⟩)], [], [(8, ⟨⟨[6, 1, 5, 4, 3], [5, 4], [], []⟩, ⟨[(1, (.pt ⟨1001, 0, 0, 0, []⟩)), (3, (.lf (.int .i64))), (4, (.ar ⟨1004, 0, 0, 0, []⟩)), (5, (.ar ⟨1005, 0, 0, 0, []⟩)), (6, (.lf (.int .i64)))], [], [(1001, ⟨0, some 36, [⟨0, .o 0 (.int .i64)⟩, ⟨0, .o 0 (.sl 42 Y2)⟩, ⟨0, .o 0 (.int .i64)⟩]⟩), (1004, ⟨0, none, [⟨0, .o 1 (.sl 42 Y2)⟩]⟩), (1005, ⟨0, none, [⟨0, .o 1 (.sl 47 Y2)⟩]⟩)]⟩, [(0, ⟨⟨[4, 3, 5, 1], [], [], []⟩, ⟨[(1, (.pt ⟨1001, 0, 0, 0, []⟩)), (3, (.lf (.int .i64))), (4, (.ar ⟨1004, 0, 0, 0, []⟩)), (5, (.ar ⟨1005, 0, 0, 0, []⟩))], [], [(1001, ⟨0, some 36, [⟨0, .o 0 (.int .i64)⟩, ⟨0, .o 0 (.sl 42 Y2)⟩, ⟨0, .o 0 (.int .i64)⟩]⟩), (1004, ⟨0, none, [⟨0, .o 1 (.sl 42 Y2)⟩]⟩), (1005, ⟨0, none, [⟨0, .o 1 (.sl 47 Y2)⟩]⟩)]⟩⟩)]⟩)], ⟨⟨[0], [], [], []⟩, ⟨[(0, (.lf .bool))], [], []⟩⟩⟩
noncomputable def avermentlaw13_StateBegins_sig : Sig := ⟨⟨[(0, (.lf Y3))], [], []⟩, ⟨[(0, (.lf .bool))], [], []⟩, false⟩
noncomputable def avermentlaw13_StateBegins_code : Code := match Try.f4.body with | some c => c | none => .skip
noncomputable def avermentlaw13_StateBegins_res : List ResultVar := Try.f4.results.toList
noncomputable def avermentlaw13_StateBegins_con (N : Nat) : Con := ⟨Y3, .bool, fun x => avermentlaw13_StateBegins N x⟩
noncomputable def avermentlaw13_StateBegins_cs (N : Nat) : List (Nat × Con) := [(13, avermentref12_Fix_con N), (14, avermentlaw12_To_con N), (8, avermentlaw13_told_con N), (16, state_Begin_con N), (17, avermentref13_Begin_con N), (15, avermentlaw13_same_con N)]
noncomputable def avermentlaw13_StateBegins_G8 (N n : Nat) (x : (tupTy [(.int .i64), (.int .i64), (.int .i64), (.sl 42 Y2), (.int .i64), (.sl 42 Y2), (.sl 47 Y2)]).den) (ks : List (L → Option (Bool))) : Option (Bool) := avermentlaw13_StateBegins_l8 N (fun y => kget ks 0 ⟨(.pair (.int .i64) (.pair (.int .i64) (.pair (.sl 42 Y2) (.pair (.int .i64) (.pair (.sl 42 Y2) (.sl 47 Y2)))))), y⟩) n x.1 x.2.1 x.2.2.1 x.2.2.2.1 x.2.2.2.2.1 x.2.2.2.2.2.1 x.2.2.2.2.2.2
noncomputable def avermentlaw13_StateBegins_lh8 : LH := lhAt avermentlaw13_StateBegins_H 8
noncomputable def avermentlaw13_StateBegins_c8 : Code := codeAt 8 avermentlaw13_StateBegins_code
noncomputable def avermentlaw13_StateBegins_ls (N : Nat) : List (Nat × LoopC (Bool)) := [(8, ⟨tupTy [(.int .i64), (.int .i64), (.int .i64), (.sl 42 Y2), (.int .i64), (.sl 42 Y2), (.sl 47 Y2)], lenK 1 (avermentlaw13_StateBegins_G8 N N)⟩)]
noncomputable def avermentlaw13_StateBegins_fun (N : Nat) : Fun := ⟨[Y3], avermentlaw13_StateBegins_tb, avermentlaw13_StateBegins_H, avermentlaw13_StateBegins_cs N, .bool, (avermentlaw13_StateBegins_con N).F, avermentlaw13_StateBegins_code, avermentlaw13_StateBegins_res, avermentlaw13_StateBegins_ls N⟩
theorem avermentlaw13_StateBegins_run (N : Nat) (x : (tupTy [Y3]).den) : (avermentlaw13_StateBegins_fun N).run (inSt [Y3] x) = (avermentlaw13_StateBegins_con N).F x := by kernel_rfl
theorem avermentlaw13_StateBegins_o8 (N : Nat) : RoundOk (ρ := (avermentlaw13_StateBegins_fun N).B.den) (avermentlaw13_StateBegins_fun N).cs (avermentlaw13_StateBegins_fun N).ls (avermentlaw13_StateBegins_fun N).tb (avermentlaw13_StateBegins_fun N).H (avermentlaw13_StateBegins_fun N).fin (avermentlaw13_StateBegins_fun N).B avermentlaw13_StateBegins_lh8 avermentlaw13_StateBegins_c8 [(.int .i64), (.int .i64), (.int .i64), (.sl 42 Y2), (.int .i64), (.sl 42 Y2), (.sl 47 Y2)] [(.pair (.int .i64) (.pair (.int .i64) (.pair (.sl 42 Y2) (.pair (.int .i64) (.pair (.sl 42 Y2) (.sl 47 Y2))))))] (avermentlaw13_StateBegins_G8 N) :=
  ⟨by kernel_rfl, fun _ _ => by kernel_rfl, fun _ _ _ => by kernel_rfl⟩
theorem avermentlaw13_StateBegins_calls (N : Nat) : CallsOk Try.prog ids (phi Try.prog ids) (avermentlaw13_StateBegins_cs N) avermentlaw13_StateBegins_tb := fun k sg con h1 h2 => by
  rcases get_consE h2 with ⟨rfl, rfl⟩ | h2
  · obtain rfl := Option.some.inj (h1.symm.trans (show get avermentlaw13_StateBegins_tb.sigs 13 = some avermentref12_Fix_sig from by kernel_rfl)); exact avermentref12_Fix_ok N
  rcases get_consE h2 with ⟨rfl, rfl⟩ | h2
  · obtain rfl := Option.some.inj (h1.symm.trans (show get avermentlaw13_StateBegins_tb.sigs 14 = some avermentlaw12_To_sig from by kernel_rfl)); exact avermentlaw12_To_ok N
  rcases get_consE h2 with ⟨rfl, rfl⟩ | h2
  · obtain rfl := Option.some.inj (h1.symm.trans (show get avermentlaw13_StateBegins_tb.sigs 8 = some avermentlaw13_told_sig from by kernel_rfl)); exact avermentlaw13_told_ok N
  rcases get_consE h2 with ⟨rfl, rfl⟩ | h2
  · obtain rfl := Option.some.inj (h1.symm.trans (show get avermentlaw13_StateBegins_tb.sigs 16 = some state_Begin_sig from by kernel_rfl)); exact state_Begin_ok N
  rcases get_consE h2 with ⟨rfl, rfl⟩ | h2
  · obtain rfl := Option.some.inj (h1.symm.trans (show get avermentlaw13_StateBegins_tb.sigs 17 = some avermentref13_Begin_sig from by kernel_rfl)); exact avermentref13_Begin_ok N
  rcases get_consE h2 with ⟨rfl, rfl⟩ | h2
  · obtain rfl := Option.some.inj (h1.symm.trans (show get avermentlaw13_StateBegins_tb.sigs 15 = some avermentlaw13_same_sig from by kernel_rfl)); exact avermentlaw13_same_ok N
  exact (get_nilE h2).elim
theorem avermentlaw13_StateBegins_loops (N : Nat) : LoopsL (ρ := (avermentlaw13_StateBegins_fun N).B.den) (avermentlaw13_StateBegins_fun N).cs (avermentlaw13_StateBegins_fun N).ls (avermentlaw13_StateBegins_fun N).tb (avermentlaw13_StateBegins_fun N).H (avermentlaw13_StateBegins_fun N).fin (avermentlaw13_StateBegins_fun N).B (avermentlaw13_StateBegins_fun N).code := fun k lc h => by
  rcases get_consE h with ⟨rfl, rfl⟩ | h
  · exact ⟨_, loopOk (avermentlaw13_StateBegins_o8 N)⟩
  exact (get_nilE h).elim
theorem avermentlaw13_StateBegins_ok (N : Nat) : FnOk Try.prog ids (phi Try.prog ids) 4 avermentlaw13_StateBegins_sig (avermentlaw13_StateBegins_con N) :=
  fnOk2 (q := avermentlaw13_StateBegins_fun N) mix Try.func4 (by kernel_rfl) (by kernel_rfl) (by kernel_rfl) (by kernel_rfl) (by kernel_rfl) (by kernel_rfl) (by kernel_rfl) (tt_ok _ rfl) (fnsOk_of (by kernel_rfl)) (avermentlaw13_StateBegins_calls N) (avermentlaw13_StateBegins_loops N) (avermentlaw13_StateBegins_run N)
end Go.Proofs.Ytglcpndffekmhaa
namespace Go.Y
def Wf (by_ : TypeId → Nat) : (A : Ty) → A.den → Prop
  | .unit, _ => True
  | .bool, _ => True
  | .int k, n => (Lit.int k n).wf = true
  | .str, s => (s : List UInt8).length ≤ reachBytes
  | .pair a b, x => Wf by_ a x.1 ∧ Wf by_ b x.2
  | .st f, x => Wf by_ f x
  | .sl e a, xs => (xs : List a.den).length * by_ e ≤ reachBytes ∧ ∀ x ∈ (xs : List a.den), Wf by_ a x
  | .ptr _ _, _ => False
  | .err, _ => False
  | .fn _ _, _ => False
theorem wf_i64 {n : Int} (h : (Lit.int .i64 n).wf = true) : -9223372036854775808 ≤ n ∧ n ≤ 9223372036854775807 := by
  simpa [Lit.wf, IntKind.min, IntKind.max, IntKind.signed, IntKind.bits] using h
theorem wf_u8 {n : Int} (h : (Lit.int .u8 n).wf = true) : 0 ≤ n ∧ n ≤ 255 := by
  simpa [Lit.wf, IntKind.min, IntKind.max, IntKind.signed, IntKind.bits] using h
theorem wf_u64 {n : Int} (h : (Lit.int .u64 n).wf = true) : 0 ≤ n ∧ n ≤ 18446744073709551615 := by
  simpa [Lit.wf, IntKind.min, IntKind.max, IntKind.signed, IntKind.bits] using h
end Go.Y
namespace Go.Y
open Go.Eng (T RepT RepM SRep Kept Base G SameOn VRep Split Live Free kn)
variable {P : Program} {I : Ids} {φ : FnP}
def rdT (P : Program) : Nat → TypeId → Ty → Bool
  | 0, _, _ => false
  | n + 1, t, A => match A with
    | .bool => match P.underlying t with | some .bool => true | _ => false
    | .int k => match P.underlying t with | some (.int k') => decide (k' = k) | _ => false
    | .str => match P.underlying t with | some .string => true | _ => false
    | .sl e a => match P.underlying t with
      | some (.slice e') => Nat.beq e' e && (rdT P n e a && (Nat.beq (P.cellsOf e) a.flat.length && (Eng.aggOf P e == a.isAgg && !a.flat.isEmpty)))
      | _ => false
    | .st f => match P.underlying t with
      | some (.struct fs) => rowF P (rdT P n) 0 fs.toList f && Nat.beq (P.cellsOf t) f.flat.length
      | _ => false
    | _ => false
def Reps (P : Program) (w : World) (F : Nat → Prop) (ts : List T) (us : List Value) : Prop := ts.length = us.length ∧ ∀ (j : Nat) t, ts[j]? = some t → ∃ u, us[j]? = some u ∧ RepT P w F t u
theorem reps_append {w : World} {F : Nat → Prop} {a b : List T} {us vs : List Value} (h1 : Reps P w F a us) (h2 : Reps P w F b vs) : Reps P w F (a ++ b) (us ++ vs) := by
  refine ⟨by simp [h1.1, h2.1], fun j t hj => ?_⟩
  by_cases hl : j < a.length
  · rw [List.getElem?_append_left hl] at hj
    obtain ⟨u, hu, hr⟩ := h1.2 j t hj
    exact ⟨u, by rw [List.getElem?_append_left (by rw [← h1.1]; exact hl)]; exact hu, hr⟩
  · rw [List.getElem?_append_right (by omega)] at hj
    obtain ⟨u, hu, hr⟩ := h2.2 _ t hj
    exact ⟨u, by rw [List.getElem?_append_right (by rw [← h1.1]; omega), ← h1.1]; exact hu, hr⟩
theorem reps_one {w : World} {F : Nat → Prop} {t : T} {u : Value} (h : RepT P w F t u) : Reps P w F [t] [u] := by
  refine ⟨rfl, fun j s hj => ?_⟩
  cases j with
  | zero => simp only [List.getElem?_cons_zero, Option.some.injEq] at hj; subst hj; exact ⟨u, rfl, h⟩
  | succ j => simp at hj
section
variable {H : Type} {enc : TypeId × Value → H} {w : World} {spare : Nat → Bool} {held : Bool}
def RdOk (enc : TypeId × Value → H) (P : Program) (I : Ids) (φ : FnP) (w : World) (spare : Nat → Bool) (held : Bool) (n : Nat) : Prop :=
  ∀ t A, rdT P n t A = true → ∀ fuel cs d ps, DataW.trod enc P w 0 spare held fuel t cs = some (d, ps) → (∀ m ∈ d.weights P t, m ≤ reachBytes) →
    ∃ x : A.den, Wf P.bytesOf A x ∧ Reps P w (fun b => b < w.heap.size) (trc I φ A x) cs
theorem weights_each {ts : List TypeId} {ds : List (DataW H)} {M : Nat} (h : ∀ m ∈ DataW.weightsEach P ts ds, m ≤ M) {j : Nat} {t : TypeId} {d : DataW H} (ht : ts[j]? = some t) (hd : ds[j]? = some d) : ∀ m ∈ d.weights P t, m ≤ M :=
  fun m hm => h m (DataW.weights_mem_each ht hd m hm)
theorem weights_all_mem {e : TypeId} : ∀ {ds : List (DataW H)} {d : DataW H}, d ∈ ds → ∀ m ∈ d.weights P e, m ∈ DataW.weightsAll P e ds
  | [], d, hd, _, _ => by simp at hd
  | d0 :: r, d, hd, m, hm => by
    simp only [DataW.weightsAll, List.mem_append]
    rcases List.mem_cons.1 hd with rfl | hd
    · exact .inl hm
    · exact .inr (weights_all_mem hd m hm)
theorem rd_row {n fuel : Nat} (IH : RdOk enc P I φ w spare held n) {cs : List Value} :
    ∀ (fs : List Field) (f : Ty) (off : Nat) (xs : List (DataW H × List MemPlace)), rowF P (rdT P n) off fs f = true → xs.length = fs.length →
      (∀ (i : Nat) q, fs[i]? = some q → DataW.trod enc P w 0 spare held fuel q.type ((cs.drop q.offset).take (P.cellsOf q.type)) = xs[i]?) →
      (∀ m ∈ DataW.weightsEach P (fs.map (·.type)) (xs.map (·.1)), m ≤ reachBytes) → cs.length = off + f.flat.length →
      ∃ x : f.den, Wf P.bytesOf f x ∧ Reps P w (fun b => b < w.heap.size) (trc I φ f x) (cs.drop off) := by
  have hd1 : ∀ (q : Field) (a : Ty) (off : Nat) (y : DataW H × List MemPlace), hdF P (rdT P n) q a off = true → DataW.trod enc P w 0 spare held fuel q.type ((cs.drop q.offset).take (P.cellsOf q.type)) = some y →
      (∀ m ∈ y.1.weights P q.type, m ≤ reachBytes) → ∃ x : a.den, Wf P.bytesOf a x ∧ Reps P w (fun b => b < w.heap.size) (trc I φ a x) ((cs.drop off).take a.flat.length) := by
    intro q a off y h hy hm
    obtain ⟨h1, h2, h3, _, _⟩ := hdF_facts h
    obtain ⟨x, hx1, hx2⟩ := IH q.type a h2 fuel _ y.1 y.2 hy hm
    rw [h1, h3] at hx2
    exact ⟨x, hx1, hx2⟩
  intro fs
  induction fs with
  | nil =>
    intro f off xs h _ _ _ hl
    cases f <;> first
      | (exact ⟨(), trivial, by simp only [Ty.flat, List.length_nil] at hl; rw [List.drop_eq_nil_of_le (by omega)]; exact ⟨rfl, fun j t hj => by simp [trc] at hj⟩⟩)
      | (simp only [rowF] at h; cases h)
  | cons q r ih =>
    intro f off xs h hlen hx hm hl
    obtain ⟨y, ys, rfl⟩ : ∃ y ys, xs = y :: ys := by
      cases xs with
      | nil => simp at hlen
      | cons y ys => exact ⟨y, ys, rfl⟩
    have hy := hx 0 q rfl
    simp only [List.getElem?_cons_zero] at hy
    have hmy : ∀ m ∈ y.1.weights P q.type, m ≤ reachBytes := weights_each hm (j := 0) rfl rfl
    cases r with
    | nil =>
      simp only [rowF, Bool.and_eq_true] at h
      obtain ⟨x, h1, h2⟩ := hd1 q f off y h.2 hy hmy
      refine ⟨x, h1, ?_⟩
      rwa [List.take_of_length_le (by rw [List.length_drop]; omega)] at h2
    | cons q2 r2 =>
      cases f with
      | pair a b =>
        simp only [rowF, Bool.and_eq_true] at h
        simp only [Ty.flat, List.length_append] at hl
        obtain ⟨x, h1, h2⟩ := hd1 q a off y h.1 hy hmy
        obtain ⟨z, h3, h4⟩ := ih b (off + a.flat.length) ys h.2 (by simpa using hlen) (fun i q' hq => by have := hx (i + 1) q' (by simpa using hq); simpa using this)
          (fun m hm' => hm m (by simp only [List.map_cons, DataW.weightsEach, List.mem_append]; exact .inr (by simpa using hm'))) (by omega)
        refine ⟨(x, z), ⟨h1, h3⟩, ?_⟩
        have := reps_append h2 h4
        rw [← List.drop_drop, List.take_append_drop] at this
        exact this
      | _ => simp only [rowF] at h; cases h
theorem rd_ok : ∀ n, RdOk (H := H) enc P I φ w spare held n
  | 0 => fun t A h => by simp [rdT] at h
  | n + 1 => by
    intro t A h fuel cs d ps htr hm
    unfold rdT at h
    cases A with
    | bool =>
      simp only at h
      split at h
      · rename_i hu
        obtain ⟨b, rfl, _⟩ := DataW.trod_bool hu htr
        exact ⟨b, trivial, reps_one (.b b)⟩
      · cases h
    | int k =>
      simp only at h
      split at h
      · rename_i k' hu
        have hk : k' = k := of_decide_eq_true h
        subst hk
        obtain ⟨m, rfl, _, hw⟩ := DataW.trod_int hu htr
        exact ⟨m, hw, reps_one (.i k' m)⟩
      · cases h
    | str =>
      simp only at h
      split at h
      · rename_i hu
        obtain ⟨s, rfl, hx, hs⟩ := DataW.trod_string hu htr
        simp only [Prod.mk.injEq] at hx
        refine ⟨s.data.toList, ?_, ?_⟩
        · rw [hx.1] at hm
          have := hm s.data.toList.length (by simp [DataW.weights])
          exact this
        · have : (⟨s.data.toList.toArray⟩ : ByteArray) = s := by
            apply ByteArray.ext; simp
          show Reps P w _ [T.s ⟨s.data.toList.toArray⟩] _
          rw [this]
          exact reps_one (.s s)
      · cases h
    | st f =>
      simp only at h
      split at h
      · rename_i fs hu
        simp only [Bool.and_eq_true] at h
        obtain ⟨xs, m, rfl, hx, hl, hlen, hel⟩ := DataW.trod_struct hu htr
        have hf := (beq_iff _ _).1 h.2
        simp only [Prod.mk.injEq] at hx
        rw [hx.1] at hm
        obtain ⟨x, h1, h2⟩ := rd_row (rd_ok n) fs.toList f 0 xs h.1 (by rw [hlen]; simp) (fun i q hq => hel i q (by simpa using hq)) (fun k hk => hm k (by simp only [DataW.weights, hu]; exact hk)) (by rw [hl, hf]; simp)
        rw [List.drop_zero] at h2
        exact ⟨x, h1, h2⟩
      · cases h
    | sl e a =>
      simp only at h
      split at h
      · rename_i e' hu
        simp only [Bool.and_eq_true] at h
        obtain ⟨h1, h2, h3, h4, h5⟩ := h
        have h1 := (beq_iff _ _).1 h1
        subst h1
        have h3 := (beq_iff _ _).1 h3
        have h4 : Eng.aggOf P e' = a.isAgg := by simpa using h4
        have hpos : 0 < a.flat.length := by
          cases hf : a.flat with
          | nil => rw [hf] at h5; cases h5
          | cons => simp
        rcases DataW.trod_slice hu htr with ⟨rfl, _⟩ | ⟨ad, len, cap, elems, rest, m, rfl, rfl, hx, _, hlc, _, hlen, hel, _, _⟩
        · exact ⟨[], ⟨by simp, fun x hx => by simp at hx⟩, reps_one (.nsl e' false)⟩
        · simp only [Prod.mk.injEq] at hx
          rw [hx.1] at hm
          simp only [DataW.weights, hu, List.mem_cons, List.mem_append] at hm
          have hbytes := hm _ (.inl rfl)
          rw [List.length_map, List.length_map] at hbytes
          have each : ∀ i, i < len → ∃ x : a.den, Wf P.bytesOf a x ∧ ∃ us, w.cells? 0 (ad.add (i * P.cellsOf e')) (P.cellsOf e') = some us ∧ Reps P w (fun b => b < w.heap.size) (trc I φ a x) us := by
            intro i hi
            have hi' : i < elems.length := by omega
            have he := hel i hi
            rw [List.getElem?_eq_getElem hi'] at he
            obtain ⟨us, hus, htr'⟩ := Option.bind_eq_some_iff.1 he
            obtain ⟨x, hx1, hx2⟩ := rd_ok n e' a h2 m us elems[i].1 elems[i].2 htr' (fun k hk => hm k (.inr (.inl (weights_all_mem (List.mem_map.2 ⟨elems[i], List.getElem_mem hi', rfl⟩) k hk))))
            exact ⟨x, hx1, us, hus, hx2⟩
          obtain ⟨xs, hxl, hxs⟩ : ∃ xs : List a.den, xs.length = len ∧ ∀ i x, xs[i]? = some x → Wf P.bytesOf a x ∧ ∃ us, w.cells? 0 (ad.add (i * P.cellsOf e')) (P.cellsOf e') = some us ∧ Reps P w (fun b => b < w.heap.size) (trc I φ a x) us := by
            have : ∀ k, k ≤ len → ∃ xs : List a.den, xs.length = k ∧ ∀ i x, xs[i]? = some x → Wf P.bytesOf a x ∧ ∃ us, w.cells? 0 (ad.add (i * P.cellsOf e')) (P.cellsOf e') = some us ∧ Reps P w (fun b => b < w.heap.size) (trc I φ a x) us := by
              intro k
              induction k with
              | zero => exact fun _ => ⟨[], rfl, fun i x hx => by simp at hx⟩
              | succ k ihk =>
                intro hk
                obtain ⟨xs, hxl, hxs⟩ := ihk (by omega)
                obtain ⟨x, hx⟩ := each k (by omega)
                refine ⟨xs ++ [x], by simp [hxl], fun i y hy => ?_⟩
                by_cases hi : i < xs.length
                · rw [List.getElem?_append_left hi] at hy; exact hxs i y hy
                · rw [List.getElem?_append_right (by omega)] at hy
                  have hik : i = k := by
                    have := lt_of_get hy
                    simp at this; omega
                  subst hik
                  rw [hxl] at hy
                  simp only [Nat.sub_self, List.getElem?_cons_zero, Option.some.injEq] at hy
                  subst hy
                  exact hx
            exact this len (Nat.le_refl _)
          refine ⟨xs, ⟨?_, fun x hx => ?_⟩, ?_⟩
          · rw [hxl, ← hlen]
            exact Nat.le_trans (Nat.mul_le_mul_right _ (Nat.le_add_right _ _)) hbytes
          · obtain ⟨i, hi⟩ := List.getElem?_of_mem hx
            exact (hxs i x hi).1
          · refine reps_one ?_
            have hfit : ∀ y ∈ xs.map (fun x => one a (trc I φ a x)), Eng.Fits P e' y := by
              intro y hy
              obtain ⟨x, _, rfl⟩ := List.mem_map.1 hy
              exact fits_of_ty h3.symm h4.symm x
            by_cases hl0 : len = 0
            · subst hl0
              have : xs = [] := List.eq_nil_of_length_eq_zero hxl
              subst this
              exact .esl e' false ad cap
            · have hcell : ∀ i x, xs[i]? = some x → ∃ us : List Value, us.length = P.cellsOf e' ∧ (∀ j, j < P.cellsOf e' → w.cell? ((ad.add (i * P.cellsOf e')).add j) = us[j]?) ∧ Reps P w (fun b => b < w.heap.size) (trc I φ a x) us := by
                intro i x hx
                obtain ⟨_, us, hus, hr⟩ := hxs i x hx
                unfold World.cells? at hus
                rw [if_pos (Nat.zero_le _)] at hus
                exact ⟨us, by simpa using mapM_some_length hus, fun j hj => mapM_some_get hus j j (by simp [hj]), hr⟩
              obtain ⟨adb, ado, ads⟩ := ad
              have hspot : ads = none ∧ adb < w.heap.size := by
                obtain ⟨us, hus, hc, hr⟩ := hcell 0 xs[0] (List.getElem?_eq_getElem (by omega))
                have h6 := hc 0 (by omega)
                simp only [Nat.zero_mul, Addr.add, if_true] at h6
                have h7 : us[0]? = some us[0] := List.getElem?_eq_getElem (by omega)
                rw [h7] at h6
                refine ⟨?_, World.block_lt_of_cell? w _ h6⟩
                unfold World.cell? at h6
                split at h6
                · split at h6
                  · cases h6
                  · rename_i hs
                    simpa using hs
                · cases h6
              obtain ⟨rfl, hlt⟩ := hspot
              have hat : ∀ j t, (Eng.flat (xs.map fun x => one a (trc I φ a x)))[j]? = some t → ∃ u, w.cell? ⟨adb, ado + j, none⟩ = some u ∧ RepT P w (fun b => b < w.heap.size) t u := by
                intro j t hj
                obtain ⟨_, _, x, hi, ho⟩ := flat_at hfit hj
                have hjo : j = j / P.cellsOf e' * P.cellsOf e' + j % P.cellsOf e' := by rw [Nat.mul_comm]; exact (Nat.div_add_mod _ _).symm
                generalize j / P.cellsOf e' = i at hi hjo
                generalize j % P.cellsOf e' = o at ho hjo
                rw [List.getElem?_map, Option.map_eq_some_iff] at hi
                obtain ⟨x', hx', rfl⟩ := hi
                have ho : (trc I φ a x')[o]? = some t := by rw [← ho]; exact congrArg (·[o]?) (tr_cells (I := I) (φ := φ) a x').symm
                obtain ⟨us, hus, hc, hr⟩ := hcell i x' hx'
                obtain ⟨u, hu, hru⟩ := hr.2 o t ho
                have hol : o < P.cellsOf e' := by
                  have := lt_of_get hu
                  omega
                have h8 := hc o hol
                rw [hu, Eng.addr_add, Eng.addr_add, Nat.add_assoc, ← hjo] at h8
                exact ⟨u, h8, hru⟩
              have hlm : len = (xs.map fun x => one a (trc I φ a x)).length := by simp [hxl]
              rw [hlm]
              refine .sl e' false _ adb ado cap (fun j => (w.cell? ⟨adb, ado + j, none⟩).getD undef) (fun _ => hlt) hfit (by rw [← hlm]; exact hlc) (fun j t hj => ?_) fun j t hj => ?_
              · obtain ⟨u, hu, _⟩ := hat j t hj
                simp [hu]
              · obtain ⟨u, hu, hr⟩ := hat j t hj
                simp only [hu, Option.getD_some]
                exact hr
      · cases h
    | _ => cases h
end
end Go.Y
namespace Go.Y
open Go.Eng (T RepT RepM SRep Kept Base G SameOn VRep Split Live Free kn)
open Go.ChangeShapes Go.WideShapes Go.RowKit
variable {P : Program} {I : Ids} {φ : FnP}
def rdAll (P : Program) : List TypeId → List Ty → Bool
  | [], [] => true
  | t :: ts, A :: As => rdT P 24 t A && (P.readableRec t && (Nat.blt t P.types.size && (Eng.aggOf P t == A.isAgg && rdAll P ts As)))
  | _, _ => false
theorem cells_one {v : Value} {c : Value} (h : v.cells.toList = [c]) : v = c ∨ v = .agg #[c] := by
  cases v with
  | agg cs =>
    refine .inr ?_
    have h : cs.toList = [c] := h
    cases cs; simp_all
  | _ => simp_all [Value.cells]
theorem rd_value {H : Type} {enc : TypeId × Value → H} {w : World} {r : Reach} {b0 : Nat} {t : TypeId} {A : Ty} {v : Value} {x : A.den} (h : rdT P 24 t A = true) (hag : Eng.aggOf P t = A.isAgg) (hval : Value.okWide P w r b0 t v)
    {F : Nat → Prop} (hr : Reps P w F (trc I φ A x) v.cells.toList) : RepT P w F (tr I φ A x) v := by
  cases hA : A.isAgg with
  | true =>
    rw [tr_agg A hA]
    have hu : ∃ cs, v = .agg cs := by
      unfold Eng.aggOf at hag
      unfold Value.okWide at hval
      rw [hA] at hag
      split at hval
      · obtain ⟨cs, hv, _⟩ := hval; exact ⟨cs, hv⟩
      · obtain ⟨cs, hv, _⟩ := hval; exact ⟨cs, hv⟩
      · split at hag
        · simp_all
        · simp_all
        · cases hag
    obtain ⟨cs, rfl⟩ := hu
    refine .ag _ cs (fun j => cs.getD j undef) (by have := hr.1; simp [Value.cells] at this; exact this.symm) (fun j t hj => ?_) fun j t hj => ?_
    · obtain ⟨u, hu, _⟩ := hr.2 j t hj
      simp only [Value.cells, Array.getElem?_toList] at hu
      simp [hu]
    · obtain ⟨u, hu, hr'⟩ := hr.2 j t hj
      simp only [Value.cells, Array.getElem?_toList] at hu
      simpa [hu] using hr'
  | false =>
    have hs := tr_single (I := I) (φ := φ) A hA x
    rw [hs] at hr
    obtain ⟨u, hu, hr'⟩ := hr.2 0 _ rfl
    have hlen := hr.1
    have hcs : v.cells.toList = [u] := by
      cases hc : v.cells.toList with
      | nil => rw [hc] at hu; simp at hu
      | cons y ys =>
        rw [hc] at hu hlen
        cases ys with
        | nil => simp only [List.getElem?_cons_zero, Option.some.injEq] at hu; subst hu; rfl
        | cons z zs => simp at hlen
    rcases cells_one hcs with rfl | rfl
    · exact hr'
    · exfalso
      rw [hA] at hag
      unfold Value.okWide at hval
      unfold Eng.aggOf at hag
      split at hval
      · rename_i h1; rw [h1] at hag; cases hag
      · rename_i h1; rw [h1] at hag; cases hag
      · unfold Cell.okWide Cell.ok at hval
        simp only at hval
        split at hval <;> simp_all
theorem rd_args {H : Type} {enc : TypeId × Value → H} {w : World} {spare : Nat → Bool} {held : Bool} {r : Reach} {b0 : Nat} :
    ∀ (ts : List TypeId) (As : List Ty) (vs : List Value) (ds : List (DataW H)) (ps : List MemPlace), rdAll P ts As = true → DataW.TrodAll enc P w 0 spare held ts vs ds ps →
      (∀ (j : Nat) t v, ts[j]? = some t → vs[j]? = some v → Value.okWide P w r b0 t v) → (∀ m ∈ DataW.weightsEach P ts ds, m ≤ reachBytes) →
      ∃ ls : List L, ls.map (·.ty) = As ∧ (∀ l ∈ ls, Wf P.bytesOf l.ty l.val) ∧ vs.length = ls.length ∧ ds.length = ts.length ∧ ∀ (j : Nat) l, ls[j]? = some l → ∃ u, vs[j]? = some u ∧ RepT P w (fun b => b < w.heap.size) (trL I φ l) u
  | [], [], vs, ds, ps, _, h, _, _ => by
    cases vs <;> cases ds <;> simp_all [DataW.TrodAll]
  | t :: ts, A :: As, vs, ds, ps, h, hT, hval, hm => by
    simp only [rdAll, Bool.and_eq_true] at h
    obtain ⟨v, vs', d, ds', p, q, rfl, rfl, rfl, hd, hrest⟩ := trodAll_cons hT
    obtain ⟨fuel, hf⟩ := hd
    obtain ⟨x, hx1, hx2⟩ := rd_ok (I := I) (φ := φ) 24 t A h.1 fuel _ d p hf (fun m hm' => hm m (by simp only [DataW.weightsEach, List.mem_append]; exact .inl hm'))
    obtain ⟨ls, h1, h2, h3, h5, h4⟩ := rd_args ts As vs' ds' q h.2.2.2.2 hrest (fun j t v ht hv => hval (j + 1) t v (by simpa using ht) (by simpa using hv)) (fun m hm' => hm m (by simp only [DataW.weightsEach, List.mem_append]; exact .inr hm'))
    refine ⟨⟨A, x⟩ :: ls, by simp [h1], ?_, by simp [h3], by simp [h5], ?_⟩
    · intro l hl
      rcases List.mem_cons.1 hl with rfl | hl
      · exact hx1
      · exact h2 l hl
    · intro j l hj
      cases j with
      | zero =>
        simp only [List.getElem?_cons_zero, Option.some.injEq] at hj
        subst hj
        exact ⟨v, rfl, rd_value (enc := enc) h.1 (by simpa using h.2.2.2.1) (hval 0 t v rfl rfl) hx2⟩
      | succ j => exact h4 j l (by simpa using hj)
  | [], _ :: _, _, _, _, h, _, _, _ => by simp [rdAll] at h
  | _ :: _, [], _, _, _, h, _, _, _ => by simp [rdAll] at h
theorem rd_back {H : Type} {enc : TypeId × Value → H} {W W' : World} (hl : laidOutB P = true) (hb : Below W.heap.size W W') :
    ∀ (ts : List TypeId) (As : List Ty) (vs : List Value) (ds : List (DataW H)) (ps : List MemPlace), rdAll P ts As = true → DataW.TrodAll enc P W 0 (fun _ => true) true ts vs ds ps →
      DataW.TrodAll enc P W' 0 (fun b => decide (b < W.heap.size)) true ts vs ds ps
  | [], [], vs, ds, ps, _, h => by
    cases vs <;> cases ds <;> simp_all [DataW.TrodAll]
  | t :: ts, A :: As, vs, ds, ps, h, hT => by
    simp only [rdAll, Bool.and_eq_true] at h
    obtain ⟨v, vs', d, ds', p, q, rfl, rfl, rfl, hd, hrest⟩ := trodAll_cons hT
    refine ⟨p, q, Below.trod hl h.2.1 (by have := h.2.2.1; rwa [Nat.blt_eq] at this) hd hb ?_, rd_back hl hb ts As vs' ds' q h.2.2.2.2 hrest, rfl⟩
    obtain ⟨fuel, hf⟩ := hd
    exact DataW.trod_lt fuel _ _ _ hf
  | [], _ :: _, _, _, _, h, _ => by simp [rdAll] at h
  | _ :: _, [], _, _, _, h, _ => by simp [rdAll] at h
theorem tupL_wf (by_ : TypeId → Nat) : ∀ (vs : List L), (∀ l ∈ vs, Wf by_ l.ty l.val) → Wf by_ (tupL vs).ty (tupL vs).val
  | [], _ => trivial
  | [v], h => h v (by simp)
  | v :: w :: r, h => ⟨h v (by simp), tupL_wf by_ (w :: r) fun l hl => h l (by simp [hl])⟩
def boolOut : St Ty := ⟨[(0, .lf .bool)], [], []⟩
theorem law_calls {H : Type} {enc : TypeId × Value → H} {f : FuncId} {fn : Func} {s : ChangeSpec} {As : List Ty} {F : Nat → (tupTy As).den → Option Bool} {ins : St Ty}
    (hl : laidOutB P = true) (hrd : rdAll P fn.params.toList As = true) (hvars : s.vars = []) (hspec : ∀ ds : List (DataW H), ds.length = fn.params.toList.length → s.fn H ds = { results := [.lit (.bool true)], args := ds })
    (hres : ∃ t, fn.resultTypes = #[t] ∧ P.underlying t = some .bool) (hins : leafs ins = As)
    (hOk : ∀ N, FnOk P I φ f ⟨ins, boolOut, false⟩ ⟨tupTy As, .bool, F N⟩)
    (pure : ∀ x : (tupTy As).den, Wf P.bytesOf (tupTy As) x → ∃ N, F N x = some true)
    {W : World} {base : Nat} {args : Array Value} {ds gs : List (DataW H)} {before : List MemPlace}
    (hval : ∀ (j : Nat) t v, fn.params[j]? = some t → args[j]? = some v → Value.okWide P W .any base t v)
    (hW : DataW.Whole enc P fn.params.toList s.vars false W args.toList ds gs before)
    (hsz : (DataW.weightsEach P (fn.params.toList ++ s.plain.varTypes P) (ds ++ gs)).all (· ≤ reachBytes) = true) :
    Calls P f args W fun e W' => ∃ v, e = .returned v ∧ s.post enc P fn false true false false W args v W' := by
  have hW' := hW
  obtain ⟨p, q, hA, hV, rfl, hfz, hnd⟩ := hW
  rw [hvars] at hV
  obtain ⟨rfl, rfl⟩ := trodVars_none hV
  have hm : ∀ m ∈ DataW.weightsEach P fn.params.toList ds, m ≤ reachBytes := by
    intro m hm
    have hvt : s.plain.varTypes P = [] := by
      have : s.plain.vars = [] := hvars
      unfold DataSpec.varTypes
      rw [this]; rfl
    rw [hvt, List.append_nil, List.append_nil] at hsz
    simpa using List.all_eq_true.1 hsz m hm
  obtain ⟨ls, h1, h2, h3, h5, h4⟩ := rd_args (I := I) (φ := φ) fn.params.toList As args.toList ds p hrd hA (fun j t v ht hv => hval j t v (by simpa using ht) (by simpa using hv)) hm
  have hx : ∃ x, (tupL ls).as (tupTy As) = some x ∧ Wf P.bytesOf (tupTy As) x := by
    rw [← h1, ← tupL_ty]
    exact ⟨_, as_self _, tupL_wf _ ls h2⟩
  obtain ⟨x, hx1, hx2⟩ := hx
  obtain ⟨N, hN⟩ := pure x hx2
  refine ((hOk N).run x true hN ls hx1 (by rw [h1]; exact hins.symm) W (fun b => b < W.heap.size) args (fun b hb => hb) (by simpa using h3) (fun j l hj => by
    obtain ⟨u, hu, hr⟩ := h4 j l hj
    exact ⟨u, by simpa using hu, hr⟩)).mono fun e W' ⟨u, he, g', rs, hrs, hinv, hrep⟩ => ?_
  have hrs := hrs []
  have hrs : some [(⟨.bool, true⟩ : L)] = some rs := hrs
  simp only [Option.some.injEq] at hrs
  subst hrs
  have hu := hrep (.lf ⟨.bool, true⟩) rfl
  have hu := repB (arep_lf hu)
  subst hu
  have bel : Below W.heap.size W W' := ⟨hinv.k.os, hinv.k.tape, hinv.k.output, hinv.k.size, fun b hb => hinv.k.block b hb (fun h => h)⟩
  obtain ⟨t, ht1, ht2⟩ := hres
  have hsp := hspec ds h5
  refine ⟨_, he, ds, [], _, [], p, [], hW', ?_, ?_, ?_, bel.frame _, fun h => by cases h⟩
  · rw [List.append_nil, hsp, ht1]
    exact trodAll_mk1 (shut_bool ht2 _)
  · rw [List.append_nil, hsp]
    exact rd_back hl bel _ _ _ _ _ hrd hA
  · rw [List.append_nil, hsp, hvars]
    rfl
end Go.Y
namespace Go.Y
variable {α β ρ : Type}
theorem wr_i64 {n : Int} (h0 : -9223372036854775808 ≤ n) (h1 : n ≤ 9223372036854775807) : wr .i64 n = n := by
  show (if true && decide (n % (2 ^ 64 : Int) ≥ (2 ^ 63 : Int)) then n % (2 ^ 64 : Int) - (2 ^ 64 : Int) else n % (2 ^ 64 : Int)) = n
  simp only [Bool.true_and, decide_eq_true_eq]
  split <;> omega
theorem wr_u64_mod (n : Int) : wr .u64 n = n % 18446744073709551616 := rfl
theorem wr_u64 {n : Int} (h0 : 0 ≤ n) (h1 : n ≤ 18446744073709551615) : wr .u64 n = n := by rw [wr_u64_mod]; omega
theorem wr_u8_mod (n : Int) : wr .u8 n = n % 256 := rfl
theorem wr_u8 {n : Int} (h0 : 0 ≤ n) (h1 : n ≤ 255) : wr .u8 n = n := by rw [wr_u8_mod]; omega
theorem wr_succ {i m : Nat} (h : i < m) (hm : m ≤ 9223372036854775807) : wr .i64 ((i : Int) + 1) = ((i + 1 : Nat) : Int) := by
  rw [wr_i64 (by omega) (by omega)]; omega
@[simp] theorem pIf_t (a b : Option ρ) : pIf true a b = a := rfl
@[simp] theorem pIf_f (a b : Option ρ) : pIf false a b = b := rfl
@[simp] theorem pCk_t (k : Option ρ) : pCk true k = k := rfl
@[simp] theorem pCall_s (x : α) (k : α → Option ρ) : pCall (some x) k = k x := rfl
@[simp] theorem pCallG_t (d : α) (o : Option α) (k : α → Option ρ) : pCallG true d o k = pCall o k := rfl
@[simp] theorem pCallG_f (d : α) (o : Option α) (k : α → Option ρ) : pCallG false d o k = k d := rfl
@[simp] theorem pIdxG_t (d : α) (xs : List α) (i : Int) (k : α → Option ρ) : pIdxG true d xs i k = pIdx xs i k := rfl
@[simp] theorem pIdxG_f (d : α) (xs : List α) (i : Int) (k : α → Option ρ) : pIdxG false d xs i k = k d := rfl
@[simp] theorem pLet_ (a : α) (k : α → Option ρ) : pLet a k = k a := rfl
@[simp] theorem pJoin_ (k : α → Option ρ) (b : (α → Option ρ) → Option ρ) : pJoin k b = b k := rfl
@[simp] theorem pick_t (a b : α) : pick true a b = a := rfl
@[simp] theorem pick_f (a b : α) : pick false a b = b := rfl
theorem pick_and (a b : Bool) : pick a b false = (a && b) := by cases a <;> rfl
theorem pick_or (a b : Bool) : pick a true b = (a || b) := by cases a <;> rfl
@[simp] theorem len_ (xs : List α) : len xs = (xs.length : Int) := rfl
theorem ix_nat {xs : List α} {i : Nat} : ix xs (i : Int) = xs[i]? := by
  unfold ix
  rw [decide_eq_true (Int.natCast_nonneg i), Int.toNat_natCast]
theorem pIdx_nat {xs : List α} {i : Nat} {x : α} (h : xs[i]? = some x) (k : α → Option ρ) : pIdx xs (i : Int) k = k x := by
  unfold pIdx; rw [ix_nat, h]; rfl
theorem pIdx_lt {xs : List α} {i : Nat} (h : i < xs.length) (k : α → Option ρ) : pIdx xs (i : Int) k = k xs[i] :=
  pIdx_nat (List.getElem?_eq_getElem h) k
theorem pIdx_int {xs : List α} {i : Int} (h0 : 0 ≤ i) (h : i.toNat < xs.length) (k : α → Option ρ) : pIdx xs i k = k xs[i.toNat] := by
  have := pIdx_lt h k
  rwa [Int.toNat_of_nonneg h0] at this
theorem room_of {b : Nat} {n : Int} (h : n * b ≤ 140737488355328) (h1 : n ≤ 140737488355328) : room b n = true := by
  unfold room; rw [decide_eq_true h, decide_eq_true h1]; rfl
end Go.Y
namespace Go.Y
abbrev Val := Int × (Bool × Int) × (Int × Int) × Int
abbrev Stt := Bool × List Val × List (List Int)
def riseB (n : Int) : Int → List Int → Bool
  | _, [] => true
  | last, x :: r => decide (last < x) && (decide (x < n) && riseB n x r)
def setR (n : Int) (s : List Int) : Bool := decide (0 ≤ n) && (decide (n ≤ 4096) && riseB n (-1) s)
theorem bits_Right_loop (N : Nat) (k0 : Unit → Option Bool) (k1 : Bool → Option Bool) (n0 : Int) (s : List Int) (hs : s.length ≤ 4611686018427387904) :
    ∀ (n i : Nat) (last : Int), i ≤ s.length → s.length < n + i → bits_Right_l6 N k0 k1 n n0 last s s.length i = if riseB n0 last (s.drop i) then k0 () else k1 false := by
  intro n
  induction n with
  | zero => intro i last h1 h2; omega
  | succ n ih =>
    intro i last h1 h2
    unfold bits_Right_l6
    by_cases hi : i < s.length
    · rw [decide_eq_true (by omega), pIf_t, pIdx_lt hi, List.drop_eq_getElem_cons hi]
      simp only [pLet_, pick_or, riseB]
      by_cases h3 : s[i] ≤ last
      · simp [h3, show ¬ last < s[i] by omega]
      · by_cases h4 : n0 ≤ s[i]
        · simp [h3, h4, show ¬ s[i] < n0 by omega]
        · simp only [h3, h4, decide_false, Bool.or_self, pIf_f]
          rw [wr_succ hi (by omega), ih (i + 1) s[i] (by omega) (by omega)]
          simp [show last < s[i] by omega, show s[i] < n0 by omega]
    · have : i = s.length := by omega
      subst this
      simp [riseB]
theorem bits_Right_ok {N : Nat} {n : Int} {s : List Int} (hs : s.length ≤ 4611686018427387904) (hN : s.length < N) : bits_Right N n s = some (setR n s) := by
  unfold bits_Right
  simp only [pLet_, pick_or, len_]
  unfold setR
  by_cases h1 : n < 0
  · simp [h1, show ¬ 0 ≤ n by omega]
  · by_cases h2 : 4096 < n
    · simp [h2, show ¬ n ≤ 4096 by omega]
    · simp only [h1, h2, decide_false, Bool.or_self, pIf_f]
      rw [show (0 : Int) = ((0 : Nat) : Int) from rfl, bits_Right_loop N _ _ n s hs N 0 (-1) (by omega) (by omega)]
      simp only [List.drop_zero]
      cases riseB n (-1) s <;> simp <;> omega
theorem riseB_prev (n : Int) (l : List Int) : ∀ last, last < -1 → True := fun _ _ => trivial
theorem ref03_Right_loop (N : Nat) (k0 : Unit → Option Bool) (k1 : Bool → Option Bool) (n0 : Int) (s : List Int) (hs : s.length ≤ 4611686018427387904) :
    ∀ (n i : Nat) (last : Int), i ≤ s.length → s.length < n + i → -1 ≤ last → (i = 0 → last = -1) → (∀ j, i = j + 1 → s[j]? = some last) →
      avermentref03_Right_l5 N k0 k1 n n0 s i = if riseB n0 last (s.drop i) then k0 () else k1 false := by
  intro n
  induction n with
  | zero => intro i last h1 h2; omega
  | succ n ih =>
    intro i last h1 h2 h3 h4 h5
    unfold avermentref03_Right_l5
    by_cases hi : i < s.length
    · rw [len_, decide_eq_true (by omega), pIf_t, pIdx_lt hi, List.drop_eq_getElem_cons hi]
      have hgo : last < s[i] → s[i] < n0 → avermentref03_Right_l5 N k0 k1 n n0 s (wr .i64 (i + 1)) = if riseB n0 s[i] (s.drop (i + 1)) then k0 () else k1 false := by
        intro h6 h7
        rw [wr_succ hi (by omega)]
        exact ih (i + 1) s[i] (by omega) (by omega) (by omega) (by omega) (fun j hj => by obtain rfl : i = j := by omega
                                                                                          exact List.getElem?_eq_getElem hi)
      simp only [riseB, pick_or, pick_and, pLet_]
      by_cases hx : s[i] < 0
      · simp [hx, show ¬ last < s[i] by omega]
      · simp only [hx, decide_false, Bool.not_false, pIdxG_t, Bool.false_or]
        rw [pIdx_lt hi]
        by_cases hn : n0 ≤ s[i]
        · simp [hn, show ¬ s[i] < n0 by omega]
        · simp only [hn, decide_false, Bool.not_false, Bool.true_and, Bool.false_or]
          cases i with
          | zero =>
            have := h4 rfl
            subst this
            rw [hgo (by omega) (by omega)]
            simp only [show (-1 : Int) < s[0] by omega, show s[0] < n0 by omega, decide_true, Bool.true_and]
            rfl
          | succ j =>
            have hj := h5 j rfl
            rw [show decide ((0 : Int) < ((j + 1 : Nat) : Int)) = true by simp]
            simp only [pIdxG_t, Bool.true_and]
            rw [pIdx_lt hi, wr_i64 (by omega) (by omega), show (((j + 1 : Nat) : Int) - 1) = (j : Int) by omega, pIdx_nat hj]
            by_cases h8 : s[j + 1] ≤ last
            · simp [h8, show ¬ last < s[j + 1] by omega]
            · rw [hgo (by omega) (by omega)]
              simp [h8, show last < s[j + 1] by omega, show s[j + 1] < n0 by omega]
    · have : i = s.length := by omega
      subst this
      simp [riseB]
theorem ref03_Right_ok {N : Nat} {n : Int} {s : List Int} (hs : s.length ≤ 4611686018427387904) (hN : s.length < N) : avermentref03_Right N n s = some (setR n s) := by
  unfold avermentref03_Right
  simp only [pLet_, pick_or]
  unfold setR
  by_cases h1 : n < 0
  · simp [h1, show ¬ 0 ≤ n by omega]
  · by_cases h2 : 4096 < n
    · simp [h2, show ¬ n ≤ 4096 by omega]
    · simp only [h1, h2, decide_false, Bool.or_self, pIf_f]
      rw [show (0 : Int) = ((0 : Nat) : Int) from rfl, ref03_Right_loop N _ _ n s hs N 0 (-1) (by omega) (by omega) (by omega) (fun _ => rfl) (fun j hj => by omega)]
      simp only [List.drop_zero]
      cases riseB n (-1) s <;> simp <;> omega
def valR (v : Val) : Bool := decide (1 ≤ v.1) && (decide (v.1 ≤ 7) && ((v.2.1.1 || decide (v.2.1.2 = 0)) && (decide (v.2.2.1.1 ≤ v.2.2.1.2) && (decide (1 ≤ v.2.2.2) && decide (v.2.2.2 ≤ 3)))))
theorem fact_Right_ok (N : Nat) (v : Val) : fact_Right N v = some (valR v) := by
  obtain ⟨s, ⟨kb, kn⟩, ⟨lo, hi⟩, p⟩ := v
  unfold fact_Right sign_Right known_Right known_Known_tidy span_Right parity_Right valR
  simp only [pLet_, pick_and, pCall_s, pJoin_]
  by_cases h1 : 1 ≤ s <;> by_cases h2 : s ≤ 7 <;> cases kb <;> by_cases h3 : kn = 0 <;> by_cases h4 : lo ≤ hi <;> simp [h1, h2, h3, h4]
theorem ref12_Right_ok (N : Nat) (v : Val) : avermentref12_Right N v = some (valR v) := by
  obtain ⟨s, ⟨kb, kn⟩, ⟨lo, hi⟩, p⟩ := v
  unfold avermentref12_Right valR
  simp only [pLet_, pick_and, pick_or]
  simp only [Bool.and_assoc]
theorem IndexFunc_loop {α : Type} (L : Nat → (Unit → Option Int) → (Int → Option Int) → Nat → List α → (α → Option Bool) → Int → Int → Option Int)
    (h0 : ∀ N k0 k1 n s f t i, L N k0 k1 (n + 1) s f t i = pIf (decide (i < t)) (pIdx s i fun x0 => pCall (f x0) fun x1 => pIf x1 (k1 i) (L N k0 k1 n s f t (wr .i64 (i + 1)))) (k0 ()))
    (N : Nat) (k0 : Unit → Option Int) (k1 : Int → Option Int) (s : List α) (f : α → Option Bool) (p : α → Bool) (hf : ∀ x ∈ s, f x = some (p x)) (hs : s.length ≤ 4611686018427387904) :
    ∀ (n i : Nat), i ≤ s.length → s.length < n + i → L N k0 k1 n s f s.length i = match (s.drop i).findIdx? p with | some j => k1 ((i + j : Nat) : Int) | none => k0 () := by
  intro n
  induction n with
  | zero => intro i h1 h2; omega
  | succ n ih =>
    intro i h1 h2
    rw [h0]
    by_cases hi : i < s.length
    · rw [decide_eq_true (by omega), pIf_t, pIdx_lt hi, List.drop_eq_getElem_cons hi, hf _ (List.getElem_mem hi), pCall_s, List.findIdx?_cons]
      cases p s[i] with
      | true => simp
      | false =>
        rw [pIf_f, wr_succ hi (by omega), ih (i + 1) (by omega) (by omega)]
        cases (List.drop (i + 1) s).findIdx? p with
        | none => rfl
        | some j => simp; congr 1; omega
    · have : i = s.length := by omega
      subst this
      simp
theorem any_find {α : Type} (p : α → Bool) (s : List α) : s.any p = (s.findIdx? p).isSome := by
  induction s with
  | nil => rfl
  | cons x r ih =>
    rw [List.any_cons, ih, List.findIdx?_cons]
    cases p x <;> simp
theorem state_contains {N : Nat} {s : List Val} {f : Val → Option Bool} {p : Val → Bool} (hf : ∀ x ∈ s, f x = some (p x)) (hs : s.length ≤ 4611686018427387904) (hN : s.length < N) :
    slices_ContainsFunc_fact_Value_fact_Value N s f = some (s.any p) := by
  unfold slices_ContainsFunc_fact_Value_fact_Value slices_IndexFunc_fact_Value_fact_Value
  have := IndexFunc_loop slices_IndexFunc_fact_Value_fact_Value_l3 (fun N k0 k1 n s f t i => rfl) N (fun x0 => some (-1)) (fun x0 => some x0) s f p hf hs N 0 (by omega) (by omega)
  rw [len_, show (0 : Int) = ((0 : Nat) : Int) from rfl, this]
  rw [List.drop_zero]
  rw [any_find]
  cases s.findIdx? p with
  | none => rfl
  | some j => simp only [pCall_s]; rw [decide_eq_true (by omega)]; rfl
end Go.Y
namespace Go.Y
theorem told_ok (N : Nat) : avermentlaw13_told (N + 20) = some true := by rfl
def stR (s : Stt) (regs sites : Int) : Bool :=
  let r : Int := if s.1 then regs else 0
  decide ((s.2.1.length : Int) = r) && (decide ((s.2.2.length : Int) = r) && (s.2.2.all (setR sites) && s.2.1.all valR))
theorem state_Right_loop {N : Nat} (k0 : Stt → Option Bool) (k1 : Bool → Option Bool) (sites : Int) (l : List (List Int)) (s : Stt) (hl : l.length ≤ 4611686018427387904) (hs : ∀ x ∈ l, x.length ≤ 4611686018427387904 ∧ x.length < N) :
    ∀ (n i : Nat), i ≤ l.length → l.length < n + i → state_Right_l7 N k0 k1 n sites l l.length i s.1 s.2.1 s.2.2 = if (l.drop i).all (setR sites) then k0 s else k1 false := by
  intro n
  induction n with
  | zero => intro i h1 h2; omega
  | succ n ih =>
    intro i h1 h2
    unfold state_Right_l7
    by_cases hi : i < l.length
    · have hm := hs _ (List.getElem_mem hi)
      rw [decide_eq_true (by omega), pIf_t, pIdx_lt hi, List.drop_eq_getElem_cons hi, bits_Right_ok hm.1 hm.2, pCall_s, List.all_cons]
      cases setR sites l[i] with
      | false => rfl
      | true => rw [Bool.not_true, pIf_f, wr_succ hi (by omega), ih (i + 1) (by omega) (by omega)]; rfl
    · have : i = l.length := by omega
      subst this
      simp
theorem state_Right_1_ok (N : Nat) (v : Val) : state_Right_1 N v = some (!valR v) := by
  unfold state_Right_1
  rw [fact_Right_ok]; rfl
def SttLen (s : Stt) (N : Nat) : Prop := s.2.1.length < N ∧ s.2.2.length < N ∧ ∀ x ∈ s.2.2, x.length < N
theorem state_Right_ok {N : Nat} {s : Stt} {regs sites : Int} (h : SttLen s N) (hb : SttLen s 4611686018427387904) : state_Right N s regs sites = some (stR s regs sites) := by
  unfold state_Right
  simp only [pJoin_, pLet_, pick_or, len_]
  have key : ∀ r : Int, (pIf (!decide ((s.2.1.length : Int) = r) || !decide ((s.2.2.length : Int) = r)) (some false)
      (state_Right_l7 N (fun x2 => pCall (slices_ContainsFunc_fact_Value_fact_Value N x2.2.1 fun x => state_Right_1 N x) fun x3 => some (!x3)) (fun x2 => some x2) N sites s.2.2 s.2.2.length 0 s.1 s.2.1 s.2.2)) =
      some (decide ((s.2.1.length : Int) = r) && (decide ((s.2.2.length : Int) = r) && (s.2.2.all (setR sites) && s.2.1.all valR))) := by
    intro r
    by_cases h1 : (s.2.1.length : Int) = r
    · by_cases h2 : (s.2.2.length : Int) = r
      · simp only [h1, h2, decide_true, Bool.not_true, Bool.or_self, pIf_f, Bool.true_and]
        rw [show (0 : Int) = ((0 : Nat) : Int) from rfl, ← h2, state_Right_loop _ _ sites s.2.2 s (by have := hb.2.1; omega) (fun x hx => ⟨by have := hb.2.2 x hx; omega, h.2.2 x hx⟩) N 0 (by omega) (by have := h.2.1; omega)]
        rw [List.drop_zero]
        cases s.2.2.all (setR sites) with
        | false => rfl
        | true =>
          rw [if_pos rfl, state_contains (p := fun v => !valR v) (fun x _ => state_Right_1_ok N x) (by have := hb.1; omega) h.1, pCall_s, List.not_any_eq_all_not]
          simp
      · simp [h1, h2]
    · simp [h1]
  obtain ⟨re, vs, ss⟩ := s
  unfold stR
  cases re with
  | true => exact key regs
  | false => exact key 0
theorem ref13_Right_loop {N : Nat} (k0 : Unit → Option Bool) (k1 : Bool → Option Bool) (sites : Int) (s : Stt) (hl : s.2.1.length = s.2.2.length) (hb : SttLen s 4611686018427387904) (hs : ∀ x ∈ s.2.2, x.length < N) :
    ∀ (n i : Nat), i ≤ s.2.1.length → s.2.1.length < n + i → avermentref13_Right_l7 N k0 k1 n s.2.1.length sites i s.1 s.2.1 s.2.2 = if (s.2.2.drop i).all (setR sites) && (s.2.1.drop i).all valR then k0 () else k1 false := by
  intro n
  induction n with
  | zero => intro i h1 h2; omega
  | succ n ih =>
    intro i h1 h2
    unfold avermentref13_Right_l7
    by_cases hi : i < s.2.1.length
    · have hi2 : i < s.2.2.length := by omega
      have hm := hs _ (List.getElem_mem hi2)
      have hm2 := hb.2.2 _ (List.getElem_mem hi2)
      have hb1 := hb.1
      rw [decide_eq_true (by omega), pIf_t, pIdx_lt hi, List.drop_eq_getElem_cons hi, List.drop_eq_getElem_cons hi2, ref12_Right_ok, pCall_s, List.all_cons, List.all_cons]
      cases hv : valR s.2.1[i] with
      | false => simp [pick_or]
      | true =>
        simp only [Bool.not_true, Bool.not_false, pIdxG_t, pCallG_t, pLet_, pick_or, Bool.false_or, Bool.true_and]
        rw [pIdx_lt hi2, ref03_Right_ok (by omega) hm, pCall_s]
        cases setR sites s.2.2[i] with
        | false => simp
        | true =>
          rw [Bool.not_true, pIf_f, wr_succ hi (by omega), ih (i + 1) (by omega) (by omega), Bool.true_and]
    · have : i = s.2.1.length := by omega
      subst this
      rw [decide_eq_false (by omega), pIf_f, hl, List.drop_length, ← hl, List.drop_length]; rfl
theorem ref13_Right_ok {N : Nat} {s : Stt} {regs sites : Int} (h : SttLen s N) (hb : SttLen s 4611686018427387904) : avermentref13_Right N s regs sites = some (stR s regs sites) := by
  unfold avermentref13_Right stR
  obtain ⟨re, vs, ss⟩ := s
  cases re with
  | false =>
    simp only [Bool.not_false, pIf_t, pLet_, pick_and, len_, Bool.false_eq_true, if_false]
    cases vs with
    | cons a r => rw [decide_eq_false (by simp only [List.length_cons]; omega)]; rfl
    | nil =>
      cases ss with
      | nil => rfl
      | cons a r =>
        have : ¬ ((a :: r).length : Int) = 0 := by simp only [List.length_cons]; omega
        simp only [this, decide_false, Bool.and_false, Bool.false_and]
  | true =>
    simp only [Bool.not_true, pIf_f, pLet_, pick_or, len_, if_true]
    by_cases h1 : (vs.length : Int) = regs
    · by_cases h2 : (ss.length : Int) = regs
      · simp only [h1, h2, decide_true, Bool.not_true, Bool.or_self, pIf_f, Bool.true_and]
        rw [show (0 : Int) = ((0 : Nat) : Int) from rfl, ← h1]
        have := ref13_Right_loop (N := N) (fun x1 => some true) (fun x1 => some x1) sites (true, vs, ss) (by simp; omega) hb h.2.2 N 0 (by simp) (by have := h.1; simp at this ⊢; omega)
        rw [this]
        simp only [List.drop_zero]
        cases ss.all (setR sites) && vs.all valR <;> rfl
      · simp [h1, h2]
    · simp [h1]
end Go.Y
namespace Go.Y
def SttRoom (s : Stt) : Prop := s.2.1.length * 48 ≤ 140737488355328 ∧ s.2.2.length * 24 ≤ 140737488355328 ∧ ∀ x ∈ s.2.2, x.length * 8 ≤ 140737488355328
theorem law12_To_ok (N : Nat) (v : Val) : avermentlaw12_To N v = some v := rfl
theorem To_loop1 {N : Nat} (k0 : Bool × List Val × List (List Int) × Bool × List Val × List (List Int) × Bool × List Val × List (List Int) → Option Stt) (s t : Stt) (o0 : Bool) (o2 : List (List Int)) (h : SttRoom s) :
    ∀ (n i : Nat), i ≤ s.2.1.length → s.2.1.length < n + i → avermentlaw13_To_l4 N k0 n i s.1 s.2.1 s.2.2 t.1 t.2.1 t.2.2 o0 (s.2.1.take i) o2 = k0 (s.1, s.2.1, s.2.2, t.1, t.2.1, t.2.2, o0, s.2.1, o2) := by
  intro n
  induction n with
  | zero => intro i h1 h2; omega
  | succ n ih =>
    intro i h1 h2
    have hr := h.1
    unfold avermentlaw13_To_l4
    by_cases hi : i < s.2.1.length
    · rw [len_, decide_eq_true (by omega), pIf_t, pIdx_lt hi, law12_To_ok, pCall_s, room_of (by simp; omega) (by simp; omega), pCk_t, List.take_append_getElem hi, wr_succ hi (by omega), ih (i + 1) (by omega) (by omega)]
    · have : i = s.2.1.length := by omega
      subst this
      rw [len_, decide_eq_false (by omega), pIf_f, List.take_length]
theorem To_loop2 {N : Nat} (k0 : Bool × List Val × List (List Int) × Bool × List Val × List (List Int) → Option Stt) (s t : Stt) (o0 : Bool) (o1 : List Val) (h : SttRoom s) :
    ∀ (n i : Nat), i ≤ s.2.2.length → s.2.2.length < n + i → avermentlaw13_To_l8 N k0 n i s.1 s.2.1 s.2.2 t.1 t.2.1 t.2.2 o0 o1 (s.2.2.take i) = k0 (t.1, t.2.1, t.2.2, o0, o1, s.2.2) := by
  intro n
  induction n with
  | zero => intro i h1 h2; omega
  | succ n ih =>
    intro i h1 h2
    have hr := h.2.1
    unfold avermentlaw13_To_l8
    by_cases hi : i < s.2.2.length
    · have hx := h.2.2 _ (List.getElem_mem hi)
      rw [len_, decide_eq_true (by omega), pIf_t, pIdx_lt hi, List.nil_append, room_of (by simp; omega) (by simp; omega), pCk_t, room_of (by simp; omega) (by simp; omega), pCk_t, List.take_append_getElem hi, wr_succ hi (by omega), ih (i + 1) (by omega) (by omega)]
    · have : i = s.2.2.length := by omega
      subst this
      rw [len_, decide_eq_false (by omega), pIf_f, List.take_length]
theorem To_ok {N : Nat} {s : Stt} (h : SttLen s N) (hr : SttRoom s) : avermentlaw13_To N s = some s := by
  unfold avermentlaw13_To
  have h1 := To_loop1 (N := N) (fun x0 => avermentlaw13_To_l8 N (fun x1 => some (x1.2.2.2.1, x1.2.2.2.2.1, x1.2.2.2.2.2)) N 0 x0.1 x0.2.1 x0.2.2.1 x0.2.2.2.1 x0.2.2.2.2.1 x0.2.2.2.2.2.1 x0.2.2.2.2.2.2.1 x0.2.2.2.2.2.2.2.1 x0.2.2.2.2.2.2.2.2) s (false, [], []) s.1 [] hr N 0 (by omega) (by have := h.1; omega)
  have h2 := To_loop2 (N := N) (fun x1 => some (x1.2.2.2.1, x1.2.2.2.2.1, x1.2.2.2.2.2)) s (false, [], []) s.1 s.2.1 hr N 0 (by omega) (by have := h.2.1; omega)
  rw [List.take_zero] at h1 h2
  exact h1.trans h2
theorem Rise_in {N : Nat} (k0 : List Int × Int × Int × List Int → Option (List Int)) (l out : List Int) (i : Nat) (hi : i < l.length) (ho : out.length ≤ 4611686018427387904) :
    ∀ (n at_ : Nat), at_ ≤ out.length → out.length < n + at_ → (∀ j x, out[j]? = some x → j < at_ → x < l[i]) →
      ∃ a, a ≤ out.length ∧ (∀ j x, out[j]? = some x → j < a → x < l[i]) ∧ (∀ x, out[a]? = some x → l[i] ≤ x) ∧ avermentref04_Rise_l7 N k0 n l i at_ out = k0 (l, i, a, out) := by
  intro n
  induction n with
  | zero => intro a h1 h2; omega
  | succ n ih =>
    intro a h1 h2 h3
    unfold avermentref04_Rise_l7
    by_cases ha : a < out.length
    · simp only [len_, decide_eq_true (show ((a : Nat) : Int) < out.length by omega), decide_eq_true (show (0 : Int) ≤ (a : Nat) by omega), Bool.and_self, Bool.or_true, pCk_t, pIdxG_t, pick_t, pLet_]
      rw [pIdx_lt ha, pIdx_lt hi]
      by_cases hx : out[a] < l[i]
      · rw [decide_eq_true hx, pIf_t, wr_succ ha (by omega)]
        refine ih (a + 1) (by omega) (by omega) fun j x hj hja => ?_
        by_cases hje : j = a
        · subst hje
          rw [List.getElem?_eq_getElem ha, Option.some.injEq] at hj
          omega
        · exact h3 j x hj (by omega)
      · rw [decide_eq_false hx, pIf_f]
        exact ⟨a, h1, h3, fun x hx' => by rw [List.getElem?_eq_getElem ha, Option.some.injEq] at hx'; omega, rfl⟩
    · have : a = out.length := by omega
      subst this
      simp only [len_, Int.lt_irrefl, decide_false, Bool.not_false, Bool.true_or, pCk_t, pIdxG_f, pick_f, pLet_, pIf_f]
      exact ⟨_, h1, h3, fun x hx => by simp at hx, rfl⟩
def Inc (l : List Int) : Prop := l.Pairwise (· < ·)
theorem inc_insert {out : List Int} {v : Int} {a : Nat} (h : Inc out) (ha : a ≤ out.length) (h1 : ∀ j x, out[j]? = some x → j < a → x < v) (h2 : ∀ x, out[a]? = some x → v < x) : Inc (out.take a ++ [v] ++ out.drop a) := by
  have hall : ∀ x ∈ out.drop a, v < x := by
    intro x hx
    cases hd : out.drop a with
    | nil => rw [hd] at hx; simp at hx
    | cons y r =>
      have hy : out[a]? = some y := by
        have := List.head?_drop (l := out) (i := a)
        rw [hd] at this; simpa using this.symm
      have hvy := h2 y hy
      have hs : (out.drop a).Pairwise (· < ·) := h.sublist (List.drop_sublist a out)
      rw [hd] at hs hx
      rcases List.mem_cons.1 hx with rfl | hx
      · exact hvy
      · have := (List.pairwise_cons.1 hs).1 x hx
        omega
  have hlow : ∀ x ∈ out.take a, x < v := by
    intro x hx
    obtain ⟨j, hj⟩ := List.getElem?_of_mem hx
    rw [List.getElem?_take] at hj
    split at hj
    · exact h1 j x hj (by omega)
    · cases hj
  unfold Inc
  rw [List.append_assoc, List.singleton_append, List.pairwise_append]
  refine ⟨h.sublist (List.take_sublist a out), List.pairwise_cons.2 ⟨hall, h.sublist (List.drop_sublist a out)⟩, fun x hx y hy => ?_⟩
  rcases List.mem_cons.1 hy with rfl | hy
  · exact hlow x hx
  · have := hlow x hx
    have := hall y hy
    omega
theorem Rise_out {N : Nat} (k0 : List Int → Option (List Int)) (l : List Int) (hl : l.length * 8 ≤ 140737488355328) (hN : l.length < N) :
    ∀ (n i : Nat) (out : List Int), i ≤ l.length → l.length < n + i → out.length ≤ i → Inc out → (∀ x, x ∈ out ↔ x ∈ l.take i) →
      ∃ out', out'.length ≤ l.length ∧ Inc out' ∧ (∀ x, x ∈ out' ↔ x ∈ l) ∧ avermentref04_Rise_l4 N k0 n l i out = k0 out' := by
  intro n
  induction n with
  | zero => intro i out h1 h2; omega
  | succ n ih =>
    intro i out h1 h2 h3 h4 h5
    unfold avermentref04_Rise_l4
    by_cases hi : i < l.length
    · rw [len_, decide_eq_true (by omega), pIf_t, pJoin_]
      obtain ⟨a, ha, hlow, hhigh, he⟩ := Rise_in (N := N) (fun x1 => pCk (!(decide (x1.2.2.1 < (len x1.2.2.2))) || ((decide (0 ≤ x1.2.2.1)) && (decide (x1.2.2.1 < (len x1.2.2.2))))) <|
          pIdxG (decide (x1.2.2.1 < (len x1.2.2.2))) 0 x1.2.2.2 x1.2.2.1 fun x2 =>
          pIdxG (decide (x1.2.2.1 < (len x1.2.2.2))) 0 x1.1 x1.2.1 fun x3 =>
          pLet (pick (decide (x1.2.2.1 < (len x1.2.2.2))) (decide (x2 = x3)) false) fun x4 =>
          pIf x4
            (avermentref04_Rise_l4 N k0 n x1.1 (wr .i64 (x1.2.1 + 1)) x1.2.2.2)
            (pIdx x1.1 x1.2.1 fun x5 =>
            pCk ((decide (0 ≤ x1.2.2.1)) && (decide (x1.2.2.1 ≤ (len x1.2.2.2)))) <|
            pCk ((decide (0 ≤ 0)) && (decide (0 ≤ x1.2.2.1))) <|
            pCk (room 8 (len ([] ++ (sub x1.2.2.2 0 x1.2.2.1)))) <|
            pCk (room 8 (len (([] ++ (sub x1.2.2.2 0 x1.2.2.1)) ++ [x5]))) <|
            pCk ((decide (0 ≤ (len x1.2.2.2))) && (decide ((len x1.2.2.2) ≤ (len x1.2.2.2)))) <|
            pCk ((decide (0 ≤ x1.2.2.1)) && (decide (x1.2.2.1 ≤ (len x1.2.2.2)))) <|
            pCk (room 8 (len ((([] ++ (sub x1.2.2.2 0 x1.2.2.1)) ++ [x5]) ++ (sub x1.2.2.2 x1.2.2.1 (len x1.2.2.2))))) <|
            avermentref04_Rise_l4 N k0 n x1.1 (wr .i64 (x1.2.1 + 1)) ((([] ++ (sub x1.2.2.2 0 x1.2.2.1)) ++ [x5]) ++ (sub x1.2.2.2 x1.2.2.1 (len x1.2.2.2))))) l out i hi (by omega) N 0 (by omega) (by omega) (fun j x _ hj => by omega)
      refine Exists.imp (fun out' => And.imp_right (And.imp_right (And.imp_right (he.trans)))) ?_
      simp only [len_]
      have htk : l.take (i + 1) = l.take i ++ [l[i]] := (List.take_append_getElem hi).symm
      by_cases hav : out[a]? = some l[i]
      · have hal : a < out.length := (List.getElem?_eq_some_iff.1 hav).1
        rw [decide_eq_true (show ((a : Nat) : Int) < out.length by omega)]
        simp only [decide_eq_true (show (0 : Int) ≤ (a : Nat) by omega), Bool.and_self, Bool.or_true, pCk_t, pIdxG_t, pick_t, pLet_]
        rw [pIdx_nat hav, pIdx_lt hi, decide_eq_true rfl, pIf_t, wr_succ hi (by omega)]
        refine ih (i + 1) out (by omega) (by omega) (by omega) h4 fun x => ?_
        rw [htk, List.mem_append, List.mem_singleton, ← h5]
        exact ⟨.inl, fun h => h.elim id fun h => h ▸ List.mem_of_getElem? hav⟩
      · have hbr : ∀ r1 r2 : Option (List Int), (pCk (!(decide ((a : Int) < out.length)) || ((decide ((0 : Int) ≤ a)) && (decide ((a : Int) < out.length)))) <|
          pIdxG (decide ((a : Int) < out.length)) 0 out a fun x2 =>
          pIdxG (decide ((a : Int) < out.length)) 0 l i fun x3 =>
          pLet (pick (decide ((a : Int) < out.length)) (decide (x2 = x3)) false) fun x4 => pIf x4 r1 r2) = r2 := by
          intro r1 r2
          by_cases hal : a < out.length
          · rw [decide_eq_true (show ((a : Nat) : Int) < out.length by omega)]
            simp only [decide_eq_true (show (0 : Int) ≤ (a : Nat) by omega), Bool.and_self, Bool.or_true, pCk_t, pIdxG_t, pick_t, pLet_]
            rw [pIdx_lt hal, pIdx_lt hi, decide_eq_false (by intro he; apply hav; rw [← he]; exact List.getElem?_eq_getElem hal), pIf_f]
          · rw [decide_eq_false (show ¬ ((a : Nat) : Int) < out.length by omega)]
            rfl
        rw [hbr, pIdx_lt hi]
        have hs1 : sub out 0 a = out.take a := by unfold sub; simp
        have hs2 : sub out a out.length = out.drop a := by unfold sub; simp
        have hl3 : (out.take a ++ [l[i]] ++ out.drop a).length = out.length + 1 := by simp; omega
        simp only [hs1, hs2, List.nil_append]
        simp only [show (0 : Int) ≤ (a : Nat) by omega, show ((a : Nat) : Int) ≤ out.length by omega, show (0 : Int) ≤ 0 by omega, show (0 : Int) ≤ (out.length : Nat) by omega, show ((out.length : Nat) : Int) ≤ (out.length : Nat) by omega, decide_true, Bool.and_self, pCk_t]
        rw [room_of (by simp; omega) (by simp; omega), pCk_t, room_of (by simp; omega) (by simp; omega), pCk_t, hl3, room_of (by omega) (by omega), pCk_t, wr_succ hi (by omega)]
        refine ih (i + 1) _ (by omega) (by omega) (by omega) (inc_insert h4 ha hlow fun x hx => ?_) fun x => ?_
        · have := hhigh x hx
          have : x ≠ l[i] := fun e => hav (by rw [hx, e])
          omega
        · rw [htk]
          have : x ∈ out ↔ x ∈ out.take a ∨ x ∈ out.drop a := by rw [← List.mem_append, List.take_append_drop]
          simp only [List.mem_append, List.mem_singleton, ← h5, this]
          constructor
          · rintro ((h | h) | h)
            · exact .inl (.inl h)
            · exact .inr h
            · exact .inl (.inr h)
          · rintro ((h | h) | h)
            · exact .inl (.inl h)
            · exact .inr h
            · exact .inl (.inr h)
    · have : i = l.length := by omega
      subst this
      rw [len_, decide_eq_false (by omega), pIf_f]
      exact ⟨out, h3, h4, fun x => by rw [h5, List.take_length], rfl⟩
theorem Rise_ok {N : Nat} {l : List Int} (hl : l.length * 8 ≤ 140737488355328) (hN : l.length < N) : ∃ out, out.length ≤ l.length ∧ Inc out ∧ (∀ x, x ∈ out ↔ x ∈ l) ∧ avermentref04_Rise N l = some out := by
  unfold avermentref04_Rise
  exact Rise_out (N := N) (fun x0 => some x0) l hl hN N 0 [] (by omega) (by omega) (by simp) List.Pairwise.nil (by simp)
end Go.Y
namespace Go.Y
theorem band_le {x y : Int} (h0 : 0 ≤ y) (h1 : y ≤ 9223372036854775807) : 0 ≤ band .i64 x y ∧ band .i64 x y ≤ y := by
  have h2 : (BitVec.ofInt 64 x &&& BitVec.ofInt 64 y).toNat ≤ y.toNat := by
    rw [BitVec.toNat_and]
    refine Nat.le_trans Nat.and_le_right ?_
    rw [BitVec.toNat_ofInt]
    have : y % ((2 ^ 64 : Nat) : Int) = y := Int.emod_eq_of_lt h0 (by omega)
    rw [this]; exact Nat.le_refl _
  have h3 : band .i64 x y = ((BitVec.ofInt 64 x &&& BitVec.ofInt 64 y).toNat : Int) := by
    show wr .i64 ((BitVec.ofInt 64 x &&& BitVec.ofInt 64 y).toNat : Int) = _
    exact wr_i64 (by omega) (by omega)
  rw [h3]
  omega
theorem ref12_Fix_ok (N : Nat) (v : Val) : ∃ v', avermentref12_Fix N v = some v' ∧ valR v' = true := by
  obtain ⟨s, ⟨kb, kn⟩, ⟨lo, hi⟩, p⟩ := v
  have h7 := band_le (x := s) (y := 7) (by omega) (by omega)
  have h3 := band_le (x := p) (y := 3) (by omega) (by omega)
  unfold avermentref12_Fix avermentref09_Clean avermentref10_Fix
  simp only [pJoin_]
  generalize band .i64 s 7 = s' at h7
  generalize band .i64 p 3 = p' at h3
  unfold valR
  by_cases h1 : s' = 0 <;> by_cases h2 : p' = 0 <;> cases kb <;> by_cases h4 : hi < lo <;> simp [h1, h2, h4] <;> omega
theorem Fix_in {N : Nat} (k0 : Int × Int × Int × Bool × List Val × List (List Int) × Bool × List Val × List (List Int) × Bool × List Val × List (List Int) × List Int → Option Stt) (s t o : Stt) (regs : Int) (r : Nat) (l : List Int) (hr : s.2.2[r]? = some l) :
    ∀ (n i : Nat) (acc : List Int), i ≤ l.length → i ≤ 60 → 60 < n + i → acc.length = i → (∀ x ∈ acc, 0 ≤ x ∧ x < 70) →
      ∃ acc', acc'.length ≤ 60 ∧ (∀ x ∈ acc', 0 ≤ x ∧ x < 70) ∧
        avermentref13_Fix_l10 N k0 n regs 70 r i s.1 s.2.1 s.2.2 t.1 t.2.1 t.2.2 o.1 o.2.1 o.2.2 acc = k0 (regs, 70, r, s.1, s.2.1, s.2.2, t.1, t.2.1, t.2.2, o.1, o.2.1, o.2.2, acc') := by
  intro n
  induction n with
  | zero => intro i acc h1 h2 h3; omega
  | succ n ih =>
    intro i acc h1 h2 h3 h4 h5
    unfold avermentref13_Fix_l10
    rw [pIdx_nat hr]
    simp only [pLet_, pick_and]
    by_cases hi : i < l.length ∧ i < 60
    · have e1 : ((i : Nat) : Int) < l.length := by omega
      have e2 : ((i : Nat) : Int) < 60 := by omega
      simp only [len_, e1, e2, decide_true, Bool.and_self, pIf_t]
      rw [pIdx_nat hr, pIdx_lt hi.1]
      have e3 : (!decide (wr .u64 70 = 0)) = true := rfl
      have e4 : 0 ≤ remI (wr .u64 l[i]) (wr .u64 70) ∧ remI (wr .u64 l[i]) (wr .u64 70) < 70 := by
        show 0 ≤ Int.tmod (wr .u64 l[i]) 70 ∧ Int.tmod (wr .u64 l[i]) 70 < 70
        rw [wr_u64_mod, Int.tmod_eq_emod_of_nonneg (by omega)]
        omega
      rw [e3, pCk_t, wr_i64 (by omega) (by omega), room_of (by simp; omega) (by simp; omega), pCk_t, wr_succ hi.2 (by omega)]
      refine ih (i + 1) _ (by omega) (by omega) (by omega) (by simp; omega) fun x hx => ?_
      rcases List.mem_append.1 hx with hx | hx
      · exact h5 x hx
      · rw [List.mem_singleton] at hx; subst hx; exact e4
    · have : (decide (((i : Nat) : Int) < l.length) && decide (((i : Nat) : Int) < 60)) = false := by
        by_cases h6 : ((i : Nat) : Int) < l.length
        · simp [show ¬ ((i : Nat) : Int) < 60 by omega]
        · simp [h6]
      rw [len_, this, pIf_f]
      exact ⟨acc, by omega, h5, rfl⟩
theorem setR_of {n : Int} (hn : 0 ≤ n) (hn2 : n ≤ 4096) {l : List Int} (h : Inc l) (h2 : ∀ x ∈ l, 0 ≤ x ∧ x < n) : setR n l = true := by
  unfold setR
  simp only [hn, hn2, decide_true, Bool.true_and]
  have : ∀ (l : List Int) (last : Int), Inc l → (∀ x ∈ l, last < x ∧ x < n) → riseB n last l = true := by
    intro l
    induction l with
    | nil => intros; rfl
    | cons x r ih =>
      intro last h h2
      have h3 := h2 x (by simp)
      have h4 := List.pairwise_cons.1 h
      simp only [riseB, h3, decide_true, Bool.true_and]
      exact ih x h4.2 fun y hy => ⟨h4.1 y hy, (h2 y (by simp [hy])).2⟩
  exact this l (-1) h fun x hx => ⟨by have := h2 x hx; omega, (h2 x hx).2⟩
theorem Fix_out {N : Nat} (hN : 70 < N) (k0 : Bool × List Val × List (List Int) × Bool × List Val × List (List Int) → Option Stt) (s t : Stt) (o0 : Bool) :
    ∀ (n r : Nat) (vs : List Val) (ss : List (List Int)), r ≤ s.2.1.length → r ≤ s.2.2.length → r ≤ 6 → 6 < n + r → vs.length = r → ss.length = r → vs.all valR = true → ss.all (setR 70) = true → (∀ x ∈ ss, x.length ≤ 60) →
      ∃ vs' ss', vs'.length = ss'.length ∧ vs'.length ≤ 6 ∧ vs'.all valR = true ∧ ss'.all (setR 70) = true ∧ (∀ x ∈ ss', x.length ≤ 60) ∧
        avermentref13_Fix_l6 N k0 n 6 70 r s.1 s.2.1 s.2.2 t.1 t.2.1 t.2.2 o0 vs ss = k0 (t.1, t.2.1, t.2.2, o0, vs', ss') := by
  intro n
  induction n with
  | zero => intro r vs ss _ _ h1 h2; omega
  | succ n ih =>
    intro r vs ss h1 h2 h3 h4 h5 h6 h7 h8 h9
    unfold avermentref13_Fix_l6 avermentref13_Regs
    simp only [pCall_s, pLet_, pick_and, len_]
    have hm : mnI (s.2.1.length : Int) (s.2.2.length : Int) = ((min s.2.1.length s.2.2.length : Nat) : Int) := by
      unfold mnI
      by_cases h : (s.2.2.length : Int) < s.2.1.length
      · rw [decide_eq_true h]; show (s.2.2.length : Int) = _; omega
      · rw [decide_eq_false h]; show (s.2.1.length : Int) = _; omega
    rw [hm]
    by_cases hc : r < min s.2.1.length s.2.2.length ∧ r < 6
    · have e1 : ((r : Nat) : Int) < (min s.2.1.length s.2.2.length : Nat) := by omega
      have e2 : ((r : Nat) : Int) < 6 := by omega
      simp only [e1, e2, decide_true, Bool.and_self, pIf_t]
      have hr1 : r < s.2.1.length := by omega
      have hr2 : r < s.2.2.length := by omega
      obtain ⟨acc, ha1, ha2, he⟩ := Fix_in (N := N) (fun x2 => pIdx x2.2.2.2.2.1 x2.2.2.1 fun x3 =>
          pCall (avermentref12_Fix N x3) fun x4 =>
          pCk (room 48 (len (x2.2.2.2.2.2.2.2.2.2.2.1 ++ [x4]))) <|
          pCall (avermentref04_Rise N x2.2.2.2.2.2.2.2.2.2.2.2.2) fun x5 =>
          pCk (room 24 (len (x2.2.2.2.2.2.2.2.2.2.2.2.1 ++ [x5]))) <|
          avermentref13_Fix_l6 N k0 n x2.1 x2.2.1 (wr .i64 (x2.2.2.1 + 1)) x2.2.2.2.1 x2.2.2.2.2.1 x2.2.2.2.2.2.1 x2.2.2.2.2.2.2.1 x2.2.2.2.2.2.2.2.1 x2.2.2.2.2.2.2.2.2.1 x2.2.2.2.2.2.2.2.2.2.1 (x2.2.2.2.2.2.2.2.2.2.2.1 ++ [x4]) (x2.2.2.2.2.2.2.2.2.2.2.2.1 ++ [x5])) s t (o0, vs, ss) 6 r _ (List.getElem?_eq_getElem hr2) N 0 [] (by omega) (by omega) (by omega) rfl (by simp)
      refine Exists.imp (fun vs' => Exists.imp fun ss' => And.imp_right (And.imp_right (And.imp_right (And.imp_right (And.imp_right he.trans))))) ?_
      obtain ⟨v', hv1, hv2⟩ := ref12_Fix_ok N s.2.1[r]
      obtain ⟨out, ho1, ho2, ho3, ho4⟩ := Rise_ok (N := N) (l := acc) (by omega) (by omega)
      simp only []
      rw [pIdx_lt hr1, hv1, pCall_s, room_of (by simp; omega) (by simp; omega), pCk_t, ho4, pCall_s, room_of (by simp; omega) (by simp; omega), pCk_t, wr_succ hc.2 (by omega)]
      refine ih (r + 1) _ _ (by omega) (by omega) (by omega) (by omega) (by simp; omega) (by simp; omega) ?_ ?_ ?_
      · rw [List.all_append, h7]; simp only [List.all_cons, List.all_nil, hv2]; rfl
      · rw [List.all_append, h8]; simp only [List.all_cons, List.all_nil, setR_of (n := 70) (by omega) (by omega) ho2 fun x hx => ha2 x ((ho3 x).1 hx)]; rfl
      · intro x hx
        rcases List.mem_append.1 hx with hx | hx
        · exact h9 x hx
        · rw [List.mem_singleton] at hx; subst hx; omega
    · have : (decide (((r : Nat) : Int) < (min s.2.1.length s.2.2.length : Nat)) && decide (((r : Nat) : Int) < 6)) = false := by
        by_cases h : ((r : Nat) : Int) < (min s.2.1.length s.2.2.length : Nat)
        · simp [show ¬ ((r : Nat) : Int) < 6 by omega]
        · rw [decide_eq_false h]; rfl
      rw [this, pIf_f]
      exact ⟨vs, ss, by omega, by omega, h7, h8, h9, rfl⟩
theorem fix_ok {N : Nat} (hN : 70 < N) (s : Stt) : ∃ f : Stt, avermentlaw13_fix N s = some f ∧ f.2.1.length = f.2.2.length ∧ f.2.1.length ≤ 6 ∧ f.2.1.all valR = true ∧ f.2.2.all (setR 70) = true ∧ (∀ x ∈ f.2.2, x.length ≤ 60) ∧ (f.1 = false → f.2.1 = []) := by
  unfold avermentlaw13_fix avermentref13_Fix
  obtain ⟨re, vs, ss⟩ := s
  cases re with
  | false => exact ⟨(false, [], []), rfl, rfl, by simp, rfl, rfl, by simp, fun _ => rfl⟩
  | true =>
    obtain ⟨vs', ss', h1, h2, h3, h4, h5, h6⟩ := Fix_out hN (fun x0 => some (x0.2.2.2.1, x0.2.2.2.2.1, x0.2.2.2.2.2)) (true, vs, ss) (false, [], []) true N 0 [] [] (by simp) (by simp) (by omega) (by omega) rfl rfl rfl rfl (by simp)
    have h6' : avermentref13_Fix_l6 N (fun x0 => some (x0.2.2.2.1, x0.2.2.2.2.1, x0.2.2.2.2.2)) N 6 70 0 true vs ss false [] [] true [] [] = some (true, vs', ss') := h6
    refine ⟨(true, vs', ss'), ?_, h1, h2, h3, h4, h5, fun h => by cases h⟩
    simp only [Bool.not_true, pIf_f]
    rw [h6']; rfl
theorem StateRight_loop {N : Nat} (hN : 20 ≤ N) (k0 : Int × Int × Stt → Option Bool) (regs sites : Int) (s : Stt) (hs : s.2.2.length ≤ 40) (hk : (∀ x ∈ s.2.2, x.length ≤ 100) → k0 (regs, sites, s) = some true) :
    ∀ (n i : Nat), i ≤ s.2.2.length → s.2.2.length < n + i → (∀ j x, s.2.2[j]? = some x → j < i → x.length ≤ 100) → avermentlaw13_StateRight_l5 N k0 (fun x1 => some x1) n regs sites i s.1 s.2.1 s.2.2 = some true := by
  intro n
  induction n with
  | zero => intro i h1 h2; omega
  | succ n ih =>
    intro i h1 h2 h3
    unfold avermentlaw13_StateRight_l5
    by_cases hi : i < s.2.2.length
    · rw [len_, decide_eq_true (by omega), pIf_t, pIdx_lt hi]
      by_cases hx : (100 : Int) < s.2.2[i].length
      · rw [decide_eq_true hx, pIf_t]
        obtain ⟨M, rfl⟩ : ∃ M, N = M + 20 := ⟨N - 20, by omega⟩
        rw [told_ok]; rfl
      · rw [decide_eq_false hx, pIf_f, wr_succ hi (by omega)]
        refine ih (i + 1) (by omega) (by omega) fun j x hj hji => ?_
        by_cases hje : j = i
        · subst hje; rw [List.getElem?_eq_getElem hi, Option.some.injEq] at hj; subst hj; omega
        · exact h3 j x hj (by omega)
    · have : i = s.2.2.length := by omega
      subst this
      rw [len_, decide_eq_false (by omega), pIf_f]
      refine hk fun x hx => ?_
      obtain ⟨j, hj⟩ := List.getElem?_of_mem hx
      exact h3 j x hj (List.getElem?_eq_some_iff.1 hj).1
theorem StateRight_plain (s : Stt) (regs sites : Int) : ∃ N, avermentlaw13_StateRight N s regs sites = some true := by
  refine ⟨1000, ?_⟩
  unfold avermentlaw13_StateRight
  simp only [pLet_, pick_or, len_]
  by_cases h1 : (40 : Int) < s.2.1.length
  · rw [decide_eq_true h1]; rfl
  · by_cases h2 : (40 : Int) < s.2.2.length
    · rw [decide_eq_true h2, Bool.or_true]; rfl
    · simp only [h1, h2, decide_false, Bool.or_self, pIf_f]
      refine StateRight_loop (by omega) _ regs sites s (by omega) (fun hx => ?_) 1000 0 (by omega) (by omega) (fun j x hj hji => by omega)
      obtain ⟨f, hf1, hf2, hf3, hf4, hf5, hf6, hf7⟩ := fix_ok (N := 1000) (by omega) s
      have hl : SttLen s 1000 := ⟨by omega, by omega, fun x h => by have := hx x h; omega⟩
      have hb : SttLen s 4611686018427387904 := ⟨by omega, by omega, fun x h => by have := hx x h; omega⟩
      have hr : SttRoom s := ⟨by omega, by omega, fun x h => by have := hx x h; omega⟩
      have hlf : SttLen f 1000 := ⟨by omega, by omega, fun x h => by have := hf6 x h; omega⟩
      have hbf : SttLen f 4611686018427387904 := ⟨by omega, by omega, fun x h => by have := hf6 x h; omega⟩
      have hrf : SttRoom f := ⟨by omega, by omega, fun x h => by have := hf6 x h; omega⟩
      have hst : stR f (f.2.1.length : Int) 70 = true := by
        unfold stR
        rw [hf4, hf5]
        cases hre : f.1 with
        | true => simp [hf2]
        | false =>
          have := hf7 hre
          rw [this] at hf2 ⊢
          have : f.2.2 = [] := List.eq_nil_of_length_eq_zero hf2.symm
          rw [this]; rfl
      simp only [hf1, pCall_s, told_ok 980, pCallG_t, To_ok hl hr, state_Right_ok hl hb, ref13_Right_ok hl hb, To_ok hlf hrf, state_Right_ok hlf hbf, hst, pick_t, pLet_, beq_self_eq_true]
end Go.Y
namespace Go.Y
instance : DecidableEq Stt := @instDecidableEqProd Bool (List Val × List (List Int)) inferInstance (@instDecidableEqProd (List Val) (List (List Int)) inferInstance inferInstance)
theorem From_l4 (N : Nat) (k0 : Bool × List Val × List (List Int) × Bool × List Val × List (List Int) × Bool × List Val × List (List Int) → Option Stt) : ∀ n i a0 a1 a2 b0 b1 b2 c0 c1 c2, avermentlaw13_From_l4 N k0 n i a0 a1 a2 b0 b1 b2 c0 c1 c2 = avermentlaw13_To_l4 N k0 n i a0 a1 a2 b0 b1 b2 c0 c1 c2 := by
  intro n
  induction n with
  | zero => intros; rfl
  | succ n ih => intro i a0 a1 a2 b0 b1 b2 c0 c1 c2; unfold avermentlaw13_From_l4 avermentlaw13_To_l4; simp only [ih]; rfl
theorem From_l8 (N : Nat) (k0 : Bool × List Val × List (List Int) × Bool × List Val × List (List Int) → Option Stt) : ∀ n i a0 a1 a2 b0 b1 b2 c0 c1 c2, avermentlaw13_From_l8 N k0 n i a0 a1 a2 b0 b1 b2 c0 c1 c2 = avermentlaw13_To_l8 N k0 n i a0 a1 a2 b0 b1 b2 c0 c1 c2 := by
  intro n
  induction n with
  | zero => intros; rfl
  | succ n ih => intro i a0 a1 a2 b0 b1 b2 c0 c1 c2; unfold avermentlaw13_From_l8 avermentlaw13_To_l8; simp only [ih]
theorem From_ok {N : Nat} {s : Stt} (h : SttLen s N) (hr : SttRoom s) : avermentlaw13_From N s = some s := by
  rw [← To_ok h hr]
  unfold avermentlaw13_From avermentlaw13_To
  simp only [From_l4, From_l8]
theorem Same_loop {N : Nat} (a b : List Int) (hab : a.length = b.length) (ha : a.length ≤ 4611686018427387904) : ∀ (n i : Nat), i ≤ a.length → a.length < n + i →
    avermentref01_Same_l5 N (fun _ => some true) (fun x => some x) n a b i = some (decide (a.drop i = b.drop i)) := by
  intro n
  induction n with
  | zero => intro i h1 h2; omega
  | succ n ih =>
    intro i h1 h2
    unfold avermentref01_Same_l5
    by_cases hi : i < a.length
    · have hi2 : i < b.length := by omega
      rw [len_, decide_eq_true (by omega), pIf_t, pIdx_lt hi, pIdx_lt hi2, List.drop_eq_getElem_cons hi, List.drop_eq_getElem_cons hi2]
      by_cases he : a[i] = b[i]
      · rw [decide_eq_true he, Bool.not_true, pIf_f, wr_succ hi (by omega), ih (i + 1) (by omega) (by omega)]
        simp only [he, List.cons.injEq, true_and]
      · rw [decide_eq_false he]
        simp only [he, List.cons.injEq, false_and, decide_false, Bool.not_false, pIf_t]
    · have : i = a.length := by omega
      subst this
      rw [len_, decide_eq_false (by omega), pIf_f, List.drop_length, hab, List.drop_length]; rfl
theorem Same_ok {N : Nat} {a b : List Int} (ha : a.length ≤ 4611686018427387904) (hN : a.length < N) : avermentref01_Same N a b = some (decide (a = b)) := by
  unfold avermentref01_Same
  by_cases h : a.length = b.length
  · rw [len_, len_, decide_eq_true (by omega), Bool.not_true, pIf_f]
    exact Same_loop a b h ha N 0 (by omega) (by omega)
  · rw [len_, len_, decide_eq_false (by omega), Bool.not_false, pIf_t, decide_eq_false (fun e => h (by rw [e]))]
theorem val_beq (x0 x1 : Val) : (decide (x0.1 = x1.1) && (((x0.2.1.1 == x1.2.1.1) && decide (x0.2.1.2 = x1.2.1.2)) && ((decide (x0.2.2.1.1 = x1.2.2.1.1) && decide (x0.2.2.1.2 = x1.2.2.1.2)) && decide (x0.2.2.2 = x1.2.2.2)))) = decide (x0 = x1) := by
  obtain ⟨a, ⟨b, c⟩, ⟨d, e⟩, f⟩ := x0
  obtain ⟨a', ⟨b', c'⟩, ⟨d', e'⟩, f'⟩ := x1
  rw [Bool.eq_iff_iff]
  simp [and_assoc]
theorem Equal_loop1 {N : Nat} (k0 : Bool × List Val × List (List Int) × Bool × List Val × List (List Int) → Option Bool) (a b : Stt) (hl : a.2.1.length = b.2.1.length) (ha : a.2.1.length ≤ 4611686018427387904) : ∀ (n i : Nat), i ≤ a.2.1.length → a.2.1.length < n + i →
    avermentref13_Equal_l5 N k0 (fun x => some x) n i a.1 a.2.1 a.2.2 b.1 b.2.1 b.2.2 = if a.2.1.drop i = b.2.1.drop i then k0 (a.1, a.2.1, a.2.2, b.1, b.2.1, b.2.2) else some false := by
  intro n
  induction n with
  | zero => intro i h1 h2; omega
  | succ n ih =>
    intro i h1 h2
    unfold avermentref13_Equal_l5
    by_cases hi : i < a.2.1.length
    · have hi2 : i < b.2.1.length := by omega
      rw [len_, decide_eq_true (by omega), pIf_t, pIdx_lt hi, pIdx_lt hi2, List.drop_eq_getElem_cons hi, List.drop_eq_getElem_cons hi2, val_beq]
      by_cases he : a.2.1[i] = b.2.1[i]
      · rw [decide_eq_true he, Bool.not_true, pIf_f, wr_succ hi (by omega), ih (i + 1) (by omega) (by omega)]
        simp only [he, List.cons.injEq, true_and]
      · rw [decide_eq_false he]
        simp only [Bool.not_false, pIf_t, List.cons.injEq, he, false_and, if_false]
    · have : i = a.2.1.length := by omega
      subst this
      rw [len_, decide_eq_false (by omega), pIf_f, List.drop_length, hl, List.drop_length, if_pos rfl]
theorem Equal_loop2 {N : Nat} (a b : Stt) (hl : a.2.2.length = b.2.2.length) (ha : a.2.2.length ≤ 4611686018427387904) (hN : ∀ x ∈ a.2.2, x.length < N ∧ x.length ≤ 4611686018427387904) : ∀ (n i : Nat), i ≤ a.2.2.length → a.2.2.length < n + i →
    avermentref13_Equal_l10 N (fun _ => some true) (fun x => some x) n i a.1 a.2.1 a.2.2 b.1 b.2.1 b.2.2 = some (decide (a.2.2.drop i = b.2.2.drop i)) := by
  intro n
  induction n with
  | zero => intro i h1 h2; omega
  | succ n ih =>
    intro i h1 h2
    unfold avermentref13_Equal_l10
    by_cases hi : i < a.2.2.length
    · have hi2 : i < b.2.2.length := by omega
      have hx := hN _ (List.getElem_mem hi)
      rw [len_, decide_eq_true (by omega), pIf_t, pIdx_lt hi, pIdx_lt hi2, List.drop_eq_getElem_cons hi, List.drop_eq_getElem_cons hi2, Same_ok hx.2 hx.1, pCall_s]
      by_cases he : a.2.2[i] = b.2.2[i]
      · rw [decide_eq_true he, Bool.not_true, pIf_f, wr_succ hi (by omega), ih (i + 1) (by omega) (by omega)]
        simp only [he, List.cons.injEq, true_and]
      · rw [decide_eq_false he]
        simp only [he, List.cons.injEq, false_and, decide_false, Bool.not_false, pIf_t]
    · have : i = a.2.2.length := by omega
      subst this
      rw [len_, decide_eq_false (by omega), pIf_f, List.drop_length, hl, List.drop_length]; rfl
theorem Equal_ok {N : Nat} {a b : Stt} (h : SttLen a N) (hb : SttLen a 4611686018427387904) : avermentref13_Equal N a b = some (decide (a = b)) := by
  unfold avermentref13_Equal
  simp only [pLet_, pick_or, len_]
  by_cases h1 : a.1 = b.1
  · by_cases h2 : a.2.1.length = b.2.1.length
    · by_cases h3 : a.2.2.length = b.2.2.length
      · have e1 : (a.2.1.length : Int) = b.2.1.length := by omega
        have e2 : (a.2.2.length : Int) = b.2.2.length := by omega
        have e3 : (a.1 == b.1) = true := by rw [h1]; exact beq_self_eq_true _
        rw [decide_eq_true e1, decide_eq_true e2, e3]
        simp only [Bool.not_true, Bool.or_self, pIf_f]
        rw [show (0 : Int) = ((0 : Nat) : Int) from rfl, Equal_loop1 (N := N) _ a b h2 (by have := hb.1; omega) N 0 (by omega) (by have := h.1; omega)]
        simp only [List.drop_zero]
        rw [Equal_loop2 (N := N) a b h3 (by have := hb.2.1; omega) (fun x hx => ⟨h.2.2 x hx, by have := hb.2.2 x hx; omega⟩) N 0 (by omega) (by have := h.2.1; omega)]
        simp only [List.drop_zero]
        by_cases h4 : a.2.1 = b.2.1
        · rw [if_pos h4]
          congr 1
          by_cases h5 : a.2.2 = b.2.2
          · rw [decide_eq_true h5, decide_eq_true (Prod.ext h1 (Prod.ext h4 h5))]
          · rw [decide_eq_false h5, decide_eq_false (fun e => h5 (by rw [e]))]
        · rw [if_neg h4, decide_eq_false (fun e => h4 (by rw [e]))]
      · rw [decide_eq_false (show ¬ (a.2.2.length : Int) = b.2.2.length by omega), decide_eq_false (fun e : a = b => h3 (by rw [e]))]
        simp
    · rw [decide_eq_false (show ¬ (a.2.1.length : Int) = b.2.1.length by omega), decide_eq_false (fun e : a = b => h2 (by rw [e]))]
      simp
  · rw [decide_eq_false (fun e : a = b => h1 (by rw [e]))]
    have : (a.1 == b.1) = false := by simpa using h1
    rw [this]; rfl
theorem same_ok {N : Nat} {a b : Stt} (h : SttLen a N) (hb : SttLen a 4611686018427387904) (hr : SttRoom a) : avermentlaw13_same N a b = some (decide (a = b)) := by
  unfold avermentlaw13_same
  rw [From_ok h hr, pCall_s, Equal_ok h hb, pCall_s]
def val0 : Val := (2, (true, 0), (0, 0), 1)
def bVals (args : List Val) (i : Nat) : List Val := (List.range i).map fun r => args.getD r val0
def bSites (first : Int) (i : Nat) : List (List Int) := (List.range i).map fun (r : Nat) => [first + (r : Int)]
theorem bVals_succ (args : List Val) (i : Nat) : bVals args (i + 1) = bVals args i ++ [args.getD i val0] := by simp [bVals, List.range_succ]
theorem bSites_succ (first : Int) (i : Nat) : bSites first (i + 1) = bSites first i ++ [[first + i]] := by simp [bSites, List.range_succ]
theorem state_Begin_loop {N : Nat} (args : List Val) (first : Int) (m : Nat) (hm : m ≤ 20) (h0 : 0 ≤ first) (h1 : first ≤ 4000) (t : Stt) (s0 : Bool) : ∀ (n i : Nat), i ≤ m → m < n + i →
    state_Begin_l4 N (fun x0 => some (x0.2.2.2.1, x0.2.2.2.2.1, x0.2.2.2.2.2)) n args first m i t.1 t.2.1 t.2.2 s0 (bVals args i) (bSites first i) = some (s0, bVals args m, bSites first m) := by
  intro n
  induction n with
  | zero => intro i h1 h2; omega
  | succ n ih =>
    intro i h2 h3
    unfold state_Begin_l4
    by_cases hi : i < m
    · rw [decide_eq_true (by omega), pIf_t]
      have h0f : fact_Of N 0 = some val0 := rfl
      rw [h0f, pCall_s, pJoin_]
      have key : ∀ v : Val, v = args.getD i val0 →
        (pCk (room 48 (len (bVals args i ++ [(v.1, (v.2.1.1, v.2.1.2), (v.2.2.1.1, v.2.2.1.2), v.2.2.2)]))) <|
        pCk (room 24 (len (bSites first i ++ [[(wr .i64 (first + (i : Int)))]]))) <|
        state_Begin_l4 N (fun x0 => some (x0.2.2.2.1, x0.2.2.2.2.1, x0.2.2.2.2.2)) n args first m (wr .i64 ((i : Int) + 1)) t.1 t.2.1 t.2.2 s0 (bVals args i ++ [(v.1, (v.2.1.1, v.2.1.2), (v.2.2.1.1, v.2.2.1.2), v.2.2.2)]) (bSites first i ++ [[(wr .i64 (first + (i : Int)))]]))
        = some (s0, bVals args m, bSites first m) := by
        intro v hv
        have e : ((v.1, (v.2.1.1, v.2.1.2), (v.2.2.1.1, v.2.2.1.2), v.2.2.2) : Val) = v := rfl
        rw [e, hv, ← bVals_succ, wr_i64 (by omega) (by omega), ← bSites_succ, room_of (by simp [bVals]; omega) (by simp [bVals]; omega), pCk_t, room_of (by simp [bSites]; omega) (by simp [bSites]; omega), pCk_t, wr_succ hi (by omega)]
        exact ih (i + 1) (by omega) (by omega)
      by_cases ha : i < args.length
      · rw [len_, decide_eq_true (by omega), pIf_t, pIdx_lt ha]
        exact key args[i] (by simp [List.getD_eq_getElem?_getD, ha])
      · rw [len_, decide_eq_false (by omega), pIf_f]
        exact key val0 (by simp [List.getD_eq_getElem?_getD, show args.length ≤ i by omega])
    · have : i = m := by omega
      subst this
      rw [decide_eq_false (by omega), pIf_f]
theorem state_Begin_ok {N : Nat} {args : List Val} {first regs : Int} (hr : regs ≤ 20) (h0 : 0 ≤ first) (h1 : first ≤ 4000) (hN : 20 < N) :
    state_Begin N regs args first = some (true, bVals args regs.toNat, bSites first regs.toNat) := by
  unfold state_Begin
  have : mxI regs 0 = ((regs.toNat : Nat) : Int) := by
    unfold mxI
    by_cases h : regs < 0
    · rw [decide_eq_true h]; show (0 : Int) = _; omega
    · rw [decide_eq_false h]; show regs = _; omega
  rw [this]
  exact state_Begin_loop args first regs.toNat (by omega) h0 h1 (false, [], []) true N 0 (by omega) (by omega)
theorem ref13_Begin_loop {N : Nat} (args : List Val) (first regs : Int) (hm : regs ≤ 20) (h0 : 0 ≤ first) (h1 : first ≤ 4000) (t : Stt) (s0 : Bool) : ∀ (n i : Nat), i ≤ regs.toNat → regs.toNat < n + i →
    avermentref13_Begin_l4 N (fun x0 => some (x0.2.2.2.1, x0.2.2.2.2.1, x0.2.2.2.2.2)) n regs args first i t.1 t.2.1 t.2.2 s0 (bVals args i) (bSites first i) = some (s0, bVals args regs.toNat, bSites first regs.toNat) := by
  intro n
  induction n with
  | zero => intro i h1 h2; omega
  | succ n ih =>
    intro i h2 h3
    unfold avermentref13_Begin_l4
    by_cases hi : i < regs.toNat
    · rw [decide_eq_true (by omega), pIf_t]
      have h0f : avermentref12_Of N 0 = some val0 := rfl
      rw [h0f, pCall_s, pJoin_]
      have key : ∀ v : Val, v = args.getD i val0 →
        (pCk (room 48 (len (bVals args i ++ [(v.1, (v.2.1.1, v.2.1.2), (v.2.2.1.1, v.2.2.1.2), v.2.2.2)]))) <|
        pCk (room 24 (len (bSites first i ++ [[(wr .i64 (first + (i : Int)))]]))) <|
        avermentref13_Begin_l4 N (fun x0 => some (x0.2.2.2.1, x0.2.2.2.2.1, x0.2.2.2.2.2)) n regs args first (wr .i64 ((i : Int) + 1)) t.1 t.2.1 t.2.2 s0 (bVals args i ++ [(v.1, (v.2.1.1, v.2.1.2), (v.2.2.1.1, v.2.2.1.2), v.2.2.2)]) (bSites first i ++ [[(wr .i64 (first + (i : Int)))]]))
        = some (s0, bVals args regs.toNat, bSites first regs.toNat) := by
        intro v hv
        have e : ((v.1, (v.2.1.1, v.2.1.2), (v.2.2.1.1, v.2.2.1.2), v.2.2.2) : Val) = v := rfl
        rw [e, hv, ← bVals_succ, wr_i64 (by omega) (by omega), ← bSites_succ, room_of (by simp [bVals]; omega) (by simp [bVals]; omega), pCk_t, room_of (by simp [bSites]; omega) (by simp [bSites]; omega), pCk_t, wr_succ hi (by omega)]
        exact ih (i + 1) (by omega) (by omega)
      by_cases ha : i < args.length
      · rw [len_, decide_eq_true (by omega), pIf_t, pIdx_lt ha]
        exact key args[i] (by simp [List.getD_eq_getElem?_getD, ha])
      · rw [len_, decide_eq_false (by omega), pIf_f]
        exact key val0 (by simp [List.getD_eq_getElem?_getD, show args.length ≤ i by omega])
    · have : i = regs.toNat := by omega
      subst this
      rw [decide_eq_false (by omega), pIf_f]
theorem ref13_Begin_ok {N : Nat} {args : List Val} {first regs : Int} (hr : regs ≤ 20) (h0 : 0 ≤ first) (h1 : first ≤ 4000) (hN : 20 < N) :
    avermentref13_Begin N regs args first = some (true, bVals args regs.toNat, bSites first regs.toNat) := by
  unfold avermentref13_Begin
  exact ref13_Begin_loop args first regs hr h0 h1 (false, [], []) true N 0 (by omega) (by omega)
theorem StateBegins_loop {N : Nat} (k0 : Int × Int × List Val × Int × List Val × List Val → Option Bool) (n3 x0 : Int) (vs : List Val) (x2 : Int) (hk : ∀ l, k0 (n3, x0, vs, x2, l, l) = some true) :
    ∀ (n i : Nat) (l : List Val), i ≤ 20 → 20 < n + i → l.length = i → avermentlaw13_StateBegins_l8 N k0 n n3 i x0 vs x2 l l = some true := by
  intro n
  induction n with
  | zero => intro i l h1 h2; omega
  | succ n ih =>
    intro i l h1 h2 h3
    unfold avermentlaw13_StateBegins_l8
    simp only [pLet_, pick_and, len_]
    by_cases hi : i < vs.length ∧ i < 20
    · rw [decide_eq_true (show ((i : Nat) : Int) < vs.length by omega), decide_eq_true (show ((i : Nat) : Int) < 20 by omega), Bool.and_self, pIf_t]
      obtain ⟨v', hv, _⟩ := ref12_Fix_ok N vs[i]
      rw [pIdx_lt hi.1, hv, pCall_s, room_of (by simp; omega) (by simp; omega), pCk_t, pIdx_lt hi.1, hv, pCall_s, law12_To_ok, pCall_s, room_of (by simp; omega) (by simp; omega), pCk_t, wr_succ hi.2 (by omega)]
      exact ih (i + 1) _ (by omega) (by omega) (by simp; omega)
    · have : (decide (((i : Nat) : Int) < vs.length) && decide (((i : Nat) : Int) < 20)) = false := by
        by_cases h : ((i : Nat) : Int) < vs.length
        · simp [show ¬ ((i : Nat) : Int) < 20 by omega]
        · rw [decide_eq_false h]; rfl
      rw [this, pIf_f]
      exact hk l
theorem StateBegins_plain (x : Int × List Val × Int) : ∃ N, avermentlaw13_StateBegins N x = some true := by
  refine ⟨5000, ?_⟩
  unfold avermentlaw13_StateBegins
  rw [pJoin_]
  have key : ∀ m : Int, m ≤ 20 → ∀ x0, avermentlaw13_StateBegins_l8 5000
      (fun x1 => pCall (avermentlaw13_told 5000) fun x2 =>
        pCallG x2 (false, [], []) (state_Begin 5000 x1.1 x1.2.2.2.2.2 (wr .i64 (remI (wr .u64 x1.2.2.2.1) 4000))) fun x3 =>
        pCallG x2 (false, [], []) (avermentref13_Begin 5000 x1.1 x1.2.2.2.2.1 (wr .i64 (remI (wr .u64 x1.2.2.2.1) 4000))) fun x4 =>
        pCallG x2 false (avermentlaw13_same 5000 x3 x4) fun x5 =>
        pLet (pick x2 x5 false) fun x6 =>
        some x6) 5000 m 0 x0 x.2.1 x.2.2 [] [] = some true := by
    intro m hm x0
    refine StateBegins_loop (N := 5000) _ m x0 x.2.1 x.2.2 (fun l => ?_) 5000 0 [] (by omega) (by omega) rfl
    have hf : 0 ≤ remI (wr .u64 x.2.2) 4000 ∧ remI (wr .u64 x.2.2) 4000 < 4000 := by
      unfold remI
      rw [wr_u64_mod, Int.tmod_eq_emod_of_nonneg (by omega)]
      omega
    simp only []
    rw [told_ok 4980, pCall_s, pCallG_t, wr_i64 (by omega) (by omega), state_Begin_ok hm hf.1 (by omega) (by omega), pCall_s, pCallG_t, ref13_Begin_ok hm hf.1 (by omega) (by omega), pCall_s, pCallG_t]
    have hl : ∀ M, 21 < M → SttLen (true, bVals l m.toNat, bSites (remI (wr .u64 x.2.2) 4000) m.toNat) M := by
      intro M hM
      refine ⟨by simp [bVals]; omega, by simp [bSites]; omega, fun y hy => ?_⟩
      simp only [bSites, List.mem_map] at hy
      obtain ⟨r, _, rfl⟩ := hy
      simp; omega
    rw [same_ok (hl 5000 (by omega)) (hl _ (by omega)) ⟨by simp [bVals]; omega, by simp [bSites]; omega, fun y hy => ?_⟩]
    · simp
    · simp only [bSites, List.mem_map] at hy
      obtain ⟨r, _, rfl⟩ := hy
      simp
  by_cases h : 20 < x.1
  · rw [decide_eq_true h, pIf_t]; exact key 20 (by omega) _
  · rw [decide_eq_false h, pIf_f]; exact key x.1 (by omega) _
end Go.Y
set_option maxRecDepth 100000
namespace Go.Proofs.Ytglcpndffekmhaa
open Go.ChangeShapes Go.WideShapes Go.ChangeAt Go.RowKit Go.Y
theorem StateBegins_own : ownKnob Try.prog.godebug = none := by kernel_rfl
theorem StateBegins_laid : laidOutB Try.prog = true := by kernel_rfl
theorem StateBegins_pure (x : (tupTy (avermentlaw13_StateBegins_fun 0).ts).den) (h : Wf Try.prog.bytesOf (tupTy (avermentlaw13_StateBegins_fun 0).ts) x) : ∃ N, (avermentlaw13_StateBegins_con N).F x = some true := StateBegins_plain x
theorem StateBegins_lifted (os : Os) (started : os.Started) (H : Type) (enc : TypeId × Value → H) :
    ReturnsInHanded {} Try.checked os 4 .any (Rows.stateBeginsSpec.pre6 enc Try.prog Try.f4 Rows.stateBeginsRow.domain false) (Rows.stateBeginsSpec.post enc Try.prog Try.f4 false true false false) := by
  refine returnsInHanded_of_change_sized (C := Try.checked) StateBegins_own started (by kernel_rfl) Try.func4
    (ChangeSpec.witness6 (enc := enc) (C := Try.checked) false ⟨#[], #[.agg #[.int .i64 0, .slice none 0 0, .int .i64 0]], []⟩ 8 (by kernel_rfl) (by kernel_rfl) (by kernel_rfl) (by kernel_rfl)) ?_
  intro W base args ds gs before hval0 hW hcnd hsz0 _
  exact law_calls (P := Try.prog) (I := ids) (φ := phi Try.prog ids) (As := (avermentlaw13_StateBegins_fun 0).ts) (F := fun N => (avermentlaw13_StateBegins_con N).F) (ins := avermentlaw13_StateBegins_sig.ins) StateBegins_laid (by kernel_rfl) rfl (fun ds h => match ds, h with | [_], _ => rfl) ⟨4, by kernel_rfl, by kernel_rfl⟩ (by kernel_rfl) (fun N => avermentlaw13_StateBegins_ok N) StateBegins_pure hval0 hW hsz0
theorem StateBegins_holds : Rows.StateBeginsSaid :=
  OpenClaim.holds_of_wide 4 Try.f4 rfl rfl rfl rfl rfl rfl rfl ⟨rfl, rfl, rfl, rfl, rfl⟩ rfl rfl rfl rfl rfl (by kernel_rfl) Try.func4 (by kernel_rfl)
    (of_decide_eq_true (by kernel_rfl)) (by unfold Func.isWrapper; first | (rw [if_pos (by decide +kernel)]; kernel_rfl) | (rw [if_neg (by decide +kernel)]; exact ⟨rfl, rfl⟩))
    (fun os started H enc _ => StateBegins_lifted os started H enc)
#print axioms StateBegins_holds
end Go.Proofs.Ytglcpndffekmhaa
