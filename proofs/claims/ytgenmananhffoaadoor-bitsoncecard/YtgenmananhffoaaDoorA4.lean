/- No two sets below one number have the same bytes; a Plain, a Gaps and a Runs of one set are not all taken. -/
import Derived.Test.YtgenmananhffoaaDoorA0
import Derived.Test.YtgenmananhffoaaDoorA3
import Derived.KernelRfl
import Derived.Test.YtgenmananhffoaaDoorProg
import GoSem.ClaimJoined
import Derived.ChangeOld
import Derived.ChangeArms
import Derived.SizedLaws
import Derived.WalkKit
import Derived.ProofKit
import Derived.OpenShut
import Derived.ShutString
import Derived.Carry
import Derived.RowKit
import Derived.Test.YtgenmananhffoaaDoorRows
import Derived.Test.YtgenmananhffoaaDoorCards
import Derived.Test.YtgenmananhffoaaDoorTie
import Derived.SevenTiedAt
import Derived.ChangeSame
import Derived.ChangeVars
import Derived.JoinedOf
import Derived.RowKitTokens
import Derived.LaidLaws
import Derived.LaidHandle
import Derived.Stop.Joined
set_option linter.unusedVariables false
set_option linter.unusedSimpArgs false
set_option maxRecDepth 100000
set_option linter.unusedVariables false
noncomputable section
namespace Go.Y
open Go
abbrev ZP030 : Type := Int × Int
def avermentlaw03_Set_l7 (N : Nat) (k0 : Int × (List Int) × Int × List Int → Option (List Int)) : Nat → Int → (List Int) → Int → Int → (List Int) → Option (List Int)
  | 0, _, _, _, _, _ => none
  | n + 1, n0, raw1, xv6, i7, s5 =>
    pLet (pick (decide (i7 < (len raw1))) (decide (i7 < 200)) false) fun x0 =>
    pIf x0
      (pIdx raw1 i7 fun x1 =>
      pCk (!decide ((wr .u64 n0) = 0)) <|
      pIf (decide ((wr .i64 (remI (wr .u64 x1) (wr .u64 n0))) = xv6))
        (pCk (room 8 (len (s5 ++ [xv6]))) <|
        k0 (n0, raw1, xv6, (s5 ++ [xv6])))
        (avermentlaw03_Set_l7 N k0 n n0 raw1 xv6 (wr .i64 (i7 + 1)) s5))
      (k0 (n0, raw1, xv6, s5))
def avermentlaw03_Set_l4 (N : Nat) (k0 : List Int → Option (List Int)) : Nat → Int → (List Int) → Int → (List Int) → Option (List Int)
  | 0, _, _, _, _ => none
  | n + 1, n0, raw1, xv6, s5 =>
    pLet (pick (decide (xv6 < n0)) (decide (xv6 < 4096)) false) fun x0 =>
    pIf x0
      (avermentlaw03_Set_l7 N
        (fun x1 => avermentlaw03_Set_l4 N k0 n x1.1 x1.2.1 (wr .i64 (x1.2.2.1 + 1)) x1.2.2.2) N n0 raw1 xv6 0 s5)
      (k0 s5)
def avermentlaw03_Set (N : Nat) (n0 : Int) (raw1 : List Int) : Option (List Int) :=
  avermentlaw03_Set_l4 N
    (fun x0 => some x0) N n0 raw1 0 []
def bits_Right_l6 (N : Nat) (k0 : Unit → Option (Bool)) (k1 : Bool → Option (Bool)) : Nat → Int → Int → (List Int) → Int → Int → Option (Bool)
  | 0, _, _, _, _, _ => none
  | n + 1, n0, last5, t14, t15, t16 =>
    pIf (decide (t16 < t15))
      (pIdx t14 t16 fun x0 =>
      pLet (pick (decide (x0 ≤ last5)) true (decide (n0 ≤ x0))) fun x1 =>
      pIf x1
        (k1 false)
        (bits_Right_l6 N k0 k1 n n0 x0 t14 t15 (wr .i64 (t16 + 1))))
      (k0 ())
def bits_Right (N : Nat) (n0 : Int) (s1 : List Int) : Option (Bool) :=
  pLet (pick (decide (n0 < 0)) true (decide (4096 < n0))) fun x0 =>
  pIf x0
    (some false)
    (bits_Right_l6 N
      (fun x1 => some true)
      (fun x1 => some x1) N n0 (-1) s1 (len s1) 0)
def bits_plain_l4 (N : Nat) (k0 : List Int → Option (List Int)) : Nat → (List Int) → Int → Int → (List Int) → Option (List Int)
  | 0, _, _, _, _ => none
  | n + 1, t14, t15, t16, b5 =>
    pIf (decide (t16 < t15))
      (pIdx t14 t16 fun x0 =>
      pCk ((decide (0 ≤ (wr .i64 (1 + (quoI .i64 x0 8))))) && (decide ((wr .i64 (1 + (quoI .i64 x0 8))) < (len b5)))) <|
      pIdx b5 (wr .i64 (1 + (quoI .i64 x0 8))) fun x1 =>
      pCk (decide (0 ≤ (remI x0 8))) <|
      pCk ((decide (0 ≤ (wr .i64 (1 + (quoI .i64 x0 8))))) && (decide ((wr .i64 (1 + (quoI .i64 x0 8))) < (len b5)))) <|
      pIdx b5 (wr .i64 (1 + (quoI .i64 x0 8))) fun x2 =>
      bits_plain_l4 N k0 n t14 t15 (wr .i64 (t16 + 1)) (setI b5 (wr .i64 (1 + (quoI .i64 x0 8))) (bor .u8 x1 (shlI .u8 1 (remI x0 8)))))
      (k0 b5)
def bits_plain (N : Nat) (n0 : Int) (s1 : List Int) : Option (List Int) :=
  pCk ((decide (0 ≤ (wr .i64 (1 + (quoI .i64 (wr .i64 ((wr .i64 (n0 + 8)) - 1)) 8))))) && (decide ((wr .i64 (1 + (quoI .i64 (wr .i64 ((wr .i64 (n0 + 8)) - 1)) 8))) ≤ (wr .i64 (1 + (quoI .i64 (wr .i64 ((wr .i64 (n0 + 8)) - 1)) 8)))))) <|
  pCk (room 1 (wr .i64 (1 + (quoI .i64 (wr .i64 ((wr .i64 (n0 + 8)) - 1)) 8)))) <|
  bits_plain_l4 N
    (fun x0 => some x0) N s1 (len s1) 0 (rep (wr .i64 (1 + (quoI .i64 (wr .i64 ((wr .i64 (n0 + 8)) - 1)) 8))) 0)
def wire_New (N : Nat) : Option (List Int) :=
  some []
def p_wire_Writer_Byte (N : Nat) (b1 : Int) (w0 : List Int) : Option (List Int) :=
  pCk (room 1 (len (w0 ++ [b1]))) <|
  some (w0 ++ [b1])
def p_wire_Writer_Uint_l1 (N : Nat) (k0 : Int × List Int → Option (List Int)) : Nat → Int → (List Int) → Option (List Int)
  | 0, _, _ => none
  | n + 1, n1, w0 =>
    pIf (decide (127 < n1))
      (pCall (p_wire_Writer_Byte N (bor .u8 (wr .u8 (band .u64 n1 127)) 128) w0) fun x0 =>
      p_wire_Writer_Uint_l1 N k0 n (shrI .u64 n1 7) x0)
      (k0 (n1, w0))
def p_wire_Writer_Uint (N : Nat) (n1 : Int) (w0 : List Int) : Option (List Int) :=
  p_wire_Writer_Uint_l1 N
    (fun x0 => pCall (p_wire_Writer_Byte N (wr .u8 x0.1) x0.2) fun x1 =>
      some x1) N n1 w0
def slices_Clone_byte_byte (N : Nat) (s0 : List Int) : Option (List Int) :=
  pNil s0
    (some [])
    (pCk (room 1 (len ([] ++ s0))) <|
    some ([] ++ s0))
def p_wire_Writer_Bytes (N : Nat) (w0 : List Int) : Option ((List Int) × List Int) :=
  pCall (slices_Clone_byte_byte N w0) fun x0 =>
  some (x0, w0)
def bits_gaps_l7 (N : Nat) (k0 : List Int → Option (List Int)) : Nat → Int → (List Int) → Int → Int → (List Int) → Option (List Int)
  | 0, _, _, _, _, _ => none
  | n + 1, next4, t15, t16, t17, w3 =>
    pIf (decide (t17 < t16))
      (pIdx t15 t17 fun x0 =>
      pCall (p_wire_Writer_Uint N (wr .u64 (wr .i64 (x0 - next4))) w3) fun x1 =>
      bits_gaps_l7 N k0 n (wr .i64 (x0 + 1)) t15 t16 (wr .i64 (t17 + 1)) x1)
      (k0 w3)
def bits_gaps (N : Nat) (s0 : List Int) : Option (List Int) :=
  pCall (wire_New N) fun x0 =>
  pCall (p_wire_Writer_Byte N 1 x0) fun x1 =>
  pCall (p_wire_Writer_Uint N (wr .u64 (len s0)) x1) fun x2 =>
  bits_gaps_l7 N
    (fun x3 => pCall (p_wire_Writer_Bytes N x3) fun x4 =>
      some x4.1) N 0 s0 (len s0) 0 x2
def bits_split_l4 (N : Nat) (k0 : List ZP030 → Option (List ZP030)) : Nat → (List Int) → Int → Int → (List ZP030) → Option (List ZP030)
  | 0, _, _, _, _ => none
  | n + 1, t7, t8, t9, out3 =>
    pIf (decide (t9 < t8))
      (pJoin (fun (x0 : (List Int) × Int × Int × List ZP030) =>
        bits_split_l4 N k0 n x0.1 x0.2.1 (wr .i64 (x0.2.2.1 + 1)) x0.2.2.2) fun J0 =>
      pIdx t7 t9 fun x1 =>
      pCk (!(decide (0 ≤ (wr .i64 ((len out3) - 1)))) || ((decide (0 ≤ (wr .i64 ((len out3) - 1)))) && (decide ((wr .i64 ((len out3) - 1)) < (len out3))))) <|
      pIdxG (decide (0 ≤ (wr .i64 ((len out3) - 1)))) (0, 0) out3 (wr .i64 ((len out3) - 1)) fun x2 =>
      pCk (!(decide (0 ≤ (wr .i64 ((len out3) - 1)))) || ((decide (0 ≤ (wr .i64 ((len out3) - 1)))) && (decide ((wr .i64 ((len out3) - 1)) < (len out3))))) <|
      pIdxG (decide (0 ≤ (wr .i64 ((len out3) - 1)))) (0, 0) out3 (wr .i64 ((len out3) - 1)) fun x3 =>
      pLet (pick (decide (0 ≤ (wr .i64 ((len out3) - 1)))) (decide ((wr .i64 (x2.1 + x3.2)) = x1)) false) fun x4 =>
      pIf x4
        (pCk ((decide (0 ≤ (wr .i64 ((len out3) - 1)))) && (decide ((wr .i64 ((len out3) - 1)) < (len out3)))) <|
        pIdx out3 (wr .i64 ((len out3) - 1)) fun x5 =>
        pCk ((decide (0 ≤ (wr .i64 ((len out3) - 1)))) && (decide ((wr .i64 ((len out3) - 1)) < (len out3)))) <|
        pIdx out3 (wr .i64 ((len out3) - 1)) fun x6 =>
        J0 (t7, t8, t9, (setI out3 (wr .i64 ((len out3) - 1)) (x6.1, (wr .i64 (x5.2 + 1))))))
        (pCk (room 16 (len (out3 ++ [(x1, 1)]))) <|
        J0 (t7, t8, t9, (out3 ++ [(x1, 1)]))))
      (k0 out3)
def bits_split (N : Nat) (s0 : List Int) : Option (List ZP030) :=
  bits_split_l4 N
    (fun x0 => some x0) N s0 (len s0) 0 []
def bits_runs_l8 (N : Nat) (k0 : List Int → Option (List Int)) : Nat → Int → (List ZP030) → Int → Int → (List Int) → Option (List Int)
  | 0, _, _, _, _, _ => none
  | n + 1, next5, t18, t19, t20, w4 =>
    pIf (decide (t20 < t19))
      (pIdx t18 t20 fun x0 =>
      pCall (p_wire_Writer_Uint N (wr .u64 (wr .i64 (x0.1 - next5))) w4) fun x1 =>
      pCall (p_wire_Writer_Uint N (wr .u64 (wr .i64 (x0.2 - 1))) x1) fun x2 =>
      bits_runs_l8 N k0 n (wr .i64 ((wr .i64 (x0.1 + x0.2)) + 1)) t18 t19 (wr .i64 (t20 + 1)) x2)
      (k0 w4)
def bits_runs (N : Nat) (s0 : List Int) : Option (List Int) :=
  pCall (bits_split N s0) fun x0 =>
  pCall (wire_New N) fun x1 =>
  pCall (p_wire_Writer_Byte N 2 x1) fun x2 =>
  pCall (p_wire_Writer_Uint N (wr .u64 (len x0)) x2) fun x3 =>
  bits_runs_l8 N
    (fun x4 => pCall (p_wire_Writer_Bytes N x4) fun x5 =>
      some x5.1) N 0 x0 (len x0) 0 x3
def bits_laid (N : Nat) (n0 : Int) (s1 : List Int) (way2 : Int) : Option (List Int) :=
  pIf (decide (way2 = 0))
    (pCall (bits_plain N n0 s1) fun x0 =>
    some x0)
    (pIf (decide (way2 = 1))
      (pCall (bits_gaps N s1) fun x0 =>
      some x0)
      (pIf (decide (way2 = 2))
        (pCall (bits_runs N s1) fun x0 =>
        some x0)
        (some [])))
def bits_Way_l6 (N : Nat) (k0 : Int → Option (Int)) : Nat → Int → (List Int) → Int → ZP030 → Int → Option (Int)
  | 0, _, _, _, _, _ => none
  | n + 1, n0, s1, best5, t12, t13 =>
    pIf (decide (t13 < 2))
      (pIdx [t12.1, t12.2] t13 fun x0 =>
      pCall (bits_laid N n0 s1 x0) fun x1 =>
      pCall (bits_laid N n0 s1 best5) fun x2 =>
      pJoin (fun (x3 : Int × (List Int) × Int × ZP030 × Int) =>
        bits_Way_l6 N k0 n x3.1 x3.2.1 x3.2.2.1 x3.2.2.2.1 (wr .i64 (x3.2.2.2.2 + 1))) fun J3 =>
      pIf (decide ((len x1) < (len x2)))
        (J3 (n0, s1, x0, t12, t13))
        (J3 (n0, s1, best5, t12, t13)))
      (k0 best5)
def bits_Way (N : Nat) (n0 : Int) (s1 : List Int) : Option (Int) :=
  pCall (bits_Right N n0 s1) fun x0 =>
  pIf (!x0)
    (some (-1))
    (bits_Way_l6 N
      (fun x1 => some x1) N n0 s1 0 (1, 2) 0)
def p_wire_Writer_Raw (N : Nat) (b1 : List Int) (w0 : List Int) : Option (List Int) :=
  pCk (room 1 (len (w0 ++ b1))) <|
  some (w0 ++ b1)
def bits_Write (N : Nat) (n1 : Int) (s2 : List Int) (w0 : List Int) : Option (Err × List Int) :=
  pCall (bits_Right N n1 s2) fun x0 =>
  pIf (!x0)
    (some ((Err.no 1), w0))
    (pCall (bits_Way N n1 s2) fun x1 =>
    pCall (bits_laid N n1 s2 x1) fun x2 =>
    pCall (p_wire_Writer_Raw N x2 w0) fun x3 =>
    some (Err.nil, x3))
def wire_Read (N : Nat) (b0 : List Int) : Option ((List Int) × Int) :=
  pCall (slices_Clone_byte_byte N b0) fun x0 =>
  some (x0, 0)
def p_wire_Reader_At (N : Nat) (r0_0 : List Int) (r0_1 : Int) : Option (Int × (List Int) × Int) :=
  some (r0_1, r0_0, r0_1)
def fault_At (N : Nat) (x : Err) (y : List Int) : Option Err := zAt x y
def p_wire_Reader_Copy (N : Nat) (r0_0 : List Int) (r0_1 : Int) : Option ((List Int) × Int × (List Int) × Int) :=
  some (r0_0, r0_1, r0_0, r0_1)
def p_wire_Reader_wrong (N : Nat) (kv1 : Int) (r0_0 : List Int) (r0_1 : Int) : Option (Err × (List Int) × Int) :=
  pCall (p_wire_Reader_At N r0_0 r0_1) fun x0 =>
  pCall (fault_At N (Err.no kv1) [x0.1]) fun x1 =>
  some (x1, x0.2.1, x0.2.2)
def p_wire_Reader_Byte (N : Nat) (r0_0 : List Int) (r0_1 : Int) : Option (Int × Err × (List Int) × Int) :=
  pIf (decide (r0_1 = (len r0_0)))
    (pCall (p_wire_Reader_wrong N 2 r0_0 r0_1) fun x0 =>
    some (0, x0.1, x0.2.1, x0.2.2))
    (pIdx r0_0 (wr .i64 ((wr .i64 (r0_1 + 1)) - 1)) fun x0 =>
    some (x0, Err.nil, r0_0, (wr .i64 (r0_1 + 1))))
def p_wire_Reader_Left (N : Nat) (r0_0 : List Int) (r0_1 : Int) : Option (Int × (List Int) × Int) :=
  some ((wr .i64 ((len r0_0) - r0_1)), r0_0, r0_1)
def p_wire_Reader_Raw (N : Nat) (n1 : Int) (r0_0 : List Int) (r0_1 : Int) : Option ((List Int) × Err × (List Int) × Int) :=
  pLet (pick false true (decide (n1 < 0))) fun x0 =>
  pIf x0
    (pCall (p_wire_Reader_wrong N 1 r0_0 r0_1) fun x1 =>
    some ([], x1.1, x1.2.1, x1.2.2))
    (pCall (p_wire_Reader_Left N r0_0 r0_1) fun x1 =>
    pIf (decide (x1.1 < n1))
      (pCall (p_wire_Reader_wrong N 2 x1.2.1 x1.2.2) fun x2 =>
      some ([], x2.1, x2.2.1, x2.2.2))
      (pCk ((decide (0 ≤ (wr .i64 (x1.2.2 + n1)))) && (decide ((wr .i64 (x1.2.2 + n1)) ≤ (len x1.2.1)))) <|
      pCk ((decide (0 ≤ (wr .i64 ((wr .i64 (x1.2.2 + n1)) - n1)))) && (decide ((wr .i64 ((wr .i64 (x1.2.2 + n1)) - n1)) ≤ (wr .i64 (x1.2.2 + n1))))) <|
      pCall (slices_Clone_byte_byte N (sub x1.2.1 (wr .i64 ((wr .i64 (x1.2.2 + n1)) - n1)) (wr .i64 (x1.2.2 + n1)))) fun x2 =>
      some (x2, Err.nil, x1.2.1, (wr .i64 (x1.2.2 + n1)))))
def bits_fromPlain_l7 (N : Nat) (k0 : (List Int) × Int × List Int → Option ((List Int) × Err × (List Int) × Int)) (k1 : (List Int) × Err × (List Int) × Int → Option ((List Int) × Err × (List Int) × Int)) : Nat → Int → (List Int) → Int → Int → (List Int) → Int → (List Int) → Option ((List Int) × Err × (List Int) × Int)
  | 0, _, _, _, _, _, _, _ => none
  | n + 1, n1, b6, t24, t25, r0_0, r0_1, s8 =>
    pIf (decide (t25 < t24))
      (pJoin (fun (x0 : Int × (List Int) × Int × Int × (List Int) × Int × List Int) =>
        bits_fromPlain_l7 N k0 k1 n x0.1 x0.2.1 x0.2.2.1 (wr .i64 (x0.2.2.2.1 + 1)) x0.2.2.2.2.1 x0.2.2.2.2.2.1 x0.2.2.2.2.2.2) fun J0 =>
      pIdx b6 (quoI .i64 t25 8) fun x1 =>
      pCk (decide (0 ≤ (remI t25 8))) <|
      pIf (decide ((band .u8 (shrI .u8 x1 (remI t25 8)) 1) = 0))
        (J0 (n1, b6, t24, t25, r0_0, r0_1, s8))
        (pIf (decide (n1 ≤ t25))
          (k1 ([], (Err.no 3), r0_0, r0_1))
          (pCk (room 8 (len (s8 ++ [t25]))) <|
          J0 (n1, b6, t24, t25, r0_0, r0_1, (s8 ++ [t25])))))
      (k0 (r0_0, r0_1, s8))
def bits_fromPlain (N : Nat) (n1 : Int) (r0_0 : List Int) (r0_1 : Int) : Option ((List Int) × Err × (List Int) × Int) :=
  pCall (p_wire_Reader_Raw N (quoI .i64 (wr .i64 ((wr .i64 (n1 + 8)) - 1)) 8) r0_0 r0_1) fun x0 =>
  pIf (!(errNil x0.2.1))
    (some ([], x0.2.1, x0.2.2.1, x0.2.2.2))
    (bits_fromPlain_l7 N
      (fun x1 => some (x1.2.2, Err.nil, x1.1, x1.2.1))
      (fun x1 => some x1) N n1 x0.1 (wr .i64 (8 * (len x0.1))) 0 x0.2.2.1 x0.2.2.2 [])
def p_wire_Reader_look_l4 (N : Nat) (k0 : (List Int) × Int → Option (Int × Int × Int × (List Int) × Int)) (k1 : Int × Int × Int × (List Int) × Int → Option (Int × Int × Int × (List Int) × Int)) : Nat → Int → Int → Int → (List Int) → Int → Option (Int × Int × Int × (List Int) × Int)
  | 0, _, _, _, _, _ => none
  | n + 1, most1, n7, t10, r0_0, r0_1 =>
    pIf (decide (t10 < 10))
      (pIf (decide ((wr .i64 (r0_1 + t10)) = (len r0_0)))
        (k1 (0, 0, 2, r0_0, r0_1))
        (pIdx r0_0 (wr .i64 (r0_1 + t10)) fun x0 =>
        pLet (pick (decide (t10 = 9)) (decide (1 < x0)) false) fun x1 =>
        pIf x1
          (k1 (0, 0, 3, r0_0, r0_1))
          (pCk (decide (0 ≤ (wr .i64 (7 * t10)))) <|
          pIf (!decide ((band .u8 x0 128) = 0))
            (p_wire_Reader_look_l4 N k0 k1 n most1 (bor .u64 n7 (shlI .u64 (wr .u64 (band .u8 x0 127)) (wr .i64 (7 * t10)))) (wr .i64 (t10 + 1)) r0_0 r0_1)
            (pLet (pick (decide (x0 = 0)) (decide (0 < t10)) false) fun x2 =>
            pIf x2
              (k1 (0, 0, 3, r0_0, r0_1))
              (pIf (decide (most1 < (bor .u64 n7 (shlI .u64 (wr .u64 (band .u8 x0 127)) (wr .i64 (7 * t10))))))
                (k1 (0, 0, 4, r0_0, r0_1))
                (k1 ((bor .u64 n7 (shlI .u64 (wr .u64 (band .u8 x0 127)) (wr .i64 (7 * t10)))), (wr .i64 (t10 + 1)), 0, r0_0, r0_1)))))))
      (k0 (r0_0, r0_1))
def p_wire_Reader_look (N : Nat) (most1 : Int) (r0_0 : List Int) (r0_1 : Int) : Option (Int × Int × Int × (List Int) × Int) :=
  p_wire_Reader_look_l4 N
    (fun x0 => some (0, 0, 3, x0.1, x0.2))
    (fun x0 => some x0) N most1 0 0 r0_0 r0_1
def p_wire_Reader_Uint (N : Nat) (most1 : Int) (r0_0 : List Int) (r0_1 : Int) : Option (Int × Err × (List Int) × Int) :=
  pCall (p_wire_Reader_look N most1 r0_0 r0_1) fun x0 =>
  pIf (!decide (x0.2.2.1 = 0))
    (pCall (p_wire_Reader_wrong N x0.2.2.1 x0.2.2.2.1 x0.2.2.2.2) fun x1 =>
    some (0, x1.1, x1.2.1, x1.2.2))
    (some (x0.1, Err.nil, x0.2.2.2.1, (wr .i64 (x0.2.2.2.2 + x0.2.1))))
def bits_taken (N : Nat) (above1 : Int) (n2 : Int) (r0_0 : List Int) (r0_1 : Int) : Option (Int × Err × (List Int) × Int) :=
  pIf (decide (n2 ≤ above1))
    (some (0, (Err.no 4), r0_0, r0_1))
    (pCall (p_wire_Reader_Uint N (wr .u64 (wr .i64 ((wr .i64 (n2 - 1)) - above1))) r0_0 r0_1) fun x0 =>
    some ((wr .i64 (above1 + (wr .i64 x0.1))), x0.2.1, x0.2.2.1, x0.2.2.2))
def bits_fromGaps_l8 (N : Nat) (k0 : (List Int) × Int × List Int → Option ((List Int) × Err × (List Int) × Int)) (k1 : (List Int) × Err × (List Int) × Int → Option ((List Int) × Err × (List Int) × Int)) : Nat → Int → Int → Int → Int → (List Int) → Int → (List Int) → Option ((List Int) × Err × (List Int) × Int)
  | 0, _, _, _, _, _, _, _ => none
  | n + 1, n1, next9, t22, t23, r0_0, r0_1, s8 =>
    pIf (decide (t23 < t22))
      (pCall (bits_taken N next9 n1 r0_0 r0_1) fun x0 =>
      pIf (!(errNil x0.2.1))
        (k1 ([], x0.2.1, x0.2.2.1, x0.2.2.2))
        (pCk (room 8 (len (s8 ++ [x0.1]))) <|
        bits_fromGaps_l8 N k0 k1 n n1 (wr .i64 (x0.1 + 1)) t22 (wr .u64 (t23 + 1)) x0.2.2.1 x0.2.2.2 (s8 ++ [x0.1])))
      (k0 (r0_0, r0_1, s8))
def bits_fromGaps (N : Nat) (n1 : Int) (r0_0 : List Int) (r0_1 : Int) : Option ((List Int) × Err × (List Int) × Int) :=
  pCall (p_wire_Reader_Uint N (wr .u64 n1) r0_0 r0_1) fun x0 =>
  pIf (!(errNil x0.2.1))
    (some ([], x0.2.1, x0.2.2.1, x0.2.2.2))
    (bits_fromGaps_l8 N
      (fun x1 => some (x1.2.2, Err.nil, x1.1, x1.2.1))
      (fun x1 => some x1) N n1 0 x0.1 0 x0.2.2.1 x0.2.2.2 [])
def bits_fromRuns_l16 (N : Nat) (k0 : Int × Int × Int × Int × (List Int) × Int × List Int → Option ((List Int) × Err × (List Int) × Int)) : Nat → Int → Int → Int → Int → Int → (List Int) → Int → (List Int) → Option ((List Int) × Err × (List Int) × Int)
  | 0, _, _, _, _, _, _, _, _ => none
  | n + 1, n1, last12, xv13, t24, t25, r0_0, r0_1, s8 =>
    pIf (decide (xv13 ≤ last12))
      (pCk (room 8 (len (s8 ++ [xv13]))) <|
      bits_fromRuns_l16 N k0 n n1 last12 (wr .i64 (xv13 + 1)) t24 t25 r0_0 r0_1 (s8 ++ [xv13]))
      (k0 (n1, last12, t24, t25, r0_0, r0_1, s8))
def bits_fromRuns_l8 (N : Nat) (k0 : (List Int) × Int × List Int → Option ((List Int) × Err × (List Int) × Int)) (k1 : (List Int) × Err × (List Int) × Int → Option ((List Int) × Err × (List Int) × Int)) : Nat → Int → Int → Int → Int → (List Int) → Int → (List Int) → Option ((List Int) × Err × (List Int) × Int)
  | 0, _, _, _, _, _, _, _ => none
  | n + 1, n1, next9, t24, t25, r0_0, r0_1, s8 =>
    pIf (decide (t25 < t24))
      (pCall (bits_taken N next9 n1 r0_0 r0_1) fun x0 =>
      pIf (!(errNil x0.2.1))
        (k1 ([], x0.2.1, x0.2.2.1, x0.2.2.2))
        (pCall (bits_taken N x0.1 n1 x0.2.2.1 x0.2.2.2) fun x1 =>
        pIf (!(errNil x1.2.1))
          (k1 ([], x1.2.1, x1.2.2.1, x1.2.2.2))
          (bits_fromRuns_l16 N
            (fun x2 => bits_fromRuns_l8 N k0 k1 n x2.1 (wr .i64 (x2.2.1 + 2)) x2.2.2.1 (wr .u64 (x2.2.2.2.1 + 1)) x2.2.2.2.2.1 x2.2.2.2.2.2.1 x2.2.2.2.2.2.2) N n1 x1.1 x0.1 t24 t25 x1.2.2.1 x1.2.2.2 s8)))
      (k0 (r0_0, r0_1, s8))
def bits_fromRuns (N : Nat) (n1 : Int) (r0_0 : List Int) (r0_1 : Int) : Option ((List Int) × Err × (List Int) × Int) :=
  pCall (p_wire_Reader_Uint N (wr .u64 n1) r0_0 r0_1) fun x0 =>
  pIf (!(errNil x0.2.1))
    (some ([], x0.2.1, x0.2.2.1, x0.2.2.2))
    (bits_fromRuns_l8 N
      (fun x1 => some (x1.2.2, Err.nil, x1.1, x1.2.1))
      (fun x1 => some x1) N n1 0 x0.1 0 x0.2.2.1 x0.2.2.2 [])
def bits_body (N : Nat) (n1 : Int) (r0_0 : List Int) (r0_1 : Int) : Option ((List Int) × Err × (List Int) × Int) :=
  pCall (p_wire_Reader_Byte N r0_0 r0_1) fun x0 =>
  pIf (!(errNil x0.2.1))
    (some ([], x0.2.1, x0.2.2.1, x0.2.2.2))
    (pIf (decide (x0.1 = 0))
      (pCall (bits_fromPlain N n1 x0.2.2.1 x0.2.2.2) fun x1 =>
      some (x1.1, x1.2.1, x1.2.2.1, x1.2.2.2))
      (pIf (decide (x0.1 = 1))
        (pCall (bits_fromGaps N n1 x0.2.2.1 x0.2.2.2) fun x1 =>
        some (x1.1, x1.2.1, x1.2.2.1, x1.2.2.2))
        (pIf (decide (x0.1 = 2))
          (pCall (bits_fromRuns N n1 x0.2.2.1 x0.2.2.2) fun x1 =>
          some (x1.1, x1.2.1, x1.2.2.1, x1.2.2.2))
          (some ([], (Err.no 5), x0.2.2.1, x0.2.2.2)))))
def fault_Kind (N : Nat) (x : Err) : Option Int := zKind x
def bytes_Equal (N : Nat) (a0 : List Int) (b1 : List Int) : Option (Bool) :=
  some (decide ((toStr a0) = (toStr b1)))
def bits_Read (N : Nat) (n1 : Int) (r0_0 : List Int) (r0_1 : Int) : Option ((List Int) × Err × (List Int) × Int) :=
  pCall (p_wire_Reader_At N r0_0 r0_1) fun x0 =>
  pLet (pick false true (decide (n1 < 0))) fun x1 =>
  pLet (pick x1 true (decide (4096 < n1))) fun x2 =>
  pIf x2
    (pCall (fault_At N (Err.no 1) [x0.1]) fun x3 =>
    some ([], x3, x0.2.1, x0.2.2))
    (pCall (p_wire_Reader_Copy N x0.2.1 x0.2.2) fun x3 =>
    pCall (bits_body N n1 x3.1 x3.2.1) fun x4 =>
    pIf (!(errNil x4.2.1))
      (pCall (fault_Kind N x4.2.1) fun x5 =>
      pCall (fault_At N (Err.no x5) [x0.1]) fun x6 =>
      some ([], x6, x3.2.2.1, x3.2.2.2))
      (pCall (p_wire_Reader_At N x4.2.2.1 x4.2.2.2) fun x5 =>
      pCall (p_wire_Reader_Copy N x3.2.2.1 x3.2.2.2) fun x6 =>
      pCall (p_wire_Reader_Raw N (wr .i64 (x5.1 - x0.1)) x6.1 x6.2.1) fun x7 =>
      pCallG (!(!(errNil x7.2.1))) 0 (bits_Way N n1 x4.1) fun x8 =>
      pCallG (!(!(errNil x7.2.1))) [] (bits_laid N n1 x4.1 x8) fun x9 =>
      pCallG (!(!(errNil x7.2.1))) false (bytes_Equal N x7.1 x9) fun x10 =>
      pLet (pick (!(errNil x7.2.1)) true (!x10)) fun x11 =>
      pIf x11
        (pCall (fault_At N (Err.no 3) [x0.1]) fun x12 =>
        some ([], x12, x6.2.2.1, x6.2.2.2))
        (pCall (p_wire_Reader_Raw N (wr .i64 (x5.1 - x0.1)) x6.2.2.1 x6.2.2.2) fun x12 =>
        some (x4.1, x12.2.1, x12.2.2.1, x12.2.2.2))))
def avermentref01_Same_l5 (N : Nat) (k0 : Unit → Option (Bool)) (k1 : Bool → Option (Bool)) : Nat → (List Int) → (List Int) → Int → Option (Bool)
  | 0, _, _, _ => none
  | n + 1, a0, b1, i5 =>
    pIf (decide (i5 < (len a0)))
      (pIdx a0 i5 fun x0 =>
      pIdx b1 i5 fun x1 =>
      pIf (!decide (x0 = x1))
        (k1 false)
        (avermentref01_Same_l5 N k0 k1 n a0 b1 (wr .i64 (i5 + 1))))
      (k0 ())
def avermentref01_Same (N : Nat) (a0 : List Int) (b1 : List Int) : Option (Bool) :=
  pIf (!decide ((len a0) = (len b1)))
    (some false)
    (avermentref01_Same_l5 N
      (fun x0 => some true)
      (fun x0 => some x0) N a0 b1 0)
def avermentlaw03_lays (N : Nat) : Option (Bool) :=
  pCall (wire_New N) fun x0 =>
  pCall (bits_Write N 16 [0, 1, 2, 3] x0) fun x1 =>
  pCall (p_wire_Writer_Bytes N x1.2) fun x2 =>
  pCall (wire_Read N x2.1) fun x3 =>
  pCall (bits_Read N 16 x3.1 x3.2) fun x4 =>
  pLet (pick (errNil x1.1) (errNil x4.2.1) false) fun x5 =>
  pIf x5
    (pCall (p_wire_Writer_Bytes N x2.2) fun x6 =>
    pLet (pick x5 (decide ((toStr x6.1) = [0, 15, 0])) false) fun x7 =>
    pCallG x7 false (avermentref01_Same N x4.1 [0, 1, 2, 3]) fun x8 =>
    pLet (pick x7 x8 false) fun x9 =>
    pCallG x9 0 (bits_Way N 16 []) fun x10 =>
    pLet (pick x9 (decide (x10 = 1)) false) fun x11 =>
    some x11)
    (pLet (pick x5 (decide ((toStr []) = [0, 15, 0])) false) fun x6 =>
    pCallG x6 false (avermentref01_Same N x4.1 [0, 1, 2, 3]) fun x7 =>
    pLet (pick x6 x7 false) fun x8 =>
    pCallG x8 0 (bits_Way N 16 []) fun x9 =>
    pLet (pick x8 (decide (x9 = 1)) false) fun x10 =>
    some x10)
def avermentref03_Plain_l4 (N : Nat) (k0 : List Int → Option (List Int)) : Nat → (List Int) → Int → (List Int) → Option (List Int)
  | 0, _, _, _ => none
  | n + 1, s1, i6, b5 =>
    pIf (decide (i6 < (len s1)))
      (pIdx s1 i6 fun x0 =>
      pIdx s1 i6 fun x1 =>
      pCk ((decide (0 ≤ (wr .i64 (1 + (quoI .i64 x1 8))))) && (decide ((wr .i64 (1 + (quoI .i64 x1 8))) < (len b5)))) <|
      pIdx b5 (wr .i64 (1 + (quoI .i64 x1 8))) fun x2 =>
      pIdx s1 i6 fun x3 =>
      pCk (decide (0 ≤ (remI x3 8))) <|
      pCk ((decide (0 ≤ (wr .i64 (1 + (quoI .i64 x0 8))))) && (decide ((wr .i64 (1 + (quoI .i64 x0 8))) < (len b5)))) <|
      pIdx b5 (wr .i64 (1 + (quoI .i64 x0 8))) fun x4 =>
      avermentref03_Plain_l4 N k0 n s1 (wr .i64 (i6 + 1)) (setI b5 (wr .i64 (1 + (quoI .i64 x0 8))) (bor .u8 x2 (shlI .u8 1 (remI x3 8)))))
      (k0 b5)
def avermentref03_Plain (N : Nat) (n0 : Int) (s1 : List Int) : Option (List Int) :=
  pCk ((decide (0 ≤ (wr .i64 (1 + (quoI .i64 (wr .i64 (n0 + 7)) 8))))) && (decide ((wr .i64 (1 + (quoI .i64 (wr .i64 (n0 + 7)) 8))) ≤ (wr .i64 (1 + (quoI .i64 (wr .i64 (n0 + 7)) 8)))))) <|
  pCk (room 1 (wr .i64 (1 + (quoI .i64 (wr .i64 (n0 + 7)) 8)))) <|
  avermentref03_Plain_l4 N
    (fun x0 => some x0) N s1 0 (rep (wr .i64 (1 + (quoI .i64 (wr .i64 (n0 + 7)) 8))) 0)
def avermentref02_Uint_b (self : Nat → Int → Option (List Int)) (N : Nat) (n0 : Int) : Option (List Int) :=
    pIf (decide (n0 < 128))
      (some [(wr .u8 n0)])
      (pCall (self N (quoI .u64 n0 128)) fun x0 =>
      pCk (room 1 (len ([(wr .u8 ((wr .u8 (remI n0 128)) + 128))] ++ x0))) <|
      some ([(wr .u8 ((wr .u8 (remI n0 128)) + 128))] ++ x0))
def avermentref02_Uint_f (self : Nat → Int → Option (List Int)) (N : Nat) (x : Int) : Option (List Int) := avermentref02_Uint_b (fun N n0 => self N (n0)) N x
def avermentref02_Uint (N : Nat) (n0 : Int) : Option (List Int) := recF avermentref02_Uint_f N N (n0)
def avermentref03_Gaps_l4 (N : Nat) (k0 : List Int → Option (List Int)) : Nat → (List Int) → Int → (List Int) → Option (List Int)
  | 0, _, _, _ => none
  | n + 1, s0, i4, b3 =>
    pIf (decide (i4 < (len s0)))
      (pIdx s0 i4 fun x0 =>
      pJoin (fun (x1 : (List Int) × Int × Int × List Int) =>
        pCall (avermentref02_Uint N (wr .u64 x1.2.2.1)) fun x2 =>
        pCk (room 1 (len (x1.2.2.2 ++ x2))) <|
        avermentref03_Gaps_l4 N k0 n x1.1 (wr .i64 (x1.2.1 + 1)) (x1.2.2.2 ++ x2)) fun J1 =>
      pIf (decide (0 < i4))
        (pIdx s0 i4 fun x2 =>
        pIdx s0 (wr .i64 (i4 - 1)) fun x3 =>
        J1 (s0, i4, (wr .i64 ((wr .i64 (x2 - x3)) - 1)), b3))
        (J1 (s0, i4, x0, b3)))
      (k0 b3)
def avermentref03_Gaps (N : Nat) (s0 : List Int) : Option (List Int) :=
  pCall (avermentref02_Uint N (wr .u64 (len s0))) fun x0 =>
  pCk (room 1 (len ([1] ++ x0))) <|
  avermentref03_Gaps_l4 N
    (fun x1 => some x1) N s0 0 ([1] ++ x0)
def avermentref03_Runs_l7 (N : Nat) (k0 : (List Int) × Int × Int × Int × Int × List Int → Option (List Int)) : Nat → (List Int) → Int → Int → Int → Int → (List Int) → Option (List Int)
  | 0, _, _, _, _, _, _ => none
  | n + 1, s0, runs4, end5, i6, kv7, l3 =>
    pIdxG (decide (kv7 < (len s0))) 0 s0 kv7 fun x0 =>
    pIdxG (decide (kv7 < (len s0))) 0 s0 (wr .i64 (kv7 - 1)) fun x1 =>
    pLet (pick (decide (kv7 < (len s0))) (decide (x0 = (wr .i64 (x1 + 1)))) false) fun x2 =>
    pIf x2
      (avermentref03_Runs_l7 N k0 n s0 runs4 end5 i6 (wr .i64 (kv7 + 1)) l3)
      (k0 (s0, runs4, end5, i6, kv7, l3))
def avermentref03_Runs_l5 (N : Nat) (k0 : Int × List Int → Option (List Int)) : Nat → (List Int) → Int → Int → Int → (List Int) → Option (List Int)
  | 0, _, _, _, _, _ => none
  | n + 1, s0, runs4, end5, i6, l3 =>
    pIf (decide (i6 < (len s0)))
      (avermentref03_Runs_l7 N
        (fun x0 => pIdx x0.1 x0.2.2.2.1 fun x1 =>
          pJoin (fun (x2 : (List Int) × Int × Int × Int × Int × List Int) =>
            pCall (avermentref02_Uint N (wr .u64 x2.2.2.2.2.1)) fun x3 =>
            pCk (room 1 (len (x2.2.2.2.2.2 ++ x3))) <|
            pCall (avermentref02_Uint N (wr .u64 (wr .i64 ((wr .i64 (x2.2.2.2.1 - x2.2.2.1)) - 1)))) fun x4 =>
            pCk (room 1 (len ((x2.2.2.2.2.2 ++ x3) ++ x4))) <|
            pIdx x2.1 (wr .i64 (x2.2.2.2.1 - 1)) fun x5 =>
            avermentref03_Runs_l5 N k0 n x2.1 (wr .i64 (x2.2.1 + 1)) x5 x2.2.2.2.1 ((x2.2.2.2.2.2 ++ x3) ++ x4)) fun J2 =>
          pIf (decide (0 < x0.2.1))
            (pIdx x0.1 x0.2.2.2.1 fun x3 =>
            J2 (x0.1, x0.2.1, x0.2.2.2.1, x0.2.2.2.2.1, (wr .i64 ((wr .i64 (x3 - x0.2.2.1)) - 2)), x0.2.2.2.2.2))
            (J2 (x0.1, x0.2.1, x0.2.2.2.1, x0.2.2.2.2.1, x1, x0.2.2.2.2.2))) N s0 runs4 end5 i6 (wr .i64 (i6 + 1)) l3)
      (k0 (runs4, l3))
def avermentref03_Runs (N : Nat) (s0 : List Int) : Option (List Int) :=
  avermentref03_Runs_l5 N
    (fun x0 => pCall (avermentref02_Uint N (wr .u64 x0.1)) fun x1 =>
      pCk (room 1 (len ([2] ++ x1))) <|
      pCk (room 1 (len (([2] ++ x1) ++ x0.2))) <|
      some (([2] ++ x1) ++ x0.2)) N s0 0 0 0 []
def fault_Is (N : Nat) (x : Err) (y : Int) : Option Bool := zIs x y
def avermentlaw03_BitsOnce_l10 (N : Nat) (k0 : (List Int) × (List Int) × Int × (List Int) × List Int → Option (Bool)) (k1 : Bool → Option (Bool)) : Nat → Int → (List Int) → (List Int) → Int → Int → (List Int) → (List Int) → (List (List Int)) → Option (Bool)
  | 0, _, _, _, _, _, _, _, _ => none
  | n + 1, kv7, a8, b9, taken13, i14, v10, w11, ways12 =>
    pIf (decide (i14 < 3))
      (pCk ((decide (0 ≤ i14)) && (decide (i14 < (len ways12)))) <|
      pIdx ways12 i14 fun x0 =>
      pCall (wire_Read N x0) fun x1 =>
      pCall (bits_Read N kv7 x1.1 x1.2) fun x2 =>
      pJoin (fun (x3 : Int × (List Int) × (List Int) × Int × Int × (List Int) × (List Int) × List (List Int)) =>
        avermentlaw03_BitsOnce_l10 N k0 k1 n x3.1 x3.2.1 x3.2.2.1 x3.2.2.2.1 (wr .i64 (x3.2.2.2.2.1 + 1)) x3.2.2.2.2.2.1 x3.2.2.2.2.2.2.1 x3.2.2.2.2.2.2.2) fun J3 =>
      pIf (errNil x2.2.1)
        (pCall (avermentref01_Same N x2.1 a8) fun x4 =>
        pIf (!x4)
          (k1 false)
          (J3 (kv7, a8, b9, (wr .i64 (taken13 + 1)), i14, v10, w11, ways12)))
        (pCall (fault_Is N x2.2.1 3) fun x4 =>
        pIf (!x4)
          (k1 false)
          (J3 (kv7, a8, b9, taken13, i14, v10, w11, ways12))))
      (k0 (a8, b9, taken13, v10, w11))
def avermentlaw03_BitsOnce (N : Nat) (n0 : Int) (xv1 : List Int) (yv2 : List Int) : Option (Bool) :=
  pCall (avermentlaw03_Set N (wr .i64 (1 + (wr .i64 (remI (wr .u64 n0) 200)))) xv1) fun x0 =>
  pCall (avermentlaw03_Set N (wr .i64 (1 + (wr .i64 (remI (wr .u64 n0) 200)))) yv2) fun x1 =>
  pCall (wire_New N) fun x2 =>
  pCall (wire_New N) fun x3 =>
  pCall (bits_Write N (wr .i64 (1 + (wr .i64 (remI (wr .u64 n0) 200)))) x0 x2) fun x4 =>
  pIf (!(!(errNil x4.1)))
    (pCall (bits_Write N (wr .i64 (1 + (wr .i64 (remI (wr .u64 n0) 200)))) x1 x3) fun x5 =>
    pLet (pick (!(errNil x4.1)) true (!(errNil x5.1))) fun x6 =>
    pIf x6
      (some false)
      (pCall (avermentref03_Plain N (wr .i64 (1 + (wr .i64 (remI (wr .u64 n0) 200)))) x0) fun x7 =>
      pCall (avermentref03_Gaps N x0) fun x8 =>
      pCall (avermentref03_Runs N x0) fun x9 =>
      avermentlaw03_BitsOnce_l10 N
        (fun x10 => pCall (avermentlaw03_lays N) fun x11 =>
          pLet (pick x11 (decide (x10.2.2.1 = 1)) false) fun x12 =>
          pIf x12
            (pCall (p_wire_Writer_Bytes N x10.2.2.2.1) fun x13 =>
            pIf x12
              (pCall (p_wire_Writer_Bytes N x10.2.2.2.2) fun x14 =>
              pCallG x12 false (avermentref01_Same N x10.1 x10.2.1) fun x15 =>
              pLet (pick x12 (((decide ((toStr x13.1) = (toStr x14.1))) == x15)) false) fun x16 =>
              some x16)
              (pCallG x12 false (avermentref01_Same N x10.1 x10.2.1) fun x14 =>
              pLet (pick x12 (((decide ((toStr x13.1) = (toStr []))) == x14)) false) fun x15 =>
              some x15))
            (pIf x12
              (pCall (p_wire_Writer_Bytes N x10.2.2.2.2) fun x13 =>
              pCallG x12 false (avermentref01_Same N x10.1 x10.2.1) fun x14 =>
              pLet (pick x12 (((decide ((toStr []) = (toStr x13.1))) == x14)) false) fun x15 =>
              some x15)
              (pCallG x12 false (avermentref01_Same N x10.1 x10.2.1) fun x13 =>
              pLet (pick x12 (((decide ((toStr []) = (toStr []))) == x13)) false) fun x14 =>
              some x14)))
        (fun x10 => some x10) N (wr .i64 (1 + (wr .i64 (remI (wr .u64 n0) 200)))) x0 x1 0 0 x4.2 x5.2 [x7, x8, x9]))
    (pLet (pick (!(errNil x4.1)) true (!(errNil Err.nil))) fun x5 =>
    pIf x5
      (some false)
      (pCall (avermentref03_Plain N (wr .i64 (1 + (wr .i64 (remI (wr .u64 n0) 200)))) x0) fun x6 =>
      pCall (avermentref03_Gaps N x0) fun x7 =>
      pCall (avermentref03_Runs N x0) fun x8 =>
      avermentlaw03_BitsOnce_l10 N
        (fun x9 => pCall (avermentlaw03_lays N) fun x10 =>
          pLet (pick x10 (decide (x9.2.2.1 = 1)) false) fun x11 =>
          pIf x11
            (pCall (p_wire_Writer_Bytes N x9.2.2.2.1) fun x12 =>
            pIf x11
              (pCall (p_wire_Writer_Bytes N x9.2.2.2.2) fun x13 =>
              pCallG x11 false (avermentref01_Same N x9.1 x9.2.1) fun x14 =>
              pLet (pick x11 (((decide ((toStr x12.1) = (toStr x13.1))) == x14)) false) fun x15 =>
              some x15)
              (pCallG x11 false (avermentref01_Same N x9.1 x9.2.1) fun x13 =>
              pLet (pick x11 (((decide ((toStr x12.1) = (toStr []))) == x13)) false) fun x14 =>
              some x14))
            (pIf x11
              (pCall (p_wire_Writer_Bytes N x9.2.2.2.2) fun x12 =>
              pCallG x11 false (avermentref01_Same N x9.1 x9.2.1) fun x13 =>
              pLet (pick x11 (((decide ((toStr []) = (toStr x12.1))) == x13)) false) fun x14 =>
              some x14)
              (pCallG x11 false (avermentref01_Same N x9.1 x9.2.1) fun x12 =>
              pLet (pick x11 (((decide ((toStr []) = (toStr []))) == x12)) false) fun x13 =>
              some x13)))
        (fun x9 => some x9) N (wr .i64 (1 + (wr .i64 (remI (wr .u64 n0) 200)))) x0 x1 0 0 x4.2 x3 [x6, x7, x8]))
def cmp_isNaN_int (N : Nat) (xv0 : Int) : Option (Bool) :=
  some (!decide (xv0 = xv0))
def cmp_Less_int (N : Nat) (xv0 : Int) (yv1 : Int) : Option (Bool) :=
  pCall (cmp_isNaN_int N xv0) fun x0 =>
  pCallG x0 false (cmp_isNaN_int N yv1) fun x1 =>
  pLet (pick x0 (!x1) false) fun x2 =>
  pLet (pick x2 true (decide (xv0 < yv1))) fun x3 =>
  some x3
def slices_isNaN_int (N : Nat) (xv0 : Int) : Option (Bool) :=
  some (!decide (xv0 = xv0))
def slices_BinarySearch_int_int_l4 (N : Nat) (k0 : (List Int) × Int × Int × Int → Option (Int × Bool)) : Nat → (List Int) → Int → Int → Int → Int → Option (Int × Bool)
  | 0, _, _, _, _, _ => none
  | n + 1, xv0, target1, n6, i7, j8 =>
    pIf (decide (i7 < j8))
      (pIdx xv0 (wr .i64 (shrI .u64 (wr .u64 (wr .i64 (i7 + j8))) 1)) fun x0 =>
      pCall (cmp_Less_int N x0 target1) fun x1 =>
      pJoin (fun (x2 : (List Int) × Int × Int × Int × Int) =>
        slices_BinarySearch_int_int_l4 N k0 n x2.1 x2.2.1 x2.2.2.1 x2.2.2.2.1 x2.2.2.2.2) fun J2 =>
      pIf x1
        (J2 (xv0, target1, n6, (wr .i64 ((wr .i64 (shrI .u64 (wr .u64 (wr .i64 (i7 + j8))) 1)) + 1)), j8))
        (J2 (xv0, target1, n6, i7, (wr .i64 (shrI .u64 (wr .u64 (wr .i64 (i7 + j8))) 1)))))
      (k0 (xv0, target1, n6, i7))
def slices_BinarySearch_int_int (N : Nat) (xv0 : List Int) (target1 : Int) : Option (Int × Bool) :=
  slices_BinarySearch_int_int_l4 N
    (fun x0 => pIdxG (decide (x0.2.2.2 < x0.2.2.1)) 0 x0.1 x0.2.2.2 fun x1 =>
      pIdxG ((decide (x0.2.2.2 < x0.2.2.1)) && (!(decide (x1 = x0.2.1)))) 0 x0.1 x0.2.2.2 fun x2 =>
      pCallG ((decide (x0.2.2.2 < x0.2.2.1)) && (!(decide (x1 = x0.2.1)))) false (slices_isNaN_int N x2) fun x3 =>
      pCallG (((decide (x0.2.2.2 < x0.2.2.1)) && (!(decide (x1 = x0.2.1)))) && x3) false (slices_isNaN_int N x0.2.1) fun x4 =>
      pLet (pick x3 x4 false) fun x5 =>
      pLet (pick (decide (x1 = x0.2.1)) true x5) fun x6 =>
      pLet (pick (decide (x0.2.2.2 < x0.2.2.1)) x6 false) fun x7 =>
      some (x0.2.2.2, x7)) N xv0 target1 (len xv0) 0 (len xv0)
def bits_Has (N : Nat) (a0 : List Int) (xv1 : Int) : Option (Bool) :=
  pCall (slices_BinarySearch_int_int N a0 xv1) fun x0 =>
  some x0.2
def avermentref03_Has_l3 (N : Nat) (k0 : Unit → Option (Bool)) (k1 : Bool → Option (Bool)) : Nat → (List Int) → Int → Int → Option (Bool)
  | 0, _, _, _ => none
  | n + 1, s0, xv1, i5 =>
    pIf (decide (i5 < (len s0)))
      (pIdx s0 i5 fun x0 =>
      pIf (decide (x0 = xv1))
        (k1 true)
        (avermentref03_Has_l3 N k0 k1 n s0 xv1 (wr .i64 (i5 + 1))))
      (k0 ())
def avermentref03_Has (N : Nat) (s0 : List Int) (xv1 : Int) : Option (Bool) :=
  avermentref03_Has_l3 N
    (fun x0 => some false)
    (fun x0 => some x0) N s0 xv1 0
def avermentlaw03_BitsSets_l7 (N : Nat) (k0 : Int × (List Int) × (List Int) × (List Int) × (List Int) × Bool × Int × Int → Option (Bool)) (k1 : Bool → Option (Bool)) : Nat → Int → (List Int) → (List Int) → (List Int) → (List Int) → Bool → Int → Int → Int → Option (Bool)
  | 0, _, _, _, _, _, _, _, _, _ => none
  | n + 1, z2, a7, b8, u9, m10, within11, i12, j13, kv14 =>
    pIf (decide (kv14 < 60))
      (pCall (avermentref03_Has N a7 kv14) fun x0 =>
      pCall (avermentref03_Has N b8 kv14) fun x1 =>
      pLet (pick (!x0) true x1) fun x2 =>
      pLet (pick within11 x2 false) fun x3 =>
      pLet (pick x0 true x1) fun x4 =>
      pJoin (fun (x5 : Int × (List Int) × (List Int) × (List Int) × (List Int) × Bool × Int × Int × Int × Bool × Bool) =>
        pLet (pick x5.2.2.2.2.2.2.2.2.2.1 (!x5.2.2.2.2.2.2.2.2.2.2) false) fun x6 =>
        pJoin (fun (x7 : Int × (List Int) × (List Int) × (List Int) × (List Int) × Bool × Int × Int × Int × Bool × Bool) =>
          pCall (bits_Has N x7.2.1 x7.2.2.2.2.2.2.2.2.1) fun x8 =>
          pCallG (!(!((x8 == x7.2.2.2.2.2.2.2.2.2.1)))) false (bits_Has N x7.2.2.1 x7.2.2.2.2.2.2.2.2.1) fun x9 =>
          pLet (pick (!((x8 == x7.2.2.2.2.2.2.2.2.2.1))) true (!((x9 == x7.2.2.2.2.2.2.2.2.2.2)))) fun x10 =>
          pIf x10
            (k1 false)
            (avermentlaw03_BitsSets_l7 N k0 k1 n x7.1 x7.2.1 x7.2.2.1 x7.2.2.2.1 x7.2.2.2.2.1 x7.2.2.2.2.2.1 x7.2.2.2.2.2.2.1 x7.2.2.2.2.2.2.2.1 (wr .i64 (x7.2.2.2.2.2.2.2.2.1 + 1)))) fun J7 =>
        pIf x6
          (pIdxG (!(decide ((len x5.2.2.2.2.1) ≤ x5.2.2.2.2.2.2.2.1))) 0 x5.2.2.2.2.1 x5.2.2.2.2.2.2.2.1 fun x8 =>
          pLet (pick (decide ((len x5.2.2.2.2.1) ≤ x5.2.2.2.2.2.2.2.1)) true (!decide (x8 = x5.2.2.2.2.2.2.2.2.1))) fun x9 =>
          pIf x9
            (k1 false)
            (J7 (x5.1, x5.2.1, x5.2.2.1, x5.2.2.2.1, x5.2.2.2.2.1, x5.2.2.2.2.2.1, x5.2.2.2.2.2.2.1, (wr .i64 (x5.2.2.2.2.2.2.2.1 + 1)), x5.2.2.2.2.2.2.2.2.1, x5.2.2.2.2.2.2.2.2.2.1, x5.2.2.2.2.2.2.2.2.2.2)))
          (J7 (x5.1, x5.2.1, x5.2.2.1, x5.2.2.2.1, x5.2.2.2.2.1, x5.2.2.2.2.2.1, x5.2.2.2.2.2.2.1, x5.2.2.2.2.2.2.2.1, x5.2.2.2.2.2.2.2.2.1, x5.2.2.2.2.2.2.2.2.2.1, x5.2.2.2.2.2.2.2.2.2.2))) fun J5 =>
      pIf x4
        (pIdxG (!(decide ((len u9) ≤ i12))) 0 u9 i12 fun x6 =>
        pLet (pick (decide ((len u9) ≤ i12)) true (!decide (x6 = kv14))) fun x7 =>
        pIf x7
          (k1 false)
          (J5 (z2, a7, b8, u9, m10, x3, (wr .i64 (i12 + 1)), j13, kv14, x0, x1)))
        (J5 (z2, a7, b8, u9, m10, x3, i12, j13, kv14, x0, x1)))
      (k0 (z2, a7, b8, u9, m10, within11, i12, j13))
end Go.Y
set_option maxRecDepth 100000
set_option linter.unusedVariables false
noncomputable section
namespace Go.Proofs.YtgenmananhffoaaDoor
open Go.Y Go Go.Shelf
@[reducible] def Y0 : Ty := .int .u8
@[reducible] def Y1 : Ty := .int .i64
@[reducible] def Y2 : Ty := .int .u64
@[reducible] def Y3 : Ty := .sl 5 Y0
@[reducible] def Y4 : Ty := .sl 3 Y1
@[reducible] def Y5 : Ty := .sl 31 Y3
@[reducible] def Y6 : Ty := .sl 22 Y4
@[reducible] def Y7 : Ty := .pair Y1 Y1
@[reducible] def Y8 : Ty := .st Y7
@[reducible] def Y9 : Ty := .pair Y3 Y1
@[reducible] def Y10 : Ty := .pair Y1 Y3
@[reducible] def Y11 : Ty := .pair Y1 Y4
@[reducible] def Y12 : Ty := .st Y9
@[reducible] def Y13 : Ty := .pair Y3 Y3
@[reducible] def Y15 : Ty := .sl 99 Y8
@[reducible] def Y17 : Ty := .pair .err Y9
@[reducible] def Y19 : Ty := .pair Y1 Y9
@[reducible] def Y20 : Ty := .pair Y1 Y10
@[reducible] def Y21 : Ty := .pair Y1 Y13
@[reducible] def Y22 : Ty := .pair Y3 Y11
@[reducible] def Y23 : Ty := .pair Y4 Y11
@[reducible] def Y25 : Ty := .pair Y1 Y19
@[reducible] def Y26 : Ty := .pair Y1 Y20
@[reducible] def Y27 : Ty := .pair Y4 Y17
@[reducible] def Y29 : Ty := .pair Y2 Y22
@[reducible] def Y30 : Ty := .pair Y1 Y23
@[reducible] def Y31 : Ty := .pair Y4 Y21
@[reducible] def Y32 : Ty := .pair Y2 Y25
@[reducible] def Y33 : Ty := .pair Y1 Y26
@[reducible] def Y35 : Ty := .pair Y2 Y29
@[reducible] def Y36 : Ty := .pair Y4 Y31
@[reducible] def Y37 : Ty := .pair Y1 Y35
@[reducible] def Y38 : Ty := .pair Y4 Y33
@[reducible] def Y40 : Ty := .pair Y1 Y37
@[reducible] def R0 : Root Ty := rs [(oc 1 Y4)]
@[reducible] def R1 : Root Ty := rs [(oc 1 Y3)]
@[reducible] def R2 : Root Ty := rv 56 [(oc 1 Y3)]
@[reducible] def R3 : Root Ty := rv 67 [(oc 0 Y3), (oc 0 Y1)]
theorem mix : Tryd.prog.follows .mixedOrders = true := by kernel_rfl
noncomputable def TT : List (Nat × TI) := [(3, ⟨Y1, 1, false, 8, 0, [], true, true⟩), (4, ⟨.bool, 1, false, 1, 0, [], true, true⟩), (5, ⟨Y0, 1, false, 1, 0, [], true, true⟩), (9, ⟨.str, 1, false, 16, 0, [], true, true⟩), (22, ⟨Y4, 1, false, 24, 3, [], false, true⟩), (23, ⟨Y2, 1, false, 8, 0, [], true, true⟩), (26, ⟨(.ptr 56 (.st Y3)), 1, false, 8, 56, [], false, true⟩), (29, ⟨.err, 1, false, 16, 0, [], false, true⟩), (31, ⟨Y3, 1, false, 24, 5, [], false, true⟩), (37, ⟨Y5, 1, false, 24, 31, [], false, true⟩), (40, ⟨(.ptr 67 Y12), 1, false, 8, 67, [], false, true⟩), (44, ⟨Y1, 1, false, 8, 1, [], true, true⟩), (56, ⟨(.st Y3), 1, true, 24, 0, [(0, 31)], false, true⟩), (67, ⟨Y12, 2, true, 32, 0, [(0, 31), (1, 3)], false, true⟩), (69, ⟨Y8, 2, true, 16, 3, [], false, true⟩), (87, ⟨Y6, 1, false, 24, 22, [], false, true⟩), (91, ⟨Y2, 1, false, 8, 0, [], true, true⟩), (96, ⟨Y15, 1, false, 24, 99, [], false, true⟩), (99, ⟨Y8, 2, true, 16, 0, [(0, 3), (1, 3)], true, true⟩)]
theorem tt_ok : ∀ tb : Tabs, tb.tt = TT → TabOk Tryd.prog ids tb := TabOk.tt (by kernel_rfl)
noncomputable def q7 : FD Tryd.prog ids := ⟨7, Tryd.f7, [], [], TT, [40], ⟨[], [], [(4, ⟨⟨[6, 5, 0, 1], [5], [], []⟩, ⟨[(0, (.lf Y1)), (1, (.lf Y4)), (5, (ar 1005 0)), (6, (.lf Y1))], [], [(1005, R0)]⟩, [(0, ⟨(jl [5]), ⟨[(5, (ar 1005 0))], [], [(1005, R0)]⟩⟩)]⟩), (7, ⟨(jl [0, 1, 6, 5, 7]), ⟨[(0, (.lf Y1)), (1, (.lf Y4)), (5, (ar 1005 0)), (6, (.lf Y1)), (7, (.lf Y1))], [], [(1005, R0)]⟩, [(2, ⟨(jl [5, 0, 1, 6]), ⟨[(0, (.lf Y1)), (1, (.lf Y4)), (5, (ar 1005 0)), (6, (.lf Y1))], [], [(1005, R0)]⟩⟩)]⟩)], (lfS [Y4]), none⟩, (lfState [Y1, Y4]), [], j0, [Y1, Y4], Y4, fun N x => avermentlaw03_Set N x.1 x.2, [⟨7, [Y1, Y4, Y1, Y1, Y4], [Y30], fun N n x ks => avermentlaw03_Set_l7 N (fun y => kget ks 0 ⟨Y30, y⟩) n x.1 x.2.1 x.2.2.1 x.2.2.2.1 x.2.2.2.2⟩, ⟨4, [Y1, Y4, Y1, Y4], [Y4], fun N n x ks => avermentlaw03_Set_l4 N (fun y => kget ks 0 ⟨Y4, y⟩) n x.1 x.2.1 x.2.2.1 x.2.2.2⟩]⟩
noncomputable def b7 : BF Tryd.prog ids := q7.bf mix Tryd.func7 tt_ok (fun N => by kernel_rfl) (fun N x => by kernel_rfl) fun N => .cons ⟨by kernel_rfl, fun _ _ => by kernel_rfl, fun _ _ _ => by kernel_rfl⟩ (.cons ⟨by kernel_rfl, fun _ _ => by kernel_rfl, fun _ _ _ => by kernel_rfl⟩ .nil)
noncomputable def q21 : FD Tryd.prog ids := ⟨21, Tryd.f21, [], [], TT, [], ⟨[], [], [(6, ⟨(jl [16, 0, 5, 14, 15]), ⟨[(0, (.lf Y1)), (5, (.lf Y1)), (14, (.lf Y4)), (15, (.lf Y1)), (16, (.lf Y1))], [], []⟩, [(0, (lfS []))]⟩)], (lfS [.bool]), none⟩, (lfState [Y1, Y4]), [], j0, [Y1, Y4], .bool, fun N x => bits_Right N x.1 x.2, [⟨6, [Y1, Y1, Y4, Y1, Y1], [.unit, .bool], fun N n x ks => bits_Right_l6 N (fun y => kget ks 0 ⟨.unit, y⟩) (fun y => kget ks 1 ⟨.bool, y⟩) n x.1 x.2.1 x.2.2.1 x.2.2.2.1 x.2.2.2.2⟩]⟩
noncomputable def b21 : BF Tryd.prog ids := q21.bf mix Tryd.func21 tt_ok (fun N => by kernel_rfl) (fun N x => by kernel_rfl) fun N => .cons ⟨by kernel_rfl, fun _ _ => by kernel_rfl, fun _ _ _ => by kernel_rfl⟩ .nil
noncomputable def q48 : FD Tryd.prog ids := ⟨48, Tryd.f48, [], [], TT, [], ⟨[], [], [(4, ⟨(jl [16, 5, 14, 15]), ⟨[(5, (ar 1005 0)), (14, (.lf Y4)), (15, (.lf Y1)), (16, (.lf Y1))], [], [(1005, R1)]⟩, [(0, ⟨(jl [5]), ⟨[(5, (ar 1005 0))], [], [(1005, R1)]⟩⟩)]⟩)], (lfS [Y3]), none⟩, (lfState [Y1, Y4]), [], j0, [Y1, Y4], Y3, fun N x => bits_plain N x.1 x.2, [⟨4, [Y4, Y1, Y1, Y3], [Y3], fun N n x ks => bits_plain_l4 N (fun y => kget ks 0 ⟨Y3, y⟩) n x.1 x.2.1 x.2.2.1 x.2.2.2⟩]⟩
noncomputable def b48 : BF Tryd.prog ids := q48.bf mix Tryd.func48 tt_ok (fun N => by kernel_rfl) (fun N x => by kernel_rfl) fun N => .cons ⟨by kernel_rfl, fun _ _ => by kernel_rfl, fun _ _ _ => by kernel_rfl⟩ .nil
noncomputable def q9 : FD Tryd.prog ids := ⟨9, Tryd.f9, [], [], TT, [], ⟨[], [], [], ⟨(jl [0]), ⟨[(0, (pt 1000))], [], [(1000, R2)]⟩⟩, none⟩, (lfState []), [], j0, [], Y3, fun N x => wire_New N, []⟩
noncomputable def b9 : BF Tryd.prog ids := q9.bf mix Tryd.func9 tt_ok (fun N => by kernel_rfl) (fun N x => by kernel_rfl) fun N => .nil
noncomputable def q64 : FD Tryd.prog ids := ⟨64, Tryd.f64, [], [], TT, [12], ⟨[], [], [], ⟨(jl [0]), ⟨[(0, (pt 1000))], [], [(1000, R2)]⟩⟩, none⟩, ⟨[(0, (pt 1000)), (1, (.lf Y0))], [], [(1000, R2)]⟩, [0], ⟨[0, 1], [], [], [(1000, 0, 1)]⟩, [Y0, Y3], Y3, fun N x => p_wire_Writer_Byte N x.1 x.2, []⟩
noncomputable def b64 : BF Tryd.prog ids := q64.bf mix Tryd.func64 tt_ok (fun N => by kernel_rfl) (fun N x => by kernel_rfl) fun N => .nil
noncomputable def q65 : FD Tryd.prog ids := ⟨65, Tryd.f65, [b64], [], TT, [], ⟨[], [], [(1, ⟨(jl [1, 0]), ⟨[(0, (pt 1000)), (1, (.lf Y2))], [], [(1000, R2)]⟩, [(0, ⟨(jl [0, 1]), ⟨[(0, (pt 1000)), (1, (.lf Y2))], [], [(1000, R2)]⟩⟩)]⟩)], ⟨(jl [0]), ⟨[(0, (pt 1000))], [], [(1000, R2)]⟩⟩, none⟩, ⟨[(0, (pt 1000)), (1, (.lf Y2))], [], [(1000, R2)]⟩, [0], ⟨[0, 1], [], [], [(1000, 0, 1)]⟩, [Y2, Y3], Y3, fun N x => p_wire_Writer_Uint N x.1 x.2, [⟨1, [Y2, Y3], [(.pair Y2 Y3)], fun N n x ks => p_wire_Writer_Uint_l1 N (fun y => kget ks 0 ⟨(.pair Y2 Y3), y⟩) n x.1 x.2⟩]⟩
noncomputable def b65 : BF Tryd.prog ids := q65.bf mix Tryd.func65 tt_ok (fun N => by kernel_rfl) (fun N x => by kernel_rfl) fun N => .cons ⟨by kernel_rfl, fun _ _ => by kernel_rfl, fun _ _ _ => by kernel_rfl⟩ .nil
noncomputable def q33 : FD Tryd.prog ids := ⟨33, Tryd.f33, [], [], TT, [], ⟨[], [], [], ⟨⟨[0], [0], [], []⟩, ⟨[(0, (ar 1000 0))], [], [(1000, R1)]⟩⟩, none⟩, (lfState [Y3]), [], j0, [Y3], Y3, fun N x => slices_Clone_byte_byte N x, []⟩
noncomputable def b33 : BF Tryd.prog ids := q33.bf mix Tryd.func33 tt_ok (fun N => by kernel_rfl) (fun N x => by kernel_rfl) fun N => .nil
noncomputable def q11 : FD Tryd.prog ids := ⟨11, Tryd.f11, [b33], [], TT, [], ⟨[], [], [], ⟨(jl [0, 1]), ⟨[(0, (ar 1000 0)), (1, (pt 1001))], [], [(1000, R1), (1001, R2)]⟩⟩, none⟩, ⟨[(0, (pt 1000))], [], [(1000, R2)]⟩, [0], ⟨[0], [], [], [(1000, 0, 1)]⟩, [Y3], Y13, fun N x => p_wire_Writer_Bytes N x, []⟩
noncomputable def b11 : BF Tryd.prog ids := q11.bf mix Tryd.func11 tt_ok (fun N => by kernel_rfl) (fun N x => by kernel_rfl) fun N => .nil
noncomputable def q49 : FD Tryd.prog ids := ⟨49, Tryd.f49, [b9, b64, b65, b11], [], TT, [], ⟨[], [], [(7, ⟨(jl [17, 4, 3, 15, 16]), ⟨[(3, (pt 1003)), (4, (.lf Y1)), (15, (.lf Y4)), (16, (.lf Y1)), (17, (.lf Y1))], [], [(1003, R2)]⟩, [(0, ⟨(jl [3]), ⟨[(3, (pt 1003))], [], [(1003, R2)]⟩⟩)]⟩)], (lfS [Y3]), none⟩, (lfState [Y4]), [], j0, [Y4], Y3, fun N x => bits_gaps N x, [⟨7, [Y1, Y4, Y1, Y1, Y3], [Y3], fun N n x ks => bits_gaps_l7 N (fun y => kget ks 0 ⟨Y3, y⟩) n x.1 x.2.1 x.2.2.1 x.2.2.2.1 x.2.2.2.2⟩]⟩
noncomputable def b49 : BF Tryd.prog ids := q49.bf mix Tryd.func49 tt_ok (fun N => by kernel_rfl) (fun N x => by kernel_rfl) fun N => .cons ⟨by kernel_rfl, fun _ _ => by kernel_rfl, fun _ _ _ => by kernel_rfl⟩ .nil
noncomputable def q66 : FD Tryd.prog ids := ⟨66, Tryd.f66, [], [], TT, [44], ⟨[], [(1, ⟨(jl [3, 7, 8, 9]), ⟨[(3, (ar 1003 0)), (7, (.lf Y4)), (8, (.lf Y1)), (9, (.lf Y1))], [], [(1003, (rs [(oc 1 Y15)]))]⟩⟩)], [(4, ⟨⟨[9, 3, 7, 8], [3], [], []⟩, ⟨[(3, (ar 1003 0)), (7, (.lf Y4)), (8, (.lf Y1)), (9, (.lf Y1))], [], [(1003, (rs [(oc 1 Y15)]))]⟩, [(0, ⟨(jl [3]), ⟨[(3, (ar 1003 0))], [], [(1003, (rs [(oc 1 Y15)]))]⟩⟩)]⟩)], (lfS [Y15]), none⟩, (lfState [Y4]), [], j0, [Y4], Y15, fun N x => bits_split N x, [⟨4, [Y4, Y1, Y1, Y15], [Y15], fun N n x ks => bits_split_l4 N (fun y => kget ks 0 ⟨Y15, y⟩) n x.1 x.2.1 x.2.2.1 x.2.2.2⟩]⟩
noncomputable def b66 : BF Tryd.prog ids := q66.bf mix Tryd.func66 tt_ok (fun N => by kernel_rfl) (fun N x => by kernel_rfl) fun N => .cons ⟨by kernel_rfl, fun _ _ => by kernel_rfl, fun _ _ _ => by kernel_rfl⟩ .nil
noncomputable def q50 : FD Tryd.prog ids := ⟨50, Tryd.f50, [b9, b64, b65, b11, b66], [], TT, [], ⟨[], [], [(8, ⟨(jl [20, 4, 5, 18, 19]), ⟨[(4, (pt 1004)), (5, (.lf Y1)), (18, (.lf Y15)), (19, (.lf Y1)), (20, (.lf Y1))], [], [(1004, R2)]⟩, [(0, ⟨(jl [4]), ⟨[(4, (pt 1004))], [], [(1004, R2)]⟩⟩)]⟩)], (lfS [Y3]), none⟩, (lfState [Y4]), [], j0, [Y4], Y3, fun N x => bits_runs N x, [⟨8, [Y1, Y15, Y1, Y1, Y3], [Y3], fun N n x ks => bits_runs_l8 N (fun y => kget ks 0 ⟨Y3, y⟩) n x.1 x.2.1 x.2.2.1 x.2.2.2.1 x.2.2.2.2⟩]⟩
noncomputable def b50 : BF Tryd.prog ids := q50.bf mix Tryd.func50 tt_ok (fun N => by kernel_rfl) (fun N x => by kernel_rfl) fun N => .cons ⟨by kernel_rfl, fun _ _ => by kernel_rfl, fun _ _ _ => by kernel_rfl⟩ .nil
noncomputable def q31 : FD Tryd.prog ids := ⟨31, Tryd.f31, [b48, b49, b50], [], TT, [], (hl [Y3]), (lfState [Y1, Y4, Y1]), [], j0, [Y1, Y4, Y1], Y3, fun N x => bits_laid N x.1 x.2.1 x.2.2, []⟩
noncomputable def b31 : BF Tryd.prog ids := q31.bf mix Tryd.func31 tt_ok (fun N => by kernel_rfl) (fun N x => by kernel_rfl) fun N => .nil
noncomputable def q22 : FD Tryd.prog ids := ⟨22, Tryd.f22, [b21, b31], [], TT, [], ⟨[(26, ⟨(jl [5, 1, 0, 12, 13]), ⟨[(0, (.lf Y1)), (1, (.lf Y4)), (5, (.lf Y1)), (12, (.lf Y8)), (13, (.lf Y1))], [], []⟩⟩)], [], [(6, ⟨(jl [13, 5, 1, 0, 12]), ⟨[(0, (.lf Y1)), (1, (.lf Y4)), (5, (.lf Y1)), (12, (.lf Y8)), (13, (.lf Y1))], [], []⟩, [(0, ⟨(jl [5]), ⟨[(5, (.lf Y1))], [], []⟩⟩)]⟩)], (lfS [Y1]), none⟩, (lfState [Y1, Y4]), [], j0, [Y1, Y4], Y1, fun N x => bits_Way N x.1 x.2, [⟨6, [Y1, Y4, Y1, Y8, Y1], [Y1], fun N n x ks => bits_Way_l6 N (fun y => kget ks 0 ⟨Y1, y⟩) n x.1 x.2.1 x.2.2.1 x.2.2.2.1 x.2.2.2.2⟩]⟩
noncomputable def b22 : BF Tryd.prog ids := q22.bf mix Tryd.func22 tt_ok (fun N => by kernel_rfl) (fun N x => by kernel_rfl) fun N => .cons ⟨by kernel_rfl, fun _ _ => by kernel_rfl, fun _ _ _ => by kernel_rfl⟩ .nil
noncomputable def q32 : FD Tryd.prog ids := ⟨32, Tryd.f32, [], [], TT, [], ⟨[], [], [], ⟨(jl [0]), ⟨[(0, (pt 1000))], [], [(1000, R2)]⟩⟩, none⟩, ⟨[(0, (pt 1000)), (1, (.lf Y3))], [], [(1000, R2)]⟩, [0], ⟨[0, 1], [], [], [(1000, 0, 1)]⟩, [Y3, Y3], Y3, fun N x => p_wire_Writer_Raw N x.1 x.2, []⟩
noncomputable def b32 : BF Tryd.prog ids := q32.bf mix Tryd.func32 tt_ok (fun N => by kernel_rfl) (fun N x => by kernel_rfl) fun N => .nil
noncomputable def q10 : FD Tryd.prog ids := ⟨10, Tryd.f10, [b21, b31, b22, b32], [], TT, [], ⟨[], [], [], ⟨(jl [0, 1]), ⟨[(0, (.lf .err)), (1, (pt 1001))], [], [(1001, R2)]⟩⟩, none⟩, ⟨[(0, (pt 1000)), (1, (.lf Y1)), (2, (.lf Y4))], [], [(1000, R2)]⟩, [0], ⟨[0, 1, 2], [], [], [(1000, 0, 1)]⟩, [Y1, Y4, Y3], (.pair .err Y3), fun N x => bits_Write N x.1 x.2.1 x.2.2, []⟩
noncomputable def b10 : BF Tryd.prog ids := q10.bf mix Tryd.func10 tt_ok (fun N => by kernel_rfl) (fun N x => by kernel_rfl) fun N => .nil
noncomputable def q17 : FD Tryd.prog ids := ⟨17, Tryd.f17, [b33], [], TT, [], ⟨[], [], [], ⟨(jl [0]), ⟨[(0, (pt 1000))], [], [(1000, (rv 67 [(oc 1 Y3), (oc 0 Y1)]))]⟩⟩, none⟩, (lfState [Y3]), [], j0, [Y3], Y9, fun N x => wire_Read N x, []⟩
noncomputable def b17 : BF Tryd.prog ids := q17.bf mix Tryd.func17 tt_ok (fun N => by kernel_rfl) (fun N x => by kernel_rfl) fun N => .nil
noncomputable def q35 : FD Tryd.prog ids := ⟨35, Tryd.f35, [], [], TT, [], ⟨[], [], [], ⟨(jl [0, 1]), ⟨[(0, (.lf Y1)), (1, (pt 1001))], [], [(1001, R3)]⟩⟩, none⟩, ⟨[(0, (pt 1000))], [], [(1000, R3)]⟩, [0], ⟨[0], [], [], [(1000, 0, 0), (1000, 1, 0)]⟩, [Y3, Y1], Y19, fun N x => p_wire_Reader_At N x.1 x.2, []⟩
noncomputable def b35 : BF Tryd.prog ids := q35.bf mix Tryd.func35 tt_ok (fun N => by kernel_rfl) (fun N x => by kernel_rfl) fun N => .nil
noncomputable def q37 : FD Tryd.prog ids := ⟨37, Tryd.f37, [], [], TT, [], ⟨[], [], [], ⟨(jl [0, 1]), ⟨[(0, (pt 1000)), (1, (pt 1001))], [], [(1000, R3), (1001, R3)]⟩⟩, none⟩, ⟨[(0, (pt 1000))], [], [(1000, R3)]⟩, [0], ⟨[0], [], [], [(1000, 0, 0), (1000, 1, 0)]⟩, [Y3, Y1], (.pair Y3 Y19), fun N x => p_wire_Reader_Copy N x.1 x.2, []⟩
noncomputable def b37 : BF Tryd.prog ids := q37.bf mix Tryd.func37 tt_ok (fun N => by kernel_rfl) (fun N x => by kernel_rfl) fun N => .nil
noncomputable def q56 : FD Tryd.prog ids := ⟨56, Tryd.f56, [b35, b36], [], TT, [9], ⟨[], [], [], ⟨(jl [0, 1]), ⟨[(0, (.lf .err)), (1, (pt 1001))], [], [(1001, R3)]⟩⟩, none⟩, ⟨[(0, (pt 1000)), (1, (.lf Y1))], [], [(1000, R3)]⟩, [0], ⟨[0, 1], [], [], [(1000, 0, 0), (1000, 1, 0)]⟩, [Y1, Y3, Y1], Y17, fun N x => p_wire_Reader_wrong N x.1 x.2.1 x.2.2, []⟩
noncomputable def b56 : BF Tryd.prog ids := q56.bf mix Tryd.func56 tt_ok (fun N => by kernel_rfl) (fun N x => by kernel_rfl) fun N => .nil
noncomputable def q51 : FD Tryd.prog ids := ⟨51, Tryd.f51, [b56], [], TT, [], ⟨[], [], [], ⟨(jl [0, 1, 2]), ⟨[(0, (.lf Y0)), (1, (.lf .err)), (2, (pt 1002))], [], [(1002, R3)]⟩⟩, none⟩, ⟨[(0, (pt 1000))], [], [(1000, R3)]⟩, [0], ⟨[0], [], [], [(1000, 0, 0), (1000, 1, 0)]⟩, [Y3, Y1], (.pair Y0 Y17), fun N x => p_wire_Reader_Byte N x.1 x.2, []⟩
noncomputable def b51 : BF Tryd.prog ids := q51.bf mix Tryd.func51 tt_ok (fun N => by kernel_rfl) (fun N x => by kernel_rfl) fun N => .nil
noncomputable def q24 : FD Tryd.prog ids := ⟨24, Tryd.f24, [], [], TT, [], ⟨[], [], [], ⟨(jl [0, 1]), ⟨[(0, (.lf Y1)), (1, (pt 1001))], [], [(1001, R3)]⟩⟩, none⟩, ⟨[(0, (pt 1000))], [], [(1000, R3)]⟩, [0], ⟨[0], [], [], [(1000, 0, 0), (1000, 1, 0)]⟩, [Y3, Y1], Y19, fun N x => p_wire_Reader_Left N x.1 x.2, []⟩
noncomputable def b24 : BF Tryd.prog ids := q24.bf mix Tryd.func24 tt_ok (fun N => by kernel_rfl) (fun N x => by kernel_rfl) fun N => .nil
noncomputable def q40 : FD Tryd.prog ids := ⟨40, Tryd.f40, [b33, b56, b24], [], TT, [], ⟨[], [], [], ⟨(jl [0, 1, 2]), ⟨[(0, (.lf Y3)), (1, (.lf .err)), (2, (pt 1002))], [], [(1002, R3)]⟩⟩, none⟩, ⟨[(0, (pt 1000)), (1, (.lf Y1))], [], [(1000, R3)]⟩, [0], ⟨[0, 1], [], [], [(1000, 0, 0), (1000, 1, 0)]⟩, [Y1, Y3, Y1], (.pair Y3 Y17), fun N x => p_wire_Reader_Raw N x.1 x.2.1 x.2.2, []⟩
noncomputable def b40 : BF Tryd.prog ids := q40.bf mix Tryd.func40 tt_ok (fun N => by kernel_rfl) (fun N x => by kernel_rfl) fun N => .nil
noncomputable def q52 : FD Tryd.prog ids := ⟨52, Tryd.f52, [b40], [], TT, [44], ⟨[], [(1, ⟨(jl [0, 8, 1, 6, 24, 25]), ⟨[(0, (pt 1000)), (1, (.lf Y1)), (6, (.lf Y3)), (8, (ar 1008 0)), (24, (.lf Y1)), (25, (.lf Y1))], [], [(1000, R3), (1008, R0)]⟩⟩)], [(7, ⟨⟨[25, 0, 8, 1, 6, 24], [8], [], []⟩, ⟨[(0, (pt 1000)), (1, (.lf Y1)), (6, (.lf Y3)), (8, (ar 1008 0)), (24, (.lf Y1)), (25, (.lf Y1))], [], [(1000, R3), (1008, R0)]⟩, [(0, ⟨(jl [0, 8]), ⟨[(0, (pt 1000)), (8, (ar 1008 0))], [], [(1000, R3), (1008, R0)]⟩⟩)]⟩)], ⟨(jl [0, 1, 2]), ⟨[(0, (.lf Y4)), (1, (.lf .err)), (2, (pt 1002))], [], [(1002, R3)]⟩⟩, none⟩, ⟨[(0, (pt 1000)), (1, (.lf Y1))], [], [(1000, R3)]⟩, [0], ⟨[0, 1], [], [], [(1000, 0, 0), (1000, 1, 0)]⟩, [Y1, Y3, Y1], Y27, fun N x => bits_fromPlain N x.1 x.2.1 x.2.2, [⟨7, [Y1, Y3, Y1, Y1, Y3, Y1, Y4], [Y22, Y27], fun N n x ks => bits_fromPlain_l7 N (fun y => kget ks 0 ⟨Y22, y⟩) (fun y => kget ks 1 ⟨Y27, y⟩) n x.1 x.2.1 x.2.2.1 x.2.2.2.1 x.2.2.2.2.1 x.2.2.2.2.2.1 x.2.2.2.2.2.2⟩]⟩
noncomputable def b52 : BF Tryd.prog ids := q52.bf mix Tryd.func52 tt_ok (fun N => by kernel_rfl) (fun N x => by kernel_rfl) fun N => .cons ⟨by kernel_rfl, fun _ _ => by kernel_rfl, fun _ _ _ => by kernel_rfl⟩ .nil
noncomputable def q84 : FD Tryd.prog ids := ⟨84, Tryd.f84, [], [], TT, [], ⟨[], [], [(4, ⟨(jl [0, 10, 1, 7]), ⟨[(0, (pt 1000)), (1, (.lf Y2)), (7, (.lf Y2)), (10, (.lf Y1))], [], [(1000, R3)]⟩, [(0, ⟨(jl [0]), ⟨[(0, (pt 1000))], [], [(1000, R3)]⟩⟩)]⟩)], ⟨(jl [0, 1, 2, 3]), ⟨[(0, (.lf Y2)), (1, (.lf Y1)), (2, (.lf Y1)), (3, (pt 1003))], [], [(1003, R3)]⟩⟩, none⟩, ⟨[(0, (pt 1000)), (1, (.lf Y2))], [], [(1000, R3)]⟩, [0], ⟨[0, 1], [], [], [(1000, 0, 0), (1000, 1, 0)]⟩, [Y2, Y3, Y1], Y32, fun N x => p_wire_Reader_look N x.1 x.2.1 x.2.2, [⟨4, [Y2, Y2, Y1, Y3, Y1], [Y9, Y32], fun N n x ks => p_wire_Reader_look_l4 N (fun y => kget ks 0 ⟨Y9, y⟩) (fun y => kget ks 1 ⟨Y32, y⟩) n x.1 x.2.1 x.2.2.1 x.2.2.2.1 x.2.2.2.2⟩]⟩
noncomputable def b84 : BF Tryd.prog ids := q84.bf mix Tryd.func84 tt_ok (fun N => by kernel_rfl) (fun N x => by kernel_rfl) fun N => .cons ⟨by kernel_rfl, fun _ _ => by kernel_rfl, fun _ _ _ => by kernel_rfl⟩ .nil
noncomputable def q67 : FD Tryd.prog ids := ⟨67, Tryd.f67, [b56, b84], [], TT, [], ⟨[], [], [], ⟨(jl [0, 1, 2]), ⟨[(0, (.lf Y2)), (1, (.lf .err)), (2, (pt 1002))], [], [(1002, R3)]⟩⟩, none⟩, ⟨[(0, (pt 1000)), (1, (.lf Y2))], [], [(1000, R3)]⟩, [0], ⟨[0, 1], [], [], [(1000, 0, 0), (1000, 1, 0)]⟩, [Y2, Y3, Y1], (.pair Y2 Y17), fun N x => p_wire_Reader_Uint N x.1 x.2.1 x.2.2, []⟩
noncomputable def b67 : BF Tryd.prog ids := q67.bf mix Tryd.func67 tt_ok (fun N => by kernel_rfl) (fun N x => by kernel_rfl) fun N => .nil
noncomputable def q68 : FD Tryd.prog ids := ⟨68, Tryd.f68, [b67], [], TT, [], ⟨[], [], [], ⟨(jl [0, 1, 2]), ⟨[(0, (.lf Y1)), (1, (.lf .err)), (2, (pt 1002))], [], [(1002, R3)]⟩⟩, none⟩, ⟨[(0, (pt 1000)), (1, (.lf Y1)), (2, (.lf Y1))], [], [(1000, R3)]⟩, [0], ⟨[0, 1, 2], [], [], [(1000, 0, 0), (1000, 1, 0)]⟩, [Y1, Y1, Y3, Y1], (.pair Y1 Y17), fun N x => bits_taken N x.1 x.2.1 x.2.2.1 x.2.2.2, []⟩
noncomputable def b68 : BF Tryd.prog ids := q68.bf mix Tryd.func68 tt_ok (fun N => by kernel_rfl) (fun N x => by kernel_rfl) fun N => .nil
noncomputable def q53 : FD Tryd.prog ids := ⟨53, Tryd.f53, [b67, b68], [], TT, [37], ⟨[], [], [(8, ⟨⟨[0, 23, 8, 1, 9, 22], [8], [], []⟩, ⟨[(0, (pt 1000)), (1, (.lf Y1)), (8, (ar 1008 0)), (9, (.lf Y1)), (22, (.lf Y2)), (23, (.lf Y2))], [], [(1000, R3), (1008, R0)]⟩, [(0, ⟨(jl [0, 8]), ⟨[(0, (pt 1000)), (8, (ar 1008 0))], [], [(1000, R3), (1008, R0)]⟩⟩)]⟩)], ⟨(jl [0, 1, 2]), ⟨[(0, (.lf Y4)), (1, (.lf .err)), (2, (pt 1002))], [], [(1002, R3)]⟩⟩, none⟩, ⟨[(0, (pt 1000)), (1, (.lf Y1))], [], [(1000, R3)]⟩, [0], ⟨[0, 1], [], [], [(1000, 0, 0), (1000, 1, 0)]⟩, [Y1, Y3, Y1], Y27, fun N x => bits_fromGaps N x.1 x.2.1 x.2.2, [⟨8, [Y1, Y1, Y2, Y2, Y3, Y1, Y4], [Y22, Y27], fun N n x ks => bits_fromGaps_l8 N (fun y => kget ks 0 ⟨Y22, y⟩) (fun y => kget ks 1 ⟨Y27, y⟩) n x.1 x.2.1 x.2.2.1 x.2.2.2.1 x.2.2.2.2.1 x.2.2.2.2.2.1 x.2.2.2.2.2.2⟩]⟩
noncomputable def b53 : BF Tryd.prog ids := q53.bf mix Tryd.func53 tt_ok (fun N => by kernel_rfl) (fun N x => by kernel_rfl) fun N => .cons ⟨by kernel_rfl, fun _ _ => by kernel_rfl, fun _ _ _ => by kernel_rfl⟩ .nil
noncomputable def q54 : FD Tryd.prog ids := ⟨54, Tryd.f54, [b67, b68], [], TT, [55], ⟨[], [], [(8, ⟨⟨[0, 8, 25, 1, 9, 24], [8], [], []⟩, ⟨[(0, (pt 1000)), (1, (.lf Y1)), (8, (ar 1008 0)), (9, (.lf Y1)), (24, (.lf Y2)), (25, (.lf Y2))], [], [(1000, R3), (1008, R0)]⟩, [(0, ⟨(jl [0, 8]), ⟨[(0, (pt 1000)), (8, (ar 1008 0))], [], [(1000, R3), (1008, R0)]⟩⟩)]⟩), (16, ⟨(jl [13, 8, 0, 1, 24, 25, 12]), ⟨[(0, (pt 1000)), (1, (.lf Y1)), (8, (ar 1008 0)), (12, (.lf Y1)), (13, (.lf Y1)), (24, (.lf Y2)), (25, (.lf Y2))], [], [(1000, R3), (1008, R0)]⟩, [(2, ⟨(jl [0, 8, 1, 24, 25, 12]), ⟨[(0, (pt 1000)), (1, (.lf Y1)), (8, (ar 1008 0)), (12, (.lf Y1)), (24, (.lf Y2)), (25, (.lf Y2))], [], [(1000, R3), (1008, R0)]⟩⟩)]⟩)], ⟨(jl [0, 1, 2]), ⟨[(0, (.lf Y4)), (1, (.lf .err)), (2, (pt 1002))], [], [(1002, R3)]⟩⟩, none⟩, ⟨[(0, (pt 1000)), (1, (.lf Y1))], [], [(1000, R3)]⟩, [0], ⟨[0, 1], [], [], [(1000, 0, 0), (1000, 1, 0)]⟩, [Y1, Y3, Y1], Y27, fun N x => bits_fromRuns N x.1 x.2.1 x.2.2, [⟨16, [Y1, Y1, Y1, Y2, Y2, Y3, Y1, Y4], [Y40], fun N n x ks => bits_fromRuns_l16 N (fun y => kget ks 0 ⟨Y40, y⟩) n x.1 x.2.1 x.2.2.1 x.2.2.2.1 x.2.2.2.2.1 x.2.2.2.2.2.1 x.2.2.2.2.2.2.1 x.2.2.2.2.2.2.2⟩, ⟨8, [Y1, Y1, Y2, Y2, Y3, Y1, Y4], [Y22, Y27], fun N n x ks => bits_fromRuns_l8 N (fun y => kget ks 0 ⟨Y22, y⟩) (fun y => kget ks 1 ⟨Y27, y⟩) n x.1 x.2.1 x.2.2.1 x.2.2.2.1 x.2.2.2.2.1 x.2.2.2.2.2.1 x.2.2.2.2.2.2⟩]⟩
noncomputable def b54 : BF Tryd.prog ids := q54.bf mix Tryd.func54 tt_ok (fun N => by kernel_rfl) (fun N x => by kernel_rfl) fun N => .cons ⟨by kernel_rfl, fun _ _ => by kernel_rfl, fun _ _ _ => by kernel_rfl⟩ (.cons ⟨by kernel_rfl, fun _ _ => by kernel_rfl, fun _ _ _ => by kernel_rfl⟩ .nil)
noncomputable def q38 : FD Tryd.prog ids := ⟨38, Tryd.f38, [b51, b52, b53, b54], [], TT, [], ⟨[], [], [], ⟨(jl [0, 1, 2]), ⟨[(0, (.lf Y4)), (1, (.lf .err)), (2, (pt 1002))], [], [(1002, R3)]⟩⟩, none⟩, ⟨[(0, (pt 1000)), (1, (.lf Y1))], [], [(1000, R3)]⟩, [0], ⟨[0, 1], [], [], [(1000, 0, 0), (1000, 1, 0)]⟩, [Y1, Y3, Y1], Y27, fun N x => bits_body N x.1 x.2.1 x.2.2, []⟩
noncomputable def b38 : BF Tryd.prog ids := q38.bf mix Tryd.func38 tt_ok (fun N => by kernel_rfl) (fun N x => by kernel_rfl) fun N => .nil
noncomputable def q41 : FD Tryd.prog ids := ⟨41, Tryd.f41, [], [], TT, [], (hl [.bool]), (lfState [Y3, Y3]), [], j0, [Y3, Y3], .bool, fun N x => bytes_Equal N x.1 x.2, []⟩
noncomputable def b41 : BF Tryd.prog ids := q41.bf mix Tryd.func41 tt_ok (fun N => by kernel_rfl) (fun N x => by kernel_rfl) fun N => .nil
noncomputable def q16 : FD Tryd.prog ids := ⟨16, Tryd.f16, [b31, b22, b35, b36, b37, b40, b38, b39, b41], [], TT, [26, 42, 70], ⟨[], [], [], ⟨(jl [0, 1, 2]), ⟨[(0, (.lf Y4)), (1, (.lf .err)), (2, (pt 1002))], [], [(1002, R3)]⟩⟩, none⟩, ⟨[(0, (pt 1000)), (1, (.lf Y1))], [], [(1000, R3)]⟩, [0], ⟨[0, 1], [], [], [(1000, 0, 0), (1000, 1, 0)]⟩, [Y1, Y3, Y1], Y27, fun N x => bits_Read N x.1 x.2.1 x.2.2, []⟩
noncomputable def b16 : BF Tryd.prog ids := q16.bf mix Tryd.func16 tt_ok (fun N => by kernel_rfl) (fun N x => by kernel_rfl) fun N => .nil
noncomputable def q18 : FD Tryd.prog ids := ⟨18, Tryd.f18, [], [], TT, [], ⟨[], [], [(5, ⟨(jl [5, 1, 0]), ⟨[(0, (.lf Y4)), (1, (.lf Y4)), (5, (.lf Y1))], [], []⟩, [(0, (lfS []))]⟩)], (lfS [.bool]), none⟩, (lfState [Y4, Y4]), [], j0, [Y4, Y4], .bool, fun N x => avermentref01_Same N x.1 x.2, [⟨5, [Y4, Y4, Y1], [.unit, .bool], fun N n x ks => avermentref01_Same_l5 N (fun y => kget ks 0 ⟨.unit, y⟩) (fun y => kget ks 1 ⟨.bool, y⟩) n x.1 x.2.1 x.2.2⟩]⟩
noncomputable def b18 : BF Tryd.prog ids := q18.bf mix Tryd.func18 tt_ok (fun N => by kernel_rfl) (fun N x => by kernel_rfl) fun N => .cons ⟨by kernel_rfl, fun _ _ => by kernel_rfl, fun _ _ _ => by kernel_rfl⟩ .nil
noncomputable def q12 : FD Tryd.prog ids := ⟨12, Tryd.f12, [b9, b11, b22, b10, b17, b16, b18], [], TT, [7, 30], (hl [.bool]), (lfState []), [], j0, [], .bool, fun N x => avermentlaw03_lays N, []⟩
noncomputable def b12 : BF Tryd.prog ids := q12.bf mix Tryd.func12 tt_ok (fun N => by kernel_rfl) (fun N x => by kernel_rfl) fun N => .nil
noncomputable def q13 : FD Tryd.prog ids := ⟨13, Tryd.f13, [], [], TT, [], ⟨[], [], [(4, ⟨(jl [6, 1, 5]), ⟨[(1, (.lf Y4)), (5, (ar 1005 0)), (6, (.lf Y1))], [], [(1005, R1)]⟩, [(0, ⟨(jl [5]), ⟨[(5, (ar 1005 0))], [], [(1005, R1)]⟩⟩)]⟩)], (lfS [Y3]), none⟩, (lfState [Y1, Y4]), [], j0, [Y1, Y4], Y3, fun N x => avermentref03_Plain N x.1 x.2, [⟨4, [Y4, Y1, Y3], [Y3], fun N n x ks => avermentref03_Plain_l4 N (fun y => kget ks 0 ⟨Y3, y⟩) n x.1 x.2.1 x.2.2⟩]⟩
noncomputable def b13 : BF Tryd.prog ids := q13.bf mix Tryd.func13 tt_ok (fun N => by kernel_rfl) (fun N x => by kernel_rfl) fun N => .cons ⟨by kernel_rfl, fun _ _ => by kernel_rfl, fun _ _ _ => by kernel_rfl⟩ .nil
noncomputable def q34 (self : Nat → Int → Option (List Int)) (c : BF Tryd.prog ids) : FD Tryd.prog ids := ⟨34, Tryd.f34, [c], [], TT, [], ⟨[], [], [], ⟨(jl [0]), ⟨[(0, (ar 1000 0))], [], [(1000, R1)]⟩⟩, none⟩, (lfState [Y2]), [], j0, [Y2], Y3, fun N x => avermentref02_Uint_f self N x, []⟩
noncomputable def b34 : BF Tryd.prog ids := recBF 34 ⟨(lfState [Y2]), ⟨[(0, (ar 1000 0))], [], [(1000, R1)]⟩, false, [], j0, none⟩ (tupTy [Y2]) Y3 avermentref02_Uint_f ⟨_, Tryd.func34, by kernel_rfl, by kernel_rfl⟩ (by kernel_rfl) fun self ok => ((q34 self ⟨34, ⟨(lfState [Y2]), ⟨[(0, (ar 1000 0))], [], [(1000, R1)]⟩, false, [], j0, none⟩, tupTy [Y2], Y3, self, ok⟩).bf mix Tryd.func34 tt_ok (fun N => by kernel_rfl) (fun N x => by kernel_rfl) fun N => .nil).ok
noncomputable def q14 : FD Tryd.prog ids := ⟨14, Tryd.f14, [b34], [], TT, [], ⟨[(23, ⟨(jl [0, 4, 5, 3]), ⟨[(0, (.lf Y4)), (3, (ar 1003 0)), (4, (.lf Y1)), (5, (.lf Y1))], [], [(1003, R1)]⟩⟩)], [], [(4, ⟨(jl [4, 3, 0]), ⟨[(0, (.lf Y4)), (3, (ar 1003 0)), (4, (.lf Y1))], [], [(1003, R1)]⟩, [(0, ⟨(jl [3]), ⟨[(3, (ar 1003 0))], [], [(1003, R1)]⟩⟩)]⟩)], (lfS [Y3]), none⟩, (lfState [Y4]), [], j0, [Y4], Y3, fun N x => avermentref03_Gaps N x, [⟨4, [Y4, Y1, Y3], [Y3], fun N n x ks => avermentref03_Gaps_l4 N (fun y => kget ks 0 ⟨Y3, y⟩) n x.1 x.2.1 x.2.2⟩]⟩
noncomputable def b14 : BF Tryd.prog ids := q14.bf mix Tryd.func14 tt_ok (fun N => by kernel_rfl) (fun N x => by kernel_rfl) fun N => .cons ⟨by kernel_rfl, fun _ _ => by kernel_rfl, fun _ _ _ => by kernel_rfl⟩ .nil
noncomputable def q15 : FD Tryd.prog ids := ⟨15, Tryd.f15, [b34], [], TT, [], ⟨[(39, ⟨(jl [0, 7, 4, 6, 8, 3]), ⟨[(0, (.lf Y4)), (3, (ar 1003 0)), (4, (.lf Y1)), (6, (.lf Y1)), (7, (.lf Y1)), (8, (.lf Y1))], [], [(1003, R1)]⟩⟩)], [], [(5, ⟨⟨[4, 0, 6, 3, 5], [3], [], []⟩, ⟨[(0, (.lf Y4)), (3, (ar 1003 0)), (4, (.lf Y1)), (5, (.lf Y1)), (6, (.lf Y1))], [], [(1003, R1)]⟩, [(0, ⟨(jl [3, 4]), ⟨[(3, (ar 1003 0)), (4, (.lf Y1))], [], [(1003, R1)]⟩⟩)]⟩), (7, ⟨(jl [7, 0, 4, 6, 3, 5]), ⟨[(0, (.lf Y4)), (3, (ar 1003 0)), (4, (.lf Y1)), (5, (.lf Y1)), (6, (.lf Y1)), (7, (.lf Y1))], [], [(1003, R1)]⟩, [(2, ⟨(jl [0, 7, 4, 6, 3, 5]), ⟨[(0, (.lf Y4)), (3, (ar 1003 0)), (4, (.lf Y1)), (5, (.lf Y1)), (6, (.lf Y1)), (7, (.lf Y1))], [], [(1003, R1)]⟩⟩)]⟩)], (lfS [Y3]), none⟩, (lfState [Y4]), [], j0, [Y4], Y3, fun N x => avermentref03_Runs N x, [⟨7, [Y4, Y1, Y1, Y1, Y1, Y3], [Y38], fun N n x ks => avermentref03_Runs_l7 N (fun y => kget ks 0 ⟨Y38, y⟩) n x.1 x.2.1 x.2.2.1 x.2.2.2.1 x.2.2.2.2.1 x.2.2.2.2.2⟩, ⟨5, [Y4, Y1, Y1, Y1, Y3], [Y10], fun N n x ks => avermentref03_Runs_l5 N (fun y => kget ks 0 ⟨Y10, y⟩) n x.1 x.2.1 x.2.2.1 x.2.2.2.1 x.2.2.2.2⟩]⟩
noncomputable def b15 : BF Tryd.prog ids := q15.bf mix Tryd.func15 tt_ok (fun N => by kernel_rfl) (fun N x => by kernel_rfl) fun N => .cons ⟨by kernel_rfl, fun _ _ => by kernel_rfl, fun _ _ _ => by kernel_rfl⟩ (.cons ⟨by kernel_rfl, fun _ _ => by kernel_rfl, fun _ _ _ => by kernel_rfl⟩ .nil)
noncomputable def q4 : FD Tryd.prog ids := ⟨4, Tryd.f4, [b7, b9, b11, b10, b17, b16, b18, b12, b13, b14, b15, b19], [], TT, [], ⟨[(65, ⟨(jl [13, 8, 7, 12, 9, 11, 10, 14]), ⟨[(7, (.lf Y1)), (8, (.lf Y4)), (9, (.lf Y4)), (10, (pt 1010)), (11, (pt 1011)), (12, (ar 1012 0)), (13, (.lf Y1)), (14, (.lf Y1))], [], [(1010, R2), (1011, R2), (1012, (rs [(oc 1 Y5)]))]⟩⟩)], [], [(10, ⟨(jl [14, 13, 8, 7, 12, 9, 11, 10]), ⟨[(7, (.lf Y1)), (8, (.lf Y4)), (9, (.lf Y4)), (10, (pt 1010)), (11, (pt 1011)), (12, (ar 1012 0)), (13, (.lf Y1)), (14, (.lf Y1))], [], [(1010, R2), (1011, R2), (1012, (rs [(oc 1 Y5)]))]⟩, [(0, ⟨(jl [9, 8, 11, 10, 13]), ⟨[(8, (.lf Y4)), (9, (.lf Y4)), (10, (pt 1010)), (11, (pt 1011)), (13, (.lf Y1))], [], [(1010, R2), (1011, R2)]⟩⟩)]⟩)], (lfS [.bool]), none⟩, (lfState [Y1, Y4, Y4]), [], j0, [Y1, Y4, Y4], .bool, fun N x => avermentlaw03_BitsOnce N x.1 x.2.1 x.2.2, [⟨10, [Y1, Y4, Y4, Y1, Y1, Y3, Y3, Y5], [Y36, .bool], fun N n x ks => avermentlaw03_BitsOnce_l10 N (fun y => kget ks 0 ⟨Y36, y⟩) (fun y => kget ks 1 ⟨.bool, y⟩) n x.1 x.2.1 x.2.2.1 x.2.2.2.1 x.2.2.2.2.1 x.2.2.2.2.2.1 x.2.2.2.2.2.2.1 x.2.2.2.2.2.2.2⟩]⟩
noncomputable def b4 : BF Tryd.prog ids := q4.bf mix Tryd.func4 tt_ok (fun N => by kernel_rfl) (fun N x => by kernel_rfl) fun N => .cons ⟨by kernel_rfl, fun _ _ => by kernel_rfl, fun _ _ _ => by kernel_rfl⟩ .nil
end Go.Proofs.YtgenmananhffoaaDoor
namespace Go.Y
def Wf (by_ : TypeId → Nat) : (A : Ty) → A.den → Prop
  | .unit, _ => True
  | .bool, _ => True
  | .int k, n => (Lit.int k n).wf = true
  | .str, s => (s : List UInt8).length ≤ reachBytes
  | .pair a b, x => Wf by_ a x.1 ∧ Wf by_ b x.2
  | .st f, x => Wf by_ f x
  | .sl e a, xs => (xs : List a.den).length * by_ e ≤ reachBytes ∧ ∀ x ∈ (xs : List a.den), Wf by_ a x
  | .ptr _ _, _ => False
  | .err, _ => False
  | .fn _ _, _ => False
end Go.Y
namespace Go.Y
open Go.Eng (T RepT RepM SRep Kept Base G SameOn VRep Split Live Free kn)
variable {P : Program} {I : Ids} {φ : FnP}
def rdT (P : Program) : Nat → TypeId → Ty → Bool
  | 0, _, _ => false
  | n + 1, t, A => match A with
    | .bool => match P.underlying t with | some .bool => true | _ => false
    | .int k => match P.underlying t with | some (.int k') => decide (k' = k) | _ => false
    | .str => match P.underlying t with | some .string => true | _ => false
    | .sl e a => match P.underlying t with
      | some (.slice e') => Nat.beq e' e && (rdT P n e a && (Nat.beq (P.cellsOf e) a.flat.length && (Eng.aggOf P e == a.isAgg && !a.flat.isEmpty)))
      | _ => false
    | .st f => match P.underlying t with
      | some (.struct fs) => rowF P (rdT P n) 0 fs.toList f && Nat.beq (P.cellsOf t) f.flat.length
      | _ => false
    | _ => false
def Reps (P : Program) (w : World) (F : Nat → Prop) (ts : List T) (us : List Value) : Prop := ts.length = us.length ∧ ∀ (j : Nat) t, ts[j]? = some t → ∃ u, us[j]? = some u ∧ RepT P w F t u
theorem reps_append {w : World} {F : Nat → Prop} {a b : List T} {us vs : List Value} (h1 : Reps P w F a us) (h2 : Reps P w F b vs) : Reps P w F (a ++ b) (us ++ vs) := by
  refine ⟨by simp [h1.1, h2.1], fun j t hj => ?_⟩
  by_cases hl : j < a.length
  · rw [List.getElem?_append_left hl] at hj
    obtain ⟨u, hu, hr⟩ := h1.2 j t hj
    exact ⟨u, by rw [List.getElem?_append_left (by rw [← h1.1]; exact hl)]; exact hu, hr⟩
  · rw [List.getElem?_append_right (by omega)] at hj
    obtain ⟨u, hu, hr⟩ := h2.2 _ t hj
    exact ⟨u, by rw [List.getElem?_append_right (by rw [← h1.1]; omega), ← h1.1]; exact hu, hr⟩
theorem reps_one {w : World} {F : Nat → Prop} {t : T} {u : Value} (h : RepT P w F t u) : Reps P w F [t] [u] := by
  refine ⟨rfl, fun j s hj => ?_⟩
  cases j with
  | zero => simp only [List.getElem?_cons_zero, Option.some.injEq] at hj; subst hj; exact ⟨u, rfl, h⟩
  | succ j => simp at hj
section
variable {H : Type} {enc : TypeId × Value → H} {w : World} {spare : Nat → Bool} {held : Bool}
def RdOk (enc : TypeId × Value → H) (P : Program) (I : Ids) (φ : FnP) (w : World) (spare : Nat → Bool) (held : Bool) (n : Nat) : Prop :=
  ∀ t A, rdT P n t A = true → ∀ fuel cs d ps, DataW.trod enc P w 0 spare held fuel t cs = some (d, ps) → (∀ m ∈ d.weights P t, m ≤ reachBytes) →
    ∃ x : A.den, Wf P.bytesOf A x ∧ Reps P w (fun b => b < w.heap.size) (trc I φ A x) cs
theorem weights_each {ts : List TypeId} {ds : List (DataW H)} {M : Nat} (h : ∀ m ∈ DataW.weightsEach P ts ds, m ≤ M) {j : Nat} {t : TypeId} {d : DataW H} (ht : ts[j]? = some t) (hd : ds[j]? = some d) : ∀ m ∈ d.weights P t, m ≤ M :=
  fun m hm => h m (DataW.weights_mem_each ht hd m hm)
theorem weights_all_mem {e : TypeId} : ∀ {ds : List (DataW H)} {d : DataW H}, d ∈ ds → ∀ m ∈ d.weights P e, m ∈ DataW.weightsAll P e ds
  | [], d, hd, _, _ => by simp at hd
  | d0 :: r, d, hd, m, hm => by
    simp only [DataW.weightsAll, List.mem_append]
    rcases List.mem_cons.1 hd with rfl | hd
    · exact .inl hm
    · exact .inr (weights_all_mem hd m hm)
theorem rd_row {n fuel : Nat} (IH : RdOk enc P I φ w spare held n) {cs : List Value} :
    ∀ (fs : List Field) (f : Ty) (off : Nat) (xs : List (DataW H × List MemPlace)), rowF P (rdT P n) off fs f = true → xs.length = fs.length →
      (∀ (i : Nat) q, fs[i]? = some q → DataW.trod enc P w 0 spare held fuel q.type ((cs.drop q.offset).take (P.cellsOf q.type)) = xs[i]?) →
      (∀ m ∈ DataW.weightsEach P (fs.map (·.type)) (xs.map (·.1)), m ≤ reachBytes) → cs.length = off + f.flat.length →
      ∃ x : f.den, Wf P.bytesOf f x ∧ Reps P w (fun b => b < w.heap.size) (trc I φ f x) (cs.drop off) := by
  have hd1 : ∀ (q : Field) (a : Ty) (off : Nat) (y : DataW H × List MemPlace), hdF P (rdT P n) q a off = true → DataW.trod enc P w 0 spare held fuel q.type ((cs.drop q.offset).take (P.cellsOf q.type)) = some y →
      (∀ m ∈ y.1.weights P q.type, m ≤ reachBytes) → ∃ x : a.den, Wf P.bytesOf a x ∧ Reps P w (fun b => b < w.heap.size) (trc I φ a x) ((cs.drop off).take a.flat.length) := by
    intro q a off y h hy hm
    obtain ⟨h1, h2, h3, _, _⟩ := hdF_facts h
    obtain ⟨x, hx1, hx2⟩ := IH q.type a h2 fuel _ y.1 y.2 hy hm
    rw [h1, h3] at hx2
    exact ⟨x, hx1, hx2⟩
  intro fs
  induction fs with
  | nil =>
    intro f off xs h _ _ _ hl
    cases f <;> first
      | (exact ⟨(), trivial, by simp only [Ty.flat, List.length_nil] at hl; rw [List.drop_eq_nil_of_le (by omega)]; exact ⟨rfl, fun j t hj => by simp [trc] at hj⟩⟩)
      | (simp only [rowF] at h; cases h)
  | cons q r ih =>
    intro f off xs h hlen hx hm hl
    obtain ⟨y, ys, rfl⟩ : ∃ y ys, xs = y :: ys := by
      cases xs with
      | nil => simp at hlen
      | cons y ys => exact ⟨y, ys, rfl⟩
    have hy := hx 0 q rfl
    simp only [List.getElem?_cons_zero] at hy
    have hmy : ∀ m ∈ y.1.weights P q.type, m ≤ reachBytes := weights_each hm (j := 0) rfl rfl
    cases r with
    | nil =>
      simp only [rowF, Bool.and_eq_true] at h
      obtain ⟨x, h1, h2⟩ := hd1 q f off y h.2 hy hmy
      refine ⟨x, h1, ?_⟩
      rwa [List.take_of_length_le (by rw [List.length_drop]; omega)] at h2
    | cons q2 r2 =>
      cases f with
      | pair a b =>
        simp only [rowF, Bool.and_eq_true] at h
        simp only [Ty.flat, List.length_append] at hl
        obtain ⟨x, h1, h2⟩ := hd1 q a off y h.1 hy hmy
        obtain ⟨z, h3, h4⟩ := ih b (off + a.flat.length) ys h.2 (by simpa using hlen) (fun i q' hq => by have := hx (i + 1) q' (by simpa using hq); simpa using this)
          (fun m hm' => hm m (by simp only [List.map_cons, DataW.weightsEach, List.mem_append]; exact .inr (by simpa using hm'))) (by omega)
        refine ⟨(x, z), ⟨h1, h3⟩, ?_⟩
        have := reps_append h2 h4
        rw [← List.drop_drop, List.take_append_drop] at this
        exact this
      | _ => simp only [rowF] at h; cases h
theorem rd_ok : ∀ n, RdOk (H := H) enc P I φ w spare held n
  | 0 => fun t A h => by simp [rdT] at h
  | n + 1 => by
    intro t A h fuel cs d ps htr hm
    unfold rdT at h
    cases A with
    | bool =>
      simp only at h
      split at h
      · rename_i hu
        obtain ⟨b, rfl, _⟩ := DataW.trod_bool hu htr
        exact ⟨b, trivial, reps_one (.b b)⟩
      · cases h
    | int k =>
      simp only at h
      split at h
      · rename_i k' hu
        have hk : k' = k := of_decide_eq_true h
        subst hk
        obtain ⟨m, rfl, _, hw⟩ := DataW.trod_int hu htr
        exact ⟨m, hw, reps_one (.i k' m)⟩
      · cases h
    | str =>
      simp only at h
      split at h
      · rename_i hu
        obtain ⟨s, rfl, hx, hs⟩ := DataW.trod_string hu htr
        simp only [Prod.mk.injEq] at hx
        refine ⟨s.data.toList, ?_, ?_⟩
        · rw [hx.1] at hm
          have := hm s.data.toList.length (by simp [DataW.weights])
          exact this
        · have : (⟨s.data.toList.toArray⟩ : ByteArray) = s := by
            apply ByteArray.ext; simp
          show Reps P w _ [T.s ⟨s.data.toList.toArray⟩] _
          rw [this]
          exact reps_one (.s s)
      · cases h
    | st f =>
      simp only at h
      split at h
      · rename_i fs hu
        simp only [Bool.and_eq_true] at h
        obtain ⟨xs, m, rfl, hx, hl, hlen, hel⟩ := DataW.trod_struct hu htr
        have hf := (beq_iff _ _).1 h.2
        simp only [Prod.mk.injEq] at hx
        rw [hx.1] at hm
        obtain ⟨x, h1, h2⟩ := rd_row (rd_ok n) fs.toList f 0 xs h.1 (by rw [hlen]; simp) (fun i q hq => hel i q (by simpa using hq)) (fun k hk => hm k (by simp only [DataW.weights, hu]; exact hk)) (by rw [hl, hf]; simp)
        rw [List.drop_zero] at h2
        exact ⟨x, h1, h2⟩
      · cases h
    | sl e a =>
      simp only at h
      split at h
      · rename_i e' hu
        simp only [Bool.and_eq_true] at h
        obtain ⟨h1, h2, h3, h4, h5⟩ := h
        have h1 := (beq_iff _ _).1 h1
        subst h1
        have h3 := (beq_iff _ _).1 h3
        have h4 : Eng.aggOf P e' = a.isAgg := by simpa using h4
        have hpos : 0 < a.flat.length := by
          cases hf : a.flat with
          | nil => rw [hf] at h5; cases h5
          | cons => simp
        rcases DataW.trod_slice hu htr with ⟨rfl, _⟩ | ⟨ad, len, cap, elems, rest, m, rfl, rfl, hx, _, hlc, _, hlen, hel, _, _⟩
        · exact ⟨[], ⟨by simp, fun x hx => by simp at hx⟩, reps_one (.nsl e' false)⟩
        · simp only [Prod.mk.injEq] at hx
          rw [hx.1] at hm
          simp only [DataW.weights, hu, List.mem_cons, List.mem_append] at hm
          have hbytes := hm _ (.inl rfl)
          rw [List.length_map, List.length_map] at hbytes
          have each : ∀ i, i < len → ∃ x : a.den, Wf P.bytesOf a x ∧ ∃ us, w.cells? 0 (ad.add (i * P.cellsOf e')) (P.cellsOf e') = some us ∧ Reps P w (fun b => b < w.heap.size) (trc I φ a x) us := by
            intro i hi
            have hi' : i < elems.length := by omega
            have he := hel i hi
            rw [List.getElem?_eq_getElem hi'] at he
            obtain ⟨us, hus, htr'⟩ := Option.bind_eq_some_iff.1 he
            obtain ⟨x, hx1, hx2⟩ := rd_ok n e' a h2 m us elems[i].1 elems[i].2 htr' (fun k hk => hm k (.inr (.inl (weights_all_mem (List.mem_map.2 ⟨elems[i], List.getElem_mem hi', rfl⟩) k hk))))
            exact ⟨x, hx1, us, hus, hx2⟩
          obtain ⟨xs, hxl, hxs⟩ : ∃ xs : List a.den, xs.length = len ∧ ∀ i x, xs[i]? = some x → Wf P.bytesOf a x ∧ ∃ us, w.cells? 0 (ad.add (i * P.cellsOf e')) (P.cellsOf e') = some us ∧ Reps P w (fun b => b < w.heap.size) (trc I φ a x) us := by
            have : ∀ k, k ≤ len → ∃ xs : List a.den, xs.length = k ∧ ∀ i x, xs[i]? = some x → Wf P.bytesOf a x ∧ ∃ us, w.cells? 0 (ad.add (i * P.cellsOf e')) (P.cellsOf e') = some us ∧ Reps P w (fun b => b < w.heap.size) (trc I φ a x) us := by
              intro k
              induction k with
              | zero => exact fun _ => ⟨[], rfl, fun i x hx => by simp at hx⟩
              | succ k ihk =>
                intro hk
                obtain ⟨xs, hxl, hxs⟩ := ihk (by omega)
                obtain ⟨x, hx⟩ := each k (by omega)
                refine ⟨xs ++ [x], by simp [hxl], fun i y hy => ?_⟩
                by_cases hi : i < xs.length
                · rw [List.getElem?_append_left hi] at hy; exact hxs i y hy
                · rw [List.getElem?_append_right (by omega)] at hy
                  have hik : i = k := by
                    have := lt_of_get hy
                    simp at this; omega
                  subst hik
                  rw [hxl] at hy
                  simp only [Nat.sub_self, List.getElem?_cons_zero, Option.some.injEq] at hy
                  subst hy
                  exact hx
            exact this len (Nat.le_refl _)
          refine ⟨xs, ⟨?_, fun x hx => ?_⟩, ?_⟩
          · rw [hxl, ← hlen]
            exact Nat.le_trans (Nat.mul_le_mul_right _ (Nat.le_add_right _ _)) hbytes
          · obtain ⟨i, hi⟩ := List.getElem?_of_mem hx
            exact (hxs i x hi).1
          · refine reps_one ?_
            have hfit : ∀ y ∈ xs.map (fun x => one a (trc I φ a x)), Eng.Fits P e' y := by
              intro y hy
              obtain ⟨x, _, rfl⟩ := List.mem_map.1 hy
              exact fits_of_ty h3.symm h4.symm x
            by_cases hl0 : len = 0
            · subst hl0
              have : xs = [] := List.eq_nil_of_length_eq_zero hxl
              subst this
              exact .esl e' false ad cap
            · have hcell : ∀ i x, xs[i]? = some x → ∃ us : List Value, us.length = P.cellsOf e' ∧ (∀ j, j < P.cellsOf e' → w.cell? ((ad.add (i * P.cellsOf e')).add j) = us[j]?) ∧ Reps P w (fun b => b < w.heap.size) (trc I φ a x) us := by
                intro i x hx
                obtain ⟨_, us, hus, hr⟩ := hxs i x hx
                unfold World.cells? at hus
                rw [if_pos (Nat.zero_le _)] at hus
                exact ⟨us, by simpa using mapM_some_length hus, fun j hj => mapM_some_get hus j j (by simp [hj]), hr⟩
              obtain ⟨adb, ado, ads⟩ := ad
              have hspot : ads = none ∧ adb < w.heap.size := by
                obtain ⟨us, hus, hc, hr⟩ := hcell 0 xs[0] (List.getElem?_eq_getElem (by omega))
                have h6 := hc 0 (by omega)
                simp only [Nat.zero_mul, Addr.add, if_true] at h6
                have h7 : us[0]? = some us[0] := List.getElem?_eq_getElem (by omega)
                rw [h7] at h6
                refine ⟨?_, World.block_lt_of_cell? w _ h6⟩
                unfold World.cell? at h6
                split at h6
                · split at h6
                  · cases h6
                  · rename_i hs
                    simpa using hs
                · cases h6
              obtain ⟨rfl, hlt⟩ := hspot
              have hat : ∀ j t, (Eng.flat (xs.map fun x => one a (trc I φ a x)))[j]? = some t → ∃ u, w.cell? ⟨adb, ado + j, none⟩ = some u ∧ RepT P w (fun b => b < w.heap.size) t u := by
                intro j t hj
                obtain ⟨_, _, x, hi, ho⟩ := flat_at hfit hj
                have hjo : j = j / P.cellsOf e' * P.cellsOf e' + j % P.cellsOf e' := by rw [Nat.mul_comm]; exact (Nat.div_add_mod _ _).symm
                generalize j / P.cellsOf e' = i at hi hjo
                generalize j % P.cellsOf e' = o at ho hjo
                rw [List.getElem?_map, Option.map_eq_some_iff] at hi
                obtain ⟨x', hx', rfl⟩ := hi
                have ho : (trc I φ a x')[o]? = some t := by rw [← ho]; exact congrArg (·[o]?) (tr_cells (I := I) (φ := φ) a x').symm
                obtain ⟨us, hus, hc, hr⟩ := hcell i x' hx'
                obtain ⟨u, hu, hru⟩ := hr.2 o t ho
                have hol : o < P.cellsOf e' := by
                  have := lt_of_get hu
                  omega
                have h8 := hc o hol
                rw [hu, Eng.addr_add, Eng.addr_add, Nat.add_assoc, ← hjo] at h8
                exact ⟨u, h8, hru⟩
              have hlm : len = (xs.map fun x => one a (trc I φ a x)).length := by simp [hxl]
              rw [hlm]
              refine .sl e' false _ adb ado cap (fun j => (w.cell? ⟨adb, ado + j, none⟩).getD undef) (fun _ => hlt) hfit (by rw [← hlm]; exact hlc) (fun j t hj => ?_) fun j t hj => ?_
              · obtain ⟨u, hu, _⟩ := hat j t hj
                simp [hu]
              · obtain ⟨u, hu, hr⟩ := hat j t hj
                simp only [hu, Option.getD_some]
                exact hr
      · cases h
    | _ => cases h
end
end Go.Y
namespace Go.Y
open Go.Eng (T RepT RepM SRep Kept Base G SameOn VRep Split Live Free kn)
open Go.ChangeShapes Go.WideShapes Go.RowKit
variable {P : Program} {I : Ids} {φ : FnP}
def rdAll (P : Program) : List TypeId → List Ty → Bool
  | [], [] => true
  | t :: ts, A :: As => rdT P 24 t A && (P.readableRec t && (Nat.blt t P.types.size && (Eng.aggOf P t == A.isAgg && rdAll P ts As)))
  | _, _ => false
theorem cells_one {v : Value} {c : Value} (h : v.cells.toList = [c]) : v = c ∨ v = .agg #[c] := by
  cases v with
  | agg cs =>
    refine .inr ?_
    have h : cs.toList = [c] := h
    cases cs; simp_all
  | _ => simp_all [Value.cells]
theorem rd_value {H : Type} {enc : TypeId × Value → H} {w : World} {r : Reach} {b0 : Nat} {t : TypeId} {A : Ty} {v : Value} {x : A.den} (h : rdT P 24 t A = true) (hag : Eng.aggOf P t = A.isAgg) (hval : Value.okWide P w r b0 t v)
    {F : Nat → Prop} (hr : Reps P w F (trc I φ A x) v.cells.toList) : RepT P w F (tr I φ A x) v := by
  cases hA : A.isAgg with
  | true =>
    rw [tr_agg A hA]
    have hu : ∃ cs, v = .agg cs := by
      unfold Eng.aggOf at hag
      unfold Value.okWide at hval
      rw [hA] at hag
      split at hval
      · obtain ⟨cs, hv, _⟩ := hval; exact ⟨cs, hv⟩
      · obtain ⟨cs, hv, _⟩ := hval; exact ⟨cs, hv⟩
      · split at hag
        · simp_all
        · simp_all
        · cases hag
    obtain ⟨cs, rfl⟩ := hu
    refine .ag _ cs (fun j => cs.getD j undef) (by have := hr.1; simp [Value.cells] at this; exact this.symm) (fun j t hj => ?_) fun j t hj => ?_
    · obtain ⟨u, hu, _⟩ := hr.2 j t hj
      simp only [Value.cells, Array.getElem?_toList] at hu
      simp [hu]
    · obtain ⟨u, hu, hr'⟩ := hr.2 j t hj
      simp only [Value.cells, Array.getElem?_toList] at hu
      simpa [hu] using hr'
  | false =>
    have hs := tr_single (I := I) (φ := φ) A hA x
    rw [hs] at hr
    obtain ⟨u, hu, hr'⟩ := hr.2 0 _ rfl
    have hlen := hr.1
    have hcs : v.cells.toList = [u] := by
      cases hc : v.cells.toList with
      | nil => rw [hc] at hu; simp at hu
      | cons y ys =>
        rw [hc] at hu hlen
        cases ys with
        | nil => simp only [List.getElem?_cons_zero, Option.some.injEq] at hu; subst hu; rfl
        | cons z zs => simp at hlen
    rcases cells_one hcs with rfl | rfl
    · exact hr'
    · exfalso
      rw [hA] at hag
      unfold Value.okWide at hval
      unfold Eng.aggOf at hag
      split at hval
      · rename_i h1; rw [h1] at hag; cases hag
      · rename_i h1; rw [h1] at hag; cases hag
      · unfold Cell.okWide Cell.ok at hval
        simp only at hval
        split at hval <;> simp_all
theorem rd_args {H : Type} {enc : TypeId × Value → H} {w : World} {spare : Nat → Bool} {held : Bool} {r : Reach} {b0 : Nat} :
    ∀ (ts : List TypeId) (As : List Ty) (vs : List Value) (ds : List (DataW H)) (ps : List MemPlace), rdAll P ts As = true → DataW.TrodAll enc P w 0 spare held ts vs ds ps →
      (∀ (j : Nat) t v, ts[j]? = some t → vs[j]? = some v → Value.okWide P w r b0 t v) → (∀ m ∈ DataW.weightsEach P ts ds, m ≤ reachBytes) →
      ∃ ls : List L, ls.map (·.ty) = As ∧ (∀ l ∈ ls, Wf P.bytesOf l.ty l.val) ∧ vs.length = ls.length ∧ ds.length = ts.length ∧ ∀ (j : Nat) l, ls[j]? = some l → ∃ u, vs[j]? = some u ∧ RepT P w (fun b => b < w.heap.size) (trL I φ l) u
  | [], [], vs, ds, ps, _, h, _, _ => by
    cases vs <;> cases ds <;> simp_all [DataW.TrodAll]
  | t :: ts, A :: As, vs, ds, ps, h, hT, hval, hm => by
    simp only [rdAll, Bool.and_eq_true] at h
    obtain ⟨v, vs', d, ds', p, q, rfl, rfl, rfl, hd, hrest⟩ := trodAll_cons hT
    obtain ⟨fuel, hf⟩ := hd
    obtain ⟨x, hx1, hx2⟩ := rd_ok (I := I) (φ := φ) 24 t A h.1 fuel _ d p hf (fun m hm' => hm m (by simp only [DataW.weightsEach, List.mem_append]; exact .inl hm'))
    obtain ⟨ls, h1, h2, h3, h5, h4⟩ := rd_args ts As vs' ds' q h.2.2.2.2 hrest (fun j t v ht hv => hval (j + 1) t v (by simpa using ht) (by simpa using hv)) (fun m hm' => hm m (by simp only [DataW.weightsEach, List.mem_append]; exact .inr hm'))
    refine ⟨⟨A, x⟩ :: ls, by simp [h1], ?_, by simp [h3], by simp [h5], ?_⟩
    · intro l hl
      rcases List.mem_cons.1 hl with rfl | hl
      · exact hx1
      · exact h2 l hl
    · intro j l hj
      cases j with
      | zero =>
        simp only [List.getElem?_cons_zero, Option.some.injEq] at hj
        subst hj
        exact ⟨v, rfl, rd_value (enc := enc) h.1 (by simpa using h.2.2.2.1) (hval 0 t v rfl rfl) hx2⟩
      | succ j => exact h4 j l (by simpa using hj)
  | [], _ :: _, _, _, _, h, _, _, _ => by simp [rdAll] at h
  | _ :: _, [], _, _, _, h, _, _, _ => by simp [rdAll] at h
theorem rd_back {H : Type} {enc : TypeId × Value → H} {W W' : World} (hl : laidOutB P = true) (hb : Below W.heap.size W W') :
    ∀ (ts : List TypeId) (As : List Ty) (vs : List Value) (ds : List (DataW H)) (ps : List MemPlace), rdAll P ts As = true → DataW.TrodAll enc P W 0 (fun _ => true) true ts vs ds ps →
      DataW.TrodAll enc P W' 0 (fun b => decide (b < W.heap.size)) true ts vs ds ps
  | [], [], vs, ds, ps, _, h => by
    cases vs <;> cases ds <;> simp_all [DataW.TrodAll]
  | t :: ts, A :: As, vs, ds, ps, h, hT => by
    simp only [rdAll, Bool.and_eq_true] at h
    obtain ⟨v, vs', d, ds', p, q, rfl, rfl, rfl, hd, hrest⟩ := trodAll_cons hT
    refine ⟨p, q, Below.trod hl h.2.1 (by have := h.2.2.1; rwa [Nat.blt_eq] at this) hd hb ?_, rd_back hl hb ts As vs' ds' q h.2.2.2.2 hrest, rfl⟩
    obtain ⟨fuel, hf⟩ := hd
    exact DataW.trod_lt fuel _ _ _ hf
  | [], _ :: _, _, _, _, h, _ => by simp [rdAll] at h
  | _ :: _, [], _, _, _, h, _ => by simp [rdAll] at h
theorem tupL_wf (by_ : TypeId → Nat) : ∀ (vs : List L), (∀ l ∈ vs, Wf by_ l.ty l.val) → Wf by_ (tupL vs).ty (tupL vs).val
  | [], _ => trivial
  | [v], h => h v (by simp)
  | v :: w :: r, h => ⟨h v (by simp), tupL_wf by_ (w :: r) fun l hl => h l (by simp [hl])⟩
def boolOut : St Ty := ⟨[(0, .lf .bool)], [], []⟩
theorem law_calls {H : Type} {enc : TypeId × Value → H} {f : FuncId} {fn : Func} {s : ChangeSpec} {As : List Ty} {F : Nat → (tupTy As).den → Option Bool} {ins : St Ty} {h0 : JH}
    (hl : laidOutB P = true) (hrd : rdAll P fn.params.toList As = true) (hvars : s.vars = []) (hspec : ∀ ds : List (DataW H), ds.length = fn.params.toList.length → s.fn H ds = { results := [.lit (.bool true)], args := ds })
    (hres : ∃ t, fn.resultTypes = #[t] ∧ P.underlying t = some .bool) (hins : ins = lfState As)
    (hOk : ∀ N, FnOk P I φ f ⟨ins, boolOut, false, [], h0, none⟩ ⟨tupTy As, .bool, F N⟩)
    (pure : ∀ x : (tupTy As).den, Wf P.bytesOf (tupTy As) x → ∃ N, F N x = some true)
    {W : World} {base : Nat} {args : Array Value} {ds gs : List (DataW H)} {before : List MemPlace}
    (hval : ∀ (j : Nat) t v, fn.params[j]? = some t → args[j]? = some v → Value.okWide P W .any base t v)
    (hW : DataW.Whole enc P fn.params.toList s.vars false W args.toList ds gs before)
    (hsz : (DataW.weightsEach P (fn.params.toList ++ s.plain.varTypes P) (ds ++ gs)).all (· ≤ reachBytes) = true) (hgl : GlobW I W) :
    Calls P f args W fun e W' => ∃ v, e = .returned v ∧ s.post enc P fn false true false false W args v W' := by
  have hW' := hW
  obtain ⟨p, q, hA, hV, rfl, hfz, hnd⟩ := hW
  rw [hvars] at hV
  obtain ⟨rfl, rfl⟩ := trodVars_none hV
  have hm : ∀ m ∈ DataW.weightsEach P fn.params.toList ds, m ≤ reachBytes := by
    intro m hm
    have hvt : s.plain.varTypes P = [] := by
      have : s.plain.vars = [] := hvars
      unfold DataSpec.varTypes
      rw [this]; rfl
    rw [hvt, List.append_nil, List.append_nil] at hsz
    simpa using List.all_eq_true.1 hsz m hm
  obtain ⟨ls, h1, h2, h3, h5, h4⟩ := rd_args (I := I) (φ := φ) fn.params.toList As args.toList ds p hrd hA (fun j t v ht hv => hval j t v (by simpa using ht) (by simpa using hv)) hm
  have hx : ∃ x, (tupL ls).as (tupTy As) = some x ∧ Wf P.bytesOf (tupTy As) x := by
    rw [← h1, ← tupL_ty]
    exact ⟨_, as_self _, tupL_wf _ ls h2⟩
  obtain ⟨x, hx1, hx2⟩ := hx
  obtain ⟨N, hN⟩ := pure x hx2
  refine ((hOk N).leaf (ts := As) rfl hins rfl x true hN ls hx1 h1 W (fun b => b < W.heap.size) args hgl (fun b hb => hb) (by simpa using h3) (fun j l hj => by
    obtain ⟨u, hu, hr⟩ := h4 j l hj
    exact ⟨u, by simpa using hu, hr⟩)).mono fun e W' ⟨u, he, g', rs, hrs, hinv, hrep⟩ => ?_
  have hrs := hrs []
  have hrs : some [(⟨.bool, true⟩ : L)] = some rs := hrs
  simp only [Option.some.injEq] at hrs
  subst hrs
  have hu := hrep (.lf ⟨.bool, true⟩) rfl
  have hu := repB (arep_lf hu)
  subst hu
  have bel : Below W.heap.size W W' := ⟨hinv.k.os, hinv.k.tape, hinv.k.output, hinv.k.size, fun b hb => hinv.k.block b hb (fun h => h)⟩
  obtain ⟨t, ht1, ht2⟩ := hres
  have hsp := hspec ds h5
  refine ⟨_, he, ds, [], _, [], p, [], hW', ?_, ?_, ?_, bel.frame _, fun h => by cases h⟩
  · rw [List.append_nil, hsp, ht1]
    exact trodAll_mk1 (shut_bool ht2 _)
  · rw [List.append_nil, hsp]
    exact rd_back hl bel _ _ _ _ _ hrd hA
  · rw [List.append_nil, hsp, hvars]
    rfl
end Go.Y
namespace Go.Y
variable {α β ρ : Type}
theorem wr_i64 {n : Int} (h0 : -9223372036854775808 ≤ n) (h1 : n ≤ 9223372036854775807) : wr .i64 n = n := by
  show (if true && decide (n % (2 ^ 64 : Int) ≥ (2 ^ 63 : Int)) then n % (2 ^ 64 : Int) - (2 ^ 64 : Int) else n % (2 ^ 64 : Int)) = n
  simp only [Bool.true_and, decide_eq_true_eq]
  split <;> omega
theorem wr_u64_mod (n : Int) : wr .u64 n = n % 18446744073709551616 := rfl
theorem wr_u64 {n : Int} (h0 : 0 ≤ n) (h1 : n ≤ 18446744073709551615) : wr .u64 n = n := by rw [wr_u64_mod]; omega
theorem wr_u8_mod (n : Int) : wr .u8 n = n % 256 := rfl
theorem wr_u8 {n : Int} (h0 : 0 ≤ n) (h1 : n ≤ 255) : wr .u8 n = n := by rw [wr_u8_mod]; omega
theorem wr_succ {i m : Nat} (h : i < m) (hm : m ≤ 9223372036854775807) : wr .i64 ((i : Int) + 1) = ((i + 1 : Nat) : Int) := by
  rw [wr_i64 (by omega) (by omega)]; omega
@[simp] theorem pIf_t (a b : Option ρ) : pIf true a b = a := rfl
@[simp] theorem pIf_f (a b : Option ρ) : pIf false a b = b := rfl
@[simp] theorem pCk_t (k : Option ρ) : pCk true k = k := rfl
@[simp] theorem pCall_s (x : α) (k : α → Option ρ) : pCall (some x) k = k x := rfl
@[simp] theorem pCallG_t (d : α) (o : Option α) (k : α → Option ρ) : pCallG true d o k = pCall o k := rfl
@[simp] theorem pCallG_f (d : α) (o : Option α) (k : α → Option ρ) : pCallG false d o k = k d := rfl
@[simp] theorem pIdxG_t (d : α) (xs : List α) (i : Int) (k : α → Option ρ) : pIdxG true d xs i k = pIdx xs i k := rfl
@[simp] theorem pIdxG_f (d : α) (xs : List α) (i : Int) (k : α → Option ρ) : pIdxG false d xs i k = k d := rfl
@[simp] theorem pLet_ (a : α) (k : α → Option ρ) : pLet a k = k a := rfl
@[simp] theorem pJoin_ (k : α → Option ρ) (b : (α → Option ρ) → Option ρ) : pJoin k b = b k := rfl
@[simp] theorem pick_t (a b : α) : pick true a b = a := rfl
@[simp] theorem pick_f (a b : α) : pick false a b = b := rfl
theorem pick_and (a b : Bool) : pick a b false = (a && b) := by cases a <;> rfl
theorem pick_or (a b : Bool) : pick a true b = (a || b) := by cases a <;> rfl
@[simp] theorem len_ (xs : List α) : len xs = (xs.length : Int) := rfl
theorem ix_nat {xs : List α} {i : Nat} : ix xs (i : Int) = xs[i]? := by
  unfold ix
  rw [decide_eq_true (Int.natCast_nonneg i), Int.toNat_natCast]
theorem pIdx_nat {xs : List α} {i : Nat} {x : α} (h : xs[i]? = some x) (k : α → Option ρ) : pIdx xs (i : Int) k = k x := by
  unfold pIdx; rw [ix_nat, h]; rfl
theorem pIdx_lt {xs : List α} {i : Nat} (h : i < xs.length) (k : α → Option ρ) : pIdx xs (i : Int) k = k xs[i] :=
  pIdx_nat (List.getElem?_eq_getElem h) k
theorem room_of {b : Nat} {n : Int} (h : n * b ≤ 140737488355328) (h1 : n ≤ 140737488355328) : room b n = true := by
  exact room_iff.2 ⟨h, h1⟩
end Go.Y
namespace Go.Y
end Go.Y
namespace Go.Y
end Go.Y
namespace Go.Y
def Inc (l : List Int) : Prop := l.Pairwise (· < ·)
end Go.Y
namespace Go.Y
end Go.Y
namespace Go.Y
theorem getLt {α : Type} {l : List α} {j : Nat} {x : α} (h : l[j]? = some x) : j < l.length := (List.getElem?_eq_some_iff.1 h).1
theorem inc_ext : ∀ {l l' : List Int}, Inc l → Inc l' → (∀ x, x ∈ l ↔ x ∈ l') → l = l'
  | [], [], _, _, _ => rfl
  | [], y :: r, _, _, h => by simpa using (h y).2 (by simp)
  | x :: r, [], _, _, h => by simpa using (h x).1 (by simp)
  | x :: r, y :: s, h1, h2, h => by
    obtain ⟨h3, h4⟩ := List.pairwise_cons.1 h1
    obtain ⟨h5, h6⟩ := List.pairwise_cons.1 h2
    have hxy : x = y := by
      have hx := (h x).1 (by simp)
      have hy := (h y).2 (by simp)
      rcases List.mem_cons.1 hx with e | hx
      · exact e
      · rcases List.mem_cons.1 hy with e | hy
        · exact e.symm
        · have := h3 _ hy
          have := h5 _ hx
          omega
    subst hxy
    refine congrArg _ (inc_ext h4 h6 fun z => ?_)
    have hz := h z
    simp only [List.mem_cons] at hz
    constructor
    · intro hm
      rcases hz.1 (.inr hm) with e | hm2
      · have := h3 _ hm; omega
      · exact hm2
    · intro hm
      rcases hz.2 (.inr hm) with e | hm2
      · have := h5 _ hm; omega
      · exact hm2
theorem shr1 {n : Int} (h0 : 0 ≤ n) (h1 : n ≤ 9223372036854775807) : wr .i64 (shrI .u64 (wr .u64 (wr .i64 n)) 1) = n / 2 := by
  rw [wr_i64 (by omega) h1, wr_u64 h0 (by omega)]
  have : shrI .u64 n 1 = n / 2 := by
    show n.fdiv (2 ^ min (1 : Int).toNat 64) = n / 2
    rw [show (2 : Int) ^ min (1 : Int).toNat 64 = 2 from rfl, Int.fdiv_eq_ediv_of_nonneg _ (by omega)]
  rw [this, wr_i64 (by omega) (by omega)]
theorem Less_ok (N : Nat) (x y : Int) : cmp_Less_int N x y = some (decide (x < y)) := by
  unfold cmp_Less_int cmp_isNaN_int
  simp
theorem Search_loop {N : Nat} (k0 : List Int × Int × Int × Int → Option (Int × Bool)) (l : List Int) (v m : Int) (hl : l.length ≤ 4611686018427387903) (hinc : Inc l) : ∀ (n i j : Nat), j - i < n → i ≤ j → j ≤ l.length →
    (∀ t x, l[t]? = some x → t < i → x < v) → (∀ t x, l[t]? = some x → j ≤ t → v ≤ x) →
    ∃ p : Nat, p ≤ l.length ∧ (∀ t x, l[t]? = some x → t < p → x < v) ∧ (∀ t x, l[t]? = some x → p ≤ t → v ≤ x) ∧ slices_BinarySearch_int_int_l4 N k0 n l v m i j = k0 (l, v, m, (p : Int))
  | 0, i, j, hn, hij, _, _, _ => by omega
  | n + 1, i, j, hn, hij, hj, h1, h2 => by
    rw [slices_BinarySearch_int_int_l4]
    by_cases h : i < j
    · rw [decide_eq_true (show (i : Int) < (j : Int) by omega), pIf_t]
      have hm : wr .i64 (shrI .u64 (wr .u64 (wr .i64 ((i : Int) + (j : Int)))) 1) = (((i + j) / 2 : Nat) : Int) := by
        rw [shr1 (by omega) (by omega)]; omega
      have hlt : (i + j) / 2 < l.length := by omega
      simp only [hm]
      rw [pIdx_lt hlt, Less_ok, pCall_s, pJoin_]
      by_cases hx : l[(i + j) / 2] < v
      · rw [decide_eq_true hx, pIf_t]
        simp only
        rw [wr_succ (m := l.length) hlt (by omega)]
        refine Search_loop k0 l v m hl hinc n ((i + j) / 2 + 1) j (by omega) (by omega) hj (fun t x ht hlt2 => ?_) h2
        by_cases he : t = (i + j) / 2
        · subst he
          rw [List.getElem?_eq_getElem hlt, Option.some.injEq] at ht
          omega
        · have := List.pairwise_iff_getElem.1 hinc t ((i + j) / 2) (getLt ht) hlt (by omega)
          rw [List.getElem?_eq_getElem (getLt ht), Option.some.injEq] at ht
          omega
      · rw [decide_eq_false hx, pIf_f]
        simp only
        refine Search_loop k0 l v m hl hinc n i ((i + j) / 2) (by omega) (by omega) (by omega) h1 (fun t x ht hlt2 => ?_)
        by_cases he : t = (i + j) / 2
        · subst he
          rw [List.getElem?_eq_getElem hlt, Option.some.injEq] at ht
          omega
        · have := List.pairwise_iff_getElem.1 hinc ((i + j) / 2) t hlt (getLt ht) (by omega)
          rw [List.getElem?_eq_getElem (getLt ht), Option.some.injEq] at ht
          omega
    · have he : i = j := by omega
      subst he
      rw [decide_eq_false (by omega), pIf_f]
      exact ⟨i, hj, h1, h2, rfl⟩
theorem bits_Has_ok {N : Nat} {l : List Int} (v : Int) (hl : l.length ≤ 4611686018427387903) (hN : l.length < N) (hinc : Inc l) : bits_Has N l v = some (decide (v ∈ l)) := by
  unfold bits_Has slices_BinarySearch_int_int
  obtain ⟨p, hp, h1, h2, h3⟩ := Search_loop (N := N) (fun x0 => pIdxG (decide (x0.2.2.2 < x0.2.2.1)) 0 x0.1 x0.2.2.2 fun x1 =>
      pIdxG ((decide (x0.2.2.2 < x0.2.2.1)) && (!(decide (x1 = x0.2.1)))) 0 x0.1 x0.2.2.2 fun x2 =>
      pCallG ((decide (x0.2.2.2 < x0.2.2.1)) && (!(decide (x1 = x0.2.1)))) false (slices_isNaN_int N x2) fun x3 =>
      pCallG (((decide (x0.2.2.2 < x0.2.2.1)) && (!(decide (x1 = x0.2.1)))) && x3) false (slices_isNaN_int N x0.2.1) fun x4 =>
      pLet (pick x3 x4 false) fun x5 =>
      pLet (pick (decide (x1 = x0.2.1)) true x5) fun x6 =>
      pLet (pick (decide (x0.2.2.2 < x0.2.2.1)) x6 false) fun x7 =>
      some (x0.2.2.2, x7)) l v (len l) hl hinc N 0 l.length (by omega) (by omega) (Nat.le_refl _) (fun t x ht h => by omega) (fun t x ht h => by have := getLt ht; omega)
  have h3 := h3
  rw [show ((0 : Nat) : Int) = 0 from rfl, show ((l.length : Nat) : Int) = len l from rfl] at h3
  rw [h3]
  by_cases hlt : p < l.length
  · simp only [decide_eq_true (show (p : Int) < len l by simp only [len_]; omega), pIdxG_t, Bool.true_and]
    rw [pIdx_lt hlt]
    by_cases he : l[p] = v
    · rw [decide_eq_true (show v ∈ l from he ▸ List.getElem_mem hlt)]
      simp [he]
    · have hni : v ∉ l := by
        intro hm
        obtain ⟨t, ht⟩ := List.getElem?_of_mem hm
        have hpv := h2 p _ (List.getElem?_eq_getElem hlt) (Nat.le_refl _)
        rcases Nat.lt_or_ge t p with h | h
        · have := h1 t v ht h; omega
        · rcases Nat.eq_or_lt_of_le h with h | h
          · subst h
            rw [List.getElem?_eq_getElem hlt, Option.some.injEq] at ht
            exact he ht
          · have := List.pairwise_iff_getElem.1 hinc p t hlt (getLt ht) h
            rw [List.getElem?_eq_getElem (getLt ht), Option.some.injEq] at ht
            omega
      rw [decide_eq_false hni]
      simp only [decide_eq_false he, Bool.not_false, pIdxG_t, pCallG_t]
      rw [pIdx_lt hlt]
      simp [slices_isNaN_int]
  · have hni : v ∉ l := by
      intro hm
      obtain ⟨t, ht⟩ := List.getElem?_of_mem hm
      have := h1 t v ht (by have := getLt ht; omega)
      omega
    rw [decide_eq_false hni]
    simp only [decide_eq_false (show ¬ (p : Int) < len l by simp only [len_]; omega), pIdxG_f, Bool.false_and, pCallG_f, pLet_]
    rfl
end Go.Y
namespace Go.Y
open Go
def cnt (l : List Int) (k : Int) : Nat := (l.filter fun x => decide (x < k)).length
theorem cnt_cons (x : Int) (l : List Int) (k : Int) : cnt (x :: l) k = (if x < k then 1 else 0) + cnt l k := by
  unfold cnt
  rw [List.filter_cons]
  by_cases h : x < k
  · rw [if_pos (decide_eq_true h), if_pos h, List.length_cons]; omega
  · rw [if_neg (by simp [h]), if_neg h]; omega
theorem cnt_step : ∀ {l : List Int} (k : Int), Inc l → cnt l (k + 1) = cnt l k + (if k ∈ l then 1 else 0)
  | [], k, _ => by simp [cnt]
  | x :: l, k, h => by
    obtain ⟨h1, h2⟩ := List.pairwise_cons.1 h
    rw [cnt_cons, cnt_cons, cnt_step k h2]
    by_cases hx : x = k
    · subst hx
      have hn : x ∉ l := fun hm => by have := h1 x hm; omega
      rw [if_neg (show ¬ x < x by omega), if_pos (show x < x + 1 by omega), if_neg hn, if_pos (by simp)]
      omega
    · have e : (if x < k + 1 then 1 else 0) = (if x < k then 1 else 0) := by
        by_cases hk : x < k
        · rw [if_pos hk, if_pos (by omega)]
        · rw [if_neg hk, if_neg (by omega)]
      have e2 : (k ∈ x :: l) ↔ k ∈ l := by simp [List.mem_cons, Ne.symm hx]
      rw [e]
      by_cases hk : k ∈ l
      · rw [if_pos hk, if_pos (e2.2 hk)]; omega
      · rw [if_neg hk, if_neg (fun h => hk (e2.1 h))]; omega
theorem cnt_get : ∀ {l : List Int} {k : Int}, Inc l → k ∈ l → l[cnt l k]? = some k
  | [], k, _, h => by simp at h
  | x :: l, k, h, hm => by
    obtain ⟨h1, h2⟩ := List.pairwise_cons.1 h
    rw [cnt_cons]
    rcases List.mem_cons.1 hm with rfl | hm
    · have h0 : cnt l k = 0 := by
        unfold cnt
        rw [List.length_eq_zero_iff, List.filter_eq_nil_iff]
        intro y hy
        have := h1 y hy
        simp; omega
      rw [if_neg (by omega), h0]; rfl
    · have := h1 k hm
      rw [if_pos this, Nat.add_comm, List.getElem?_cons_succ]
      exact cnt_get h2 hm
theorem cnt_all {l : List Int} {k : Int} (h : ∀ x ∈ l, x < k) : cnt l k = l.length := by
  unfold cnt
  rw [List.filter_eq_self.2 fun x hx => decide_eq_true (h x hx)]
theorem cnt_le (l : List Int) (k : Int) : cnt l k ≤ l.length := List.length_filter_le _ _
theorem cnt_lt {l : List Int} {k : Int} (h : Inc l) (hm : k ∈ l) : cnt l k < l.length := getLt (cnt_get h hm)
theorem inc_snoc {l : List Int} {x : Int} (h : Inc l) (hx : ∀ y ∈ l, y < x) : Inc (l ++ [x]) := by
  unfold Inc at *
  rw [List.pairwise_append]
  exact ⟨h, by simp, fun a ha b hb => by simp only [List.mem_singleton] at hb; subst hb; exact hx a ha⟩
theorem Set_in (N : Nat) (k0 : Int × (List Int) × Int × List Int → Option (List Int)) (n : Nat) (hn0 : 0 < n) (hn : n ≤ 4096) (raw : List Int) (x : Int) (s : List Int) (hs : s.length ≤ 5000) : ∀ (m i fuel : Nat), i + m = 200 → m < fuel →
    ∃ s', (s' = s ∨ s' = s ++ [x]) ∧ avermentlaw03_Set_l7 N k0 fuel (n : Int) raw x (i : Int) s = k0 ((n : Int), raw, x, s') := by
  intro m
  induction m with
  | zero =>
    intro i fuel h hf
    obtain ⟨fuel, rfl⟩ : ∃ f, fuel = f + 1 := ⟨fuel - 1, by omega⟩
    refine ⟨s, .inl rfl, ?_⟩
    rw [avermentlaw03_Set_l7, pLet_, pick_and, show (decide ((i : Int) < len raw) && decide ((i : Int) < 200)) = false by
      rw [Bool.and_eq_false_iff]; right; exact decide_eq_false (by omega), pIf_f]
  | succ m ih =>
    intro i fuel h hf
    obtain ⟨fuel, rfl⟩ : ∃ f, fuel = f + 1 := ⟨fuel - 1, by omega⟩
    rw [avermentlaw03_Set_l7, pLet_, pick_and]
    by_cases hi : i < raw.length
    · rw [show (decide ((i : Int) < len raw) && decide ((i : Int) < 200)) = true by
        rw [Bool.and_eq_true]; exact ⟨decide_eq_true (by rw [len_]; omega), decide_eq_true (by omega)⟩, pIf_t, pIdx_lt hi, wr_u64 (n := (n : Int)) (by omega) (by omega),
        show (!decide ((n : Int) = 0)) = true by rw [decide_eq_false (by omega)]; rfl, pCk_t]
      by_cases hx : wr .i64 (remI (wr .u64 raw[i]) (n : Int)) = x
      · rw [decide_eq_true hx, pIf_t, room_of (by simp; omega) (by simp; omega), pCk_t]
        exact ⟨_, .inr rfl, rfl⟩
      · rw [decide_eq_false hx, pIf_f, wr_succ (m := 200) (by omega) (by omega)]
        exact ih (i + 1) fuel (by omega) (by omega)
    · rw [show (decide ((i : Int) < len raw) && decide ((i : Int) < 200)) = false by
        rw [Bool.and_eq_false_iff]; left; exact decide_eq_false (by rw [len_]; omega), pIf_f]
      exact ⟨s, .inl rfl, rfl⟩
theorem Set_out (N : Nat) (hN : 300 < N) (n : Nat) (hn : n ≤ 4096) (raw : List Int) : ∀ (m x fuel : Nat) (s : List Int), x + m = n → m < fuel → Inc s → (∀ y ∈ s, 0 ≤ y ∧ y < (x : Int)) → s.length ≤ x →
    ∃ s', avermentlaw03_Set_l4 N (fun x0 => some x0) fuel (n : Int) raw (x : Int) s = some s' ∧ Inc s' ∧ (∀ y ∈ s', 0 ≤ y ∧ y < (n : Int)) ∧ s'.length ≤ n := by
  intro m
  induction m with
  | zero =>
    intro x fuel s h hf hs hy hl
    obtain ⟨fuel, rfl⟩ : ∃ f, fuel = f + 1 := ⟨fuel - 1, by omega⟩
    refine ⟨s, ?_, hs, fun y h1 => by have := hy y h1; omega, by omega⟩
    rw [avermentlaw03_Set_l4, pLet_, pick_and, show (decide ((x : Int) < (n : Int)) && decide ((x : Int) < 4096)) = false by
      rw [Bool.and_eq_false_iff]; left; exact decide_eq_false (by omega), pIf_f]
  | succ m ih =>
    intro x fuel s h hf hs hy hl
    obtain ⟨fuel, rfl⟩ : ∃ f, fuel = f + 1 := ⟨fuel - 1, by omega⟩
    rw [avermentlaw03_Set_l4, pLet_, pick_and, show (decide ((x : Int) < (n : Int)) && decide ((x : Int) < 4096)) = true by
      rw [Bool.and_eq_true]; exact ⟨decide_eq_true (by omega), decide_eq_true (by omega)⟩, pIf_t]
    obtain ⟨s', h1, h2⟩ := Set_in N (fun x1 => avermentlaw03_Set_l4 N (fun x0 => some x0) fuel x1.1 x1.2.1 (wr .i64 (x1.2.2.1 + 1)) x1.2.2.2) n (by omega) hn raw (x : Int) s (by omega) 200 0 N (by omega) (by omega)
    have h2' : avermentlaw03_Set_l7 N (fun x1 => avermentlaw03_Set_l4 N (fun x0 => some x0) fuel x1.1 x1.2.1 (wr .i64 (x1.2.2.1 + 1)) x1.2.2.2) N (n : Int) raw (x : Int) 0 s = _ := h2
    rw [h2']
    simp only
    rw [wr_succ (m := 4096) (by omega) (by omega)]
    rcases h1 with rfl | rfl
    · exact ih (x + 1) fuel s' (by omega) (by omega) hs (fun y hm => by have := hy y hm; omega) (by omega)
    · refine ih (x + 1) fuel _ (by omega) (by omega) (inc_snoc hs fun y hm => (hy y hm).2) (fun y hm => ?_) (by simp; omega)
      rcases List.mem_append.1 hm with hm | hm
      · have := hy y hm; omega
      · simp only [List.mem_singleton] at hm; omega
theorem Set_ok (N : Nat) (hN : 5000 < N) (n : Nat) (hn : n ≤ 4096) (raw : List Int) : ∃ s, avermentlaw03_Set N (n : Int) raw = some s ∧ Inc s ∧ (∀ y ∈ s, 0 ≤ y ∧ y < (n : Int)) ∧ s.length ≤ n := by
  unfold avermentlaw03_Set
  exact Set_out N (by omega) n hn raw n 0 N [] (by omega) (by omega) (by simp [Inc]) (fun y hy => by simp at hy) (by simp)
theorem refHas_loop (N : Nat) (s : List Int) (x : Int) (hs : s.length ≤ 100000) : ∀ (m i fuel : Nat), i + m = s.length → m < fuel → x ∉ s.take i →
    avermentref03_Has_l3 N (fun _ => some false) (fun x0 => some x0) fuel s x (i : Int) = some (decide (x ∈ s)) := by
  intro m
  induction m with
  | zero =>
    intro i fuel h hf hx
    obtain ⟨fuel, rfl⟩ : ∃ f, fuel = f + 1 := ⟨fuel - 1, by omega⟩
    rw [List.take_of_length_le (by omega)] at hx
    rw [avermentref03_Has_l3, decide_eq_false (by rw [len_]; omega), pIf_f, decide_eq_false hx]
  | succ m ih =>
    intro i fuel h hf hx
    obtain ⟨fuel, rfl⟩ : ∃ f, fuel = f + 1 := ⟨fuel - 1, by omega⟩
    have hi : i < s.length := by omega
    rw [avermentref03_Has_l3, decide_eq_true (by rw [len_]; omega), pIf_t, pIdx_lt hi]
    by_cases he : s[i] = x
    · rw [decide_eq_true he, pIf_t, decide_eq_true (by rw [← he]; exact List.getElem_mem hi)]
    · rw [decide_eq_false he, pIf_f, wr_succ (m := 100000) (by omega) (by omega)]
      refine ih (i + 1) fuel (by omega) (by omega) fun hm => ?_
      rw [List.take_succ_eq_append_getElem hi, List.mem_append, List.mem_singleton] at hm
      rcases hm with hm | hm
      · exact hx hm
      · exact he hm.symm
theorem refHas_ok (N : Nat) (s : List Int) (x : Int) (hs : s.length ≤ 100000) (hN : s.length < N) : avermentref03_Has N s x = some (decide (x ∈ s)) := by
  unfold avermentref03_Has
  exact refHas_loop N s x hs s.length 0 N (by omega) (by omega) (by simp)
end Go.Y
namespace Go.Y
open Go
theorem eq_step {a b : List Int} {i : Nat} (hi : i < a.length) (hj : i < b.length) (h : a.take i = b.take i) (he : a[i] = b[i]) : a.take (i + 1) = b.take (i + 1) := by
  rw [List.take_succ_eq_append_getElem hi, List.take_succ_eq_append_getElem hj, h, he]
theorem Same_loop (N : Nat) (a b : List Int) (hl : a.length = b.length) (hs : a.length ≤ 100000) : ∀ (m i fuel : Nat), i + m = a.length → m < fuel → a.take i = b.take i →
    avermentref01_Same_l5 N (fun _ => some true) (fun x0 => some x0) fuel a b (i : Int) = some (decide (a = b)) := by
  intro m
  induction m with
  | zero =>
    intro i fuel h hf ht
    obtain ⟨fuel, rfl⟩ : ∃ f, fuel = f + 1 := ⟨fuel - 1, by omega⟩
    rw [List.take_of_length_le (by omega), List.take_of_length_le (by omega)] at ht
    rw [avermentref01_Same_l5, decide_eq_false (by rw [len_]; omega), pIf_f, decide_eq_true ht]
  | succ m ih =>
    intro i fuel h hf ht
    obtain ⟨fuel, rfl⟩ : ∃ f, fuel = f + 1 := ⟨fuel - 1, by omega⟩
    have hi : i < a.length := by omega
    have hj : i < b.length := by omega
    rw [avermentref01_Same_l5, decide_eq_true (by rw [len_]; omega), pIf_t, pIdx_lt hi, pIdx_lt hj]
    by_cases he : a[i] = b[i]
    · rw [decide_eq_true he, Bool.not_true, pIf_f, wr_succ (m := 100000) (by omega) (by omega)]
      exact ih (i + 1) fuel (by omega) (by omega) (eq_step hi hj ht he)
    · rw [decide_eq_false he, Bool.not_false, pIf_t, decide_eq_false (fun e => he (by subst e; rfl))]
theorem ref01_Same_ok (N : Nat) (a b : List Int) (hs : a.length ≤ 100000) (hN : a.length < N) : avermentref01_Same N a b = some (decide (a = b)) := by
  unfold avermentref01_Same
  by_cases hl : a.length = b.length
  · rw [show decide (len a = len b) = true by rw [len_, len_]; exact decide_eq_true (by omega), Bool.not_true, pIf_f]
    exact Same_loop N a b hl hs a.length 0 N (by omega) (by omega) (by simp)
  · rw [show decide (len a = len b) = false by rw [len_, len_]; exact decide_eq_false (by omega), Bool.not_false, pIf_t, decide_eq_false (fun e => hl (by rw [e]))]
section
variable (N : Nat) (hN : 5000 < N) (k0 : Int × (List Int) × (List Int) × (List Int) × (List Int) × Bool × Int × Int → Option Bool) (k1 : Bool → Option Bool) (z : Int) (a b u m : List Int)
  (ha : Inc a) (hb : Inc b) (hu : Inc u) (hm : Inc m) (hal : a.length ≤ 60) (hbl : b.length ≤ 60) (hul : u.length ≤ 200) (hml : m.length ≤ 200)
  (hum : ∀ x, x ∈ u ↔ x ∈ a ∨ x ∈ b) (hmm : ∀ x, x ∈ m ↔ x ∈ a ∧ x ∉ b)
include hN ha hb hu hm hal hbl hul hml hum hmm in
theorem sets_step (fuel k : Nat) (hk : k < 60) (w : Bool) :
    avermentlaw03_BitsSets_l7 N k0 k1 (fuel + 1) z a b u m w (cnt u k : Int) (cnt m k : Int) (k : Int) = avermentlaw03_BitsSets_l7 N k0 k1 fuel z a b u m (w && (!decide ((k : Int) ∈ a) || decide ((k : Int) ∈ b))) (cnt u ((k + 1 : Nat) : Int) : Int) (cnt m ((k + 1 : Nat) : Int) : Int) ((k + 1 : Nat) : Int) := by
  have hcu := cnt_le u k
  have hcm := cnt_le m k
  rw [avermentlaw03_BitsSets_l7, decide_eq_true (by omega), pIf_t, refHas_ok N a _ (by omega) (by omega), pCall_s, refHas_ok N b _ (by omega) (by omega), pCall_s]
  simp only [pLet_, pJoin_, bits_Has_ok _ (show a.length ≤ 4611686018427387903 by omega) (show a.length < N by omega) ha, bits_Has_ok _ (show b.length ≤ 4611686018427387903 by omega) (show b.length < N by omega) hb, pCall_s]
  have e1 : ((k + 1 : Nat) : Int) = (k : Int) + 1 := by omega
  have e2 : wr .i64 ((k : Int) + 1) = ((k + 1 : Nat) : Int) := wr_succ (m := 60) hk (by omega)
  have su := cnt_step (k : Int) hu
  have sm := cnt_step (k : Int) hm
  have gu : (k : Int) ∈ u → ∀ f : Int → Option Bool, pIdx u (cnt u k : Int) f = f (k : Int) := fun h f => pIdx_nat (cnt_get hu h) f
  have gm : (k : Int) ∈ m → ∀ f : Int → Option Bool, pIdx m (cnt m k : Int) f = f (k : Int) := fun h f => pIdx_nat (cnt_get hm h) f
  have wu : (k : Int) ∈ u → wr .i64 ((cnt u k : Int) + 1) = (cnt u ((k + 1 : Nat) : Int) : Int) := fun h => by
    rw [e1, su, if_pos h, wr_i64 (by omega) (by omega)]; omega
  have wm : (k : Int) ∈ m → wr .i64 ((cnt m k : Int) + 1) = (cnt m ((k + 1 : Nat) : Int) : Int) := fun h => by
    rw [e1, sm, if_pos h, wr_i64 (by omega) (by omega)]; omega
  have nu : (k : Int) ∉ u → cnt u ((k + 1 : Nat) : Int) = cnt u (k : Int) := fun h => by rw [e1, su, if_neg h, Nat.add_zero]
  have nm : (k : Int) ∉ m → cnt m ((k + 1 : Nat) : Int) = cnt m (k : Int) := fun h => by rw [e1, sm, if_neg h, Nat.add_zero]
  have lu : (k : Int) ∈ u → decide (len u ≤ (cnt u k : Int)) = false := fun h => by
    have := cnt_lt hu h
    exact decide_eq_false (by rw [len_]; omega)
  have lm : (k : Int) ∈ m → decide (len m ≤ (cnt m k : Int)) = false := fun h => by
    have := cnt_lt hm h
    exact decide_eq_false (by rw [len_]; omega)
  by_cases pa : (k : Int) ∈ a
  · have ku : (k : Int) ∈ u := (hum _).2 (.inl pa)
    by_cases pb : (k : Int) ∈ b
    · have km : (k : Int) ∉ m := fun h => ((hmm _).1 h).2 pb
      simp only [pIdxG_t, decide_eq_true pa, decide_eq_true pb, Bool.not_true, pick_t, pick_f, pIf_t, pIf_f, gu ku, lu ku, wu ku, nm km, decide_true, beq_self_eq_true, Bool.not_false, pCallG_t, pCall_s, e2, pick_and, Bool.or_true, Bool.and_true, Bool.false_or]
    · have km : (k : Int) ∈ m := (hmm _).2 ⟨pa, pb⟩
      simp only [pIdxG_t, decide_eq_true pa, decide_eq_false pb, Bool.not_true, pick_t, pick_f, pIf_t, pIf_f, gu ku, lu ku, wu ku, gm km, lm km, wm km, decide_true, beq_self_eq_true, Bool.not_false, pCallG_t, pCall_s, e2, pick_and, Bool.or_false, Bool.and_false]
  · have km : (k : Int) ∉ m := fun h => pa ((hmm _).1 h).1
    by_cases pb : (k : Int) ∈ b
    · have ku : (k : Int) ∈ u := (hum _).2 (.inr pb)
      simp only [pIdxG_t, decide_eq_false pa, decide_eq_true pb, Bool.not_true, pick_t, pick_f, pIf_t, pIf_f, gu ku, lu ku, wu ku, nm km, decide_true, beq_self_eq_true, Bool.not_false, pCallG_t, pCall_s, e2, pick_and, Bool.or_true, Bool.and_true, Bool.true_or]
    · have ku : (k : Int) ∉ u := fun h => ((hum _).1 h).elim pa pb
      simp only [pIdxG_t, decide_eq_false pa, decide_eq_false pb, Bool.not_true, pick_t, pick_f, pIf_t, pIf_f, nu ku, nm km, decide_true, beq_self_eq_true, Bool.not_false, pCallG_t, pCall_s, e2, pick_and, Bool.or_true, Bool.and_true, Bool.true_or]
include hN ha hb hu hm hal hbl hul hml hum hmm in
theorem sets_run : ∀ (q k fuel : Nat) (w : Bool), k + q = 60 → q < fuel → w = decide (∀ x ∈ a, x < (k : Int) → x ∈ b) → (∀ x ∈ a, 0 ≤ x ∧ x < 60) → (∀ x ∈ b, 0 ≤ x ∧ x < 60) →
    avermentlaw03_BitsSets_l7 N k0 k1 fuel z a b u m w (cnt u k : Int) (cnt m k : Int) (k : Int) = k0 (z, a, b, u, m, decide (∀ x ∈ a, x ∈ b), (u.length : Int), (m.length : Int)) := by
  intro q
  induction q with
  | zero =>
    intro k fuel w h hf hw h1 h2
    obtain ⟨fuel, rfl⟩ : ∃ f, fuel = f + 1 := ⟨fuel - 1, by omega⟩
    obtain rfl : k = 60 := by omega
    have cu : cnt u ((60 : Nat) : Int) = u.length := cnt_all fun x hx => by
      rcases (hum x).1 hx with h | h
      · exact (h1 x h).2
      · exact (h2 x h).2
    have cm : cnt m ((60 : Nat) : Int) = m.length := cnt_all fun x hx => (h1 x ((hmm x).1 hx).1).2
    have hww : w = decide (∀ x ∈ a, x ∈ b) := by
      rw [hw, decide_eq_decide]
      exact ⟨fun h x hx => h x hx (h1 x hx).2, fun h x hx _ => h x hx⟩
    rw [avermentlaw03_BitsSets_l7, decide_eq_false (by omega), pIf_f, cu, cm, hww]
  | succ q ih =>
    intro k fuel w h hf hw h1 h2
    obtain ⟨fuel, rfl⟩ : ∃ f, fuel = f + 1 := ⟨fuel - 1, by omega⟩
    rw [sets_step N hN k0 k1 z a b u m ha hb hu hm hal hbl hul hml hum hmm fuel k (by omega) w]
    refine ih (k + 1) fuel _ (by omega) (by omega) ?_ h1 h2
    rw [hw]
    by_cases hall : ∀ x ∈ a, x < ((k + 1 : Nat) : Int) → x ∈ b
    · have h3 : ∀ x ∈ a, x < (k : Int) → x ∈ b := fun x hx hk => hall x hx (by omega)
      rw [decide_eq_true hall, decide_eq_true h3]
      by_cases pa : (k : Int) ∈ a
      · rw [decide_eq_true (hall _ pa (by omega))]; simp
      · rw [decide_eq_false pa]; simp
    · rw [decide_eq_false hall]
      by_cases h3 : ∀ x ∈ a, x < (k : Int) → x ∈ b
      · have : (k : Int) ∈ a ∧ (k : Int) ∉ b := by
          refine Classical.byContradiction fun hc => hall fun x hx hk => ?_
          by_cases hxk : x < (k : Int)
          · exact h3 x hx hxk
          · obtain rfl : x = (k : Int) := by omega
            exact Classical.byContradiction fun hb => hc ⟨hx, hb⟩
        rw [decide_eq_true this.1, decide_eq_false this.2]; simp
      · rw [decide_eq_false h3]; rfl
end
end Go.Y
namespace Go.Y
open Go
theorem band_nat {k : IntKind} {x y : Nat} (hx : x < 2 ^ k.bits) (hy : y < 2 ^ k.bits) (hw : ∀ z : Nat, z < 2 ^ k.bits → z ≤ x → k.wrap (z : Int) = z) : band k (x : Int) (y : Int) = ((x &&& y : Nat) : Int) := by
  unfold band
  have e1 : (BitVec.ofInt k.bits (x : Int)) = BitVec.ofNat k.bits x := by simp
  have e2 : (BitVec.ofInt k.bits (y : Int)) = BitVec.ofNat k.bits y := by simp
  rw [e1, e2, BitVec.toNat_and, BitVec.toNat_ofNat, BitVec.toNat_ofNat, Nat.mod_eq_of_lt hx, Nat.mod_eq_of_lt hy]
  exact hw _ (Nat.lt_of_le_of_lt Nat.and_le_left hx) Nat.and_le_left
theorem band_u8 {x y : Nat} (hx : x < 256) (hy : y < 256) : band .u8 (x : Int) (y : Int) = ((x &&& y : Nat) : Int) :=
  band_nat (k := .u8) hx hy fun z h _ => wr_u8 (by omega) (by have : z < 256 := h; omega)
theorem band_u64 {x y : Nat} (hx : x < 2 ^ 64) (hy : y < 2 ^ 64) : band .u64 (x : Int) (y : Int) = ((x &&& y : Nat) : Int) :=
  band_nat (k := .u64) hx hy fun z h _ => wr_u64 (by omega) (by have : z < 2 ^ 64 := h; omega)
theorem bor_u64 {x y : Nat} (hx : x < 2 ^ 64) (hy : y < 2 ^ 64) : bor .u64 (x : Int) (y : Int) = ((x ||| y : Nat) : Int) := by
  unfold bor
  have e1 : (BitVec.ofInt IntKind.u64.bits (x : Int)) = BitVec.ofNat 64 x := by show BitVec.ofInt 64 (x : Int) = _; simp
  have e2 : (BitVec.ofInt IntKind.u64.bits (y : Int)) = BitVec.ofNat 64 y := by show BitVec.ofInt 64 (y : Int) = _; simp
  rw [e1, e2]
  show IntKind.u64.wrap ((BitVec.ofNat 64 x ||| BitVec.ofNat 64 y).toNat : Int) = _
  rw [BitVec.toNat_or, BitVec.toNat_ofNat, BitVec.toNat_ofNat, Nat.mod_eq_of_lt hx, Nat.mod_eq_of_lt hy]
  have := Nat.or_lt_two_pow hx hy
  exact wr_u64 (by omega) (by omega)
theorem bor_u8 {x y : Nat} (hx : x < 256) (hy : y < 256) : bor .u8 (x : Int) (y : Int) = ((x ||| y : Nat) : Int) := by
  unfold bor
  have e1 : (BitVec.ofInt IntKind.u8.bits (x : Int)) = BitVec.ofNat 8 x := by show BitVec.ofInt 8 (x : Int) = _; simp
  have e2 : (BitVec.ofInt IntKind.u8.bits (y : Int)) = BitVec.ofNat 8 y := by show BitVec.ofInt 8 (y : Int) = _; simp
  rw [e1, e2]
  show IntKind.u8.wrap ((BitVec.ofNat 8 x ||| BitVec.ofNat 8 y).toNat : Int) = _
  rw [BitVec.toNat_or, BitVec.toNat_ofNat, BitVec.toNat_ofNat, Nat.mod_eq_of_lt hx, Nat.mod_eq_of_lt hy]
  have := Nat.or_lt_two_pow (n := 8) hx hy
  exact wr_u8 (by omega) (by omega)
theorem and127 (x : Nat) : x &&& 127 = x % 128 := Nat.and_two_pow_sub_one_eq_mod x 7
theorem and128 {x : Nat} (h : x < 256) : (x &&& 128 = 0) ↔ x < 128 := by
  have : ∀ x : Fin 256, (x.val &&& 128 = 0) ↔ x.val < 128 := by decide +kernel
  exact this ⟨x, h⟩
theorem shl_u64 {x s : Nat} (hs : s < 64) (h : x * 2 ^ s < 2 ^ 64) : shlI .u64 (x : Int) (s : Int) = ((x * 2 ^ s : Nat) : Int) := by
  unfold shlI
  rw [show min (s : Int).toNat IntKind.u64.bits = s by show min (s : Int).toNat 64 = s; omega]
  rw [show (x : Int) * 2 ^ s = ((x * 2 ^ s : Nat) : Int) by push_cast; rfl]
  exact wr_u64 (by omega) (by omega)
theorem or_add {a c s : Nat} (h : a < 2 ^ s) : a ||| c * 2 ^ s = a + c * 2 ^ s := by
  have := Nat.shiftLeft_add_eq_or_of_lt h c
  rw [Nat.shiftLeft_eq] at this
  rw [Nat.or_comm, ← this]; omega
def vVal : List Nat → Nat
  | [] => 0
  | c :: r => c % 128 + 128 * vVal r
end Go.Y
namespace Go.Y
open Go
def ints (bs : List Nat) : List Int := bs.map fun n : Nat => (n : Int)
theorem ints_len (bs : List Nat) : (ints bs).length = bs.length := by simp [ints]
theorem ints_get {bs : List Nat} {i c : Nat} (h : bs[i]? = some c) : (ints bs)[i]? = some (c : Int) := by simp [ints, h]
def vFit : List Nat → Prop
  | [] => False
  | [c] => c < 128
  | c :: d :: r => 128 ≤ c ∧ c < 256 ∧ 0 < vVal (d :: r) ∧ vFit (d :: r)
theorem pow7 (i : Nat) : 128 ^ i = 2 ^ (7 * i) := by rw [show (128 : Nat) = 2 ^ 7 by rfl, ← Nat.pow_mul]
theorem step_val {a c i : Nat} (ha : a < 128 ^ i) (hi : i ≤ 9) (hc : c < 256) (h9 : i = 9 → c ≤ 1) :
    a + c % 128 * 128 ^ i < 2 ^ 64 ∧ bor .u64 (a : Int) (shlI .u64 (wr .u64 (band .u8 (c : Int) 127)) (wr .i64 (7 * (i : Int)))) = ((a + c % 128 * 128 ^ i : Nat) : Int) := by
  have hp : 0 < 128 ^ i := Nat.pow_pos (by omega)
  have hlt : (c % 128 + 1) * 128 ^ i ≤ 2 ^ 64 := by
    by_cases h : i = 9
    · have := h9 h
      subst h
      calc (c % 128 + 1) * 128 ^ 9 ≤ 2 * 128 ^ 9 := Nat.mul_le_mul_right _ (by omega)
        _ = 2 ^ 64 := by decide
    · calc (c % 128 + 1) * 128 ^ i ≤ 128 * 128 ^ 8 := Nat.mul_le_mul (by omega) (Nat.pow_le_pow_right (by omega) (by omega))
        _ ≤ 2 ^ 64 := by decide
  rw [Nat.add_mul, Nat.one_mul] at hlt
  have h1 : a + c % 128 * 128 ^ i < 2 ^ 64 := by omega
  refine ⟨h1, ?_⟩
  have e1 : band .u8 (c : Int) 127 = ((c % 128 : Nat) : Int) := by
    have := band_u8 (x := c) (y := 127) hc (by omega)
    rw [and127] at this
    exact this
  rw [e1, wr_u64 (by omega) (by omega), wr_i64 (by omega) (by omega)]
  have e2 := shl_u64 (x := c % 128) (s := 7 * i) (by omega) (by rw [← pow7]; omega)
  rw [show (7 * (i : Int)) = ((7 * i : Nat) : Int) by push_cast; rfl, e2, bor_u64 (by omega) (by rw [← pow7]; omega), or_add (by rw [← pow7]; exact ha), ← pow7]
end Go.Y
namespace Go.Y
open Go
theorem or128 {x : Nat} (h : x < 128) : x ||| 128 = x + 128 := by
  have : ∀ x : Fin 128, x.val ||| 128 = x.val + 128 := by decide +kernel
  exact this ⟨x, h⟩
theorem byte_eq (N : Nat) (c : Nat) (w : List Nat) (hw : w.length ≤ 100000) : p_wire_Writer_Byte N (c : Int) (ints w) = some (ints (w ++ [c])) := by
  unfold p_wire_Writer_Byte
  rw [room_of (by simp [ints_len]; omega) (by simp [ints_len]; omega), pCk_t]
  simp [ints]
theorem enc_go (N : Nat) : ∀ (ch w : List Nat) (fuel : Nat), vFit ch → ch.length < fuel → w.length + ch.length ≤ 100000 → vVal ch < 2 ^ 64 →
    p_wire_Writer_Uint_l1 N (fun x0 => pCall (p_wire_Writer_Byte N (wr .u8 x0.1) x0.2) fun x1 => some x1) fuel (vVal ch : Int) (ints w) = some (ints (w ++ ch))
  | [], w, fuel, hv, hf, hw, h64 => hv.elim
  | [c], w, fuel, hv, hf, hw, h64 => by
    obtain ⟨fuel, rfl⟩ : ∃ f, fuel = f + 1 := ⟨fuel - 1, by omega⟩
    have hc : c < 128 := hv
    have hval : vVal [c] = c := by simp only [vVal]; omega
    simp only [p_wire_Writer_Uint_l1, hval]
    rw [show decide ((127 : Int) < (c : Int)) = false by simp only [decide_eq_false_iff_not]; omega, pIf_f]
    simp only [List.length_singleton] at hw
    rw [wr_u8 (by omega) (by omega), byte_eq N c w (by omega)]
    rfl
  | c :: d :: r, w, fuel, hv, hf, hw, h64 => by
    obtain ⟨fuel, rfl⟩ : ∃ f, fuel = f + 1 := ⟨fuel - 1, by omega⟩
    obtain ⟨h1, h2, h3, h4⟩ := hv
    have hval : vVal (c :: d :: r) = c % 128 + 128 * vVal (d :: r) := rfl
    generalize hv' : vVal (c :: d :: r) = n at *
    simp only [p_wire_Writer_Uint_l1]
    rw [show decide ((127 : Int) < (n : Int)) = true by simp only [decide_eq_true_eq]; omega, pIf_t]
    have e1 : band .u64 (n : Int) 127 = ((n % 128 : Nat) : Int) := by
      have := band_u64 (x := n) (y := 127) h64 (by omega)
      rw [and127] at this
      exact this
    have e2 : bor .u8 (wr .u8 (band .u64 (n : Int) 127)) 128 = (c : Int) := by
      rw [e1, wr_u8 (by omega) (by omega)]
      have := bor_u8 (x := n % 128) (y := 128) (by omega) (by omega)
      rw [or128 (by omega)] at this
      rw [show (128 : Int) = ((128 : Nat) : Int) by rfl, this]
      omega
    have e3 : shrI .u64 (n : Int) 7 = (vVal (d :: r) : Int) := by
      unfold shrI
      rw [show min (7 : Int).toNat IntKind.u64.bits = 7 by rfl, show ((2 : Int) ^ 7) = 128 by rfl, Int.fdiv_eq_ediv_of_nonneg _ (by omega)]
      omega
    simp only [List.length_cons] at hw hf
    rw [e2, byte_eq N c w (by omega), pCall_s, e3]
    have := enc_go N (d :: r) (w ++ [c]) fuel h4 (by simp only [List.length_cons]; omega) (by simp only [List.length_append, List.length_cons, List.length_nil]; omega) (by omega)
    rw [this]
    simp
end Go.Y
namespace Go.Y
open Go
theorem clone_eq (N : Nat) (bs : List Nat) (hl : bs.length ≤ 100000) : slices_Clone_byte_byte N (ints bs) = some (ints bs) := by
  have h : pCk (room 1 (len ([] ++ ints bs))) (some ([] ++ ints bs)) = some (ints bs) := by
    rw [room_of (by simp [ints_len]; omega) (by simp [ints_len]; omega), pCk_t]; rfl
  unfold slices_Clone_byte_byte
  rw [h]
  cases bs with
  | nil =>
    show pBoth _ _ = _
    unfold pBoth
    exact if_pos rfl
  | cons c r => rfl
theorem read_eq (N : Nat) (bs : List Nat) (hl : bs.length ≤ 100000) : wire_Read N (ints bs) = some (ints bs, 0) := by
  unfold wire_Read
  rw [clone_eq N bs hl]; rfl
end Go.Y
namespace Go.Y
open Go
end Go.Y
namespace Go.Y
open Go
theorem vFit_byte : ∀ {ch : List Nat}, vFit ch → ∀ x ∈ ch, x < 256
  | [], h, _, _ => h.elim
  | [c], h, x, hx => by
    simp only [List.mem_singleton] at hx; subst hx
    have : x < 128 := h
    omega
  | c :: d :: r, h, x, hx => by
    rcases List.mem_cons.1 hx with rfl | hx
    · exact h.2.1
    · exact vFit_byte (ch := d :: r) h.2.2.2 x hx
variable (N : Nat) (k0 : (List Int) × Int → Option (Int × Int × Int × (List Int) × Int)) (k1 : Int × Int × Int × (List Int) × Int → Option (Int × Int × Int × (List Int) × Int))
theorem hd_of {bs : List Nat} {j c : Nat} {r : List Nat} (h : bs.drop j = c :: r) : bs[j]? = some c ∧ bs.drop (j + 1) = r ∧ j < bs.length := by
  have hj : j < bs.length := by
    have := congrArg List.length h
    simp only [List.length_drop, List.length_cons] at this
    omega
  rw [List.drop_eq_getElem_cons hj, List.cons.injEq] at h
  exact ⟨by rw [List.getElem?_eq_getElem hj, h.1], h.2, hj⟩
theorem look_val (bs : List Nat) (at_ most : Nat) (hl : bs.length ≤ 100000) : ∀ (ch rest : List Nat) (i a fuel : Nat), bs.drop (at_ + i) = ch ++ rest → vFit ch → (0 < i → 0 < vVal ch) → i + ch.length ≤ 10 → a < 128 ^ i → a + 128 ^ i * vVal ch < 2 ^ 64 →
    a + 128 ^ i * vVal ch ≤ most → ch.length < fuel → p_wire_Reader_look_l4 N k0 k1 fuel (most : Int) (a : Int) (i : Int) (ints bs) (at_ : Int) = k1 (((a + 128 ^ i * vVal ch : Nat) : Int), ((i + ch.length : Nat) : Int), 0, ints bs, (at_ : Int)) := by
  intro ch
  induction ch with
  | nil => intro rest i a fuel _ hv; exact hv.elim
  | cons c ch ih =>
    intro rest i a fuel hd hv h0 hi ha h64 hm hf
    obtain ⟨fuel, rfl⟩ : ∃ f, fuel = f + 1 := ⟨fuel - 1, by omega⟩
    simp only [List.length_cons] at hi hf
    obtain ⟨hc, hdr, hil⟩ := hd_of (c := c) (r := ch ++ rest) (by rw [hd]; rfl)
    have hc256 : c < 256 := vFit_byte hv c (by simp)
    have hp : 0 < 128 ^ i := Nat.pow_pos (by omega)
    have hw : wr .i64 ((at_ : Int) + (i : Int)) = ((at_ + i : Nat) : Int) := by rw [wr_i64 (by omega) (by omega)]; omega
    have h9 : i = 9 → c ≤ 1 := by
      intro h9
      subst h9
      have : ch = [] := by cases ch with | nil => rfl | cons d r => simp only [List.length_cons] at hi; omega
      subst this
      have hc1 : c < 128 := hv
      have e : vVal [c] = c := by simp only [vVal]; omega
      rw [e] at h64
      by_cases hc2 : c ≤ 1
      · exact hc2
      · have : 128 ^ 9 * 2 ≤ 128 ^ 9 * c := Nat.mul_le_mul_left _ (by omega)
        omega
    simp only [p_wire_Reader_look_l4]
    rw [show decide ((i : Int) < 10) = true by simp; omega, pIf_t]
    simp only [hw, len_, ints_len]
    rw [show decide (((at_ + i : Nat) : Int) = (bs.length : Int)) = false by simp only [decide_eq_false_iff_not]; omega, pIf_f]
    rw [pIdx_nat (ints_get hc)]
    simp only [pLet_, pick_and]
    rw [show (decide ((i : Int) = 9) && decide (1 < (c : Int))) = false by
      simp only [Bool.and_eq_false_iff, decide_eq_false_iff_not]
      by_cases h : i = 9
      · have := h9 h; right; omega
      · left; omega, pIf_f]
    have h7 : wr .i64 (7 * (i : Int)) = 7 * (i : Int) := wr_i64 (by omega) (by omega)
    rw [show decide (0 ≤ wr .i64 (7 * (i : Int))) = true by rw [h7]; exact decide_eq_true (by omega), pCk_t]
    obtain ⟨hv1, hv2⟩ := step_val ha (by omega) hc256 h9
    simp only [hv2]
    have hb128 : band .u8 (c : Int) 128 = ((c &&& 128 : Nat) : Int) := band_u8 (x := c) (y := 128) hc256 (by omega)
    have e1 : wr .i64 ((i : Int) + 1) = ((i + 1 : Nat) : Int) := wr_succ (m := 10) (by omega) (by omega)
    rw [e1]
    cases ch with
    | nil =>
      have hcc : c < 128 := hv
      have e : vVal [c] = c := by simp only [vVal]; omega
      rw [e] at h0 h64 hm ⊢
      have hval : a + c % 128 * 128 ^ i = a + 128 ^ i * c := by rw [Nat.mod_eq_of_lt hcc, Nat.mul_comm]
      rw [hval]
      rw [show (!decide (band .u8 (c : Int) 128 = 0)) = false by rw [hb128, (and128 hc256).2 hcc]; rfl, pIf_f]
      rw [show (decide ((c : Int) = 0) && decide (0 < (i : Int))) = false by
        simp only [Bool.and_eq_false_iff, decide_eq_false_iff_not]
        by_cases h : 0 < i
        · have := h0 h; left; omega
        · right; omega, pIf_f]
      rw [show decide ((most : Int) < ((a + 128 ^ i * c : Nat) : Int)) = false by simp only [decide_eq_false_iff_not]; omega, pIf_f]
      rfl
    | cons d r =>
      obtain ⟨g1, g2, g3, g4⟩ := hv
      rw [show (!decide (band .u8 (c : Int) 128 = 0)) = true by
        rw [hb128]
        have : ¬ c &&& 128 = 0 := fun h => by have := (and128 hc256).1 h; omega
        simp; omega, pIf_t]
      have hval : a + c % 128 * 128 ^ i + 128 ^ (i + 1) * vVal (d :: r) = a + 128 ^ i * vVal (c :: d :: r) := by
        have : vVal (c :: d :: r) = c % 128 + 128 * vVal (d :: r) := rfl
        rw [this, Nat.pow_succ]; grind
      rw [← hval] at h64 hm ⊢
      rw [ih rest (i + 1) (a + c % 128 * 128 ^ i) fuel (by rw [← Nat.add_assoc]; exact hdr) g4 (fun _ => g3) (by omega) (by
        rw [Nat.pow_succ]
        have : c % 128 * 128 ^ i ≤ 127 * 128 ^ i := Nat.mul_le_mul_right _ (by omega)
        omega) h64 hm (by omega)]
      simp only [List.length_cons]
      rw [show i + 1 + (r.length + 1) = i + (r.length + 1 + 1) by omega]
end Go.Y
namespace Go.Y
open Go
theorem remI_nat (a : Int) {n : Nat} (hn : 0 < n) (hn2 : n ≤ 100000) : ∃ k : Nat, wr .i64 (remI (wr .u64 a) (n : Int)) = (k : Int) ∧ k < n := by
  have h : remI (wr .u64 a) (n : Int) = (a % 18446744073709551616) % (n : Int) := by
    unfold remI
    rw [wr_u64_mod, Int.tmod_eq_emod_of_nonneg (by omega)]
  have h1 := Int.emod_nonneg (a % 18446744073709551616) (b := (n : Int)) (by omega)
  have h2 := Int.emod_lt_of_pos (a % 18446744073709551616) (b := (n : Int)) (by omega)
  refine ⟨((a % 18446744073709551616) % (n : Int)).toNat, ?_, by omega⟩
  rw [h, wr_i64 (by omega) (by omega)]
  omega
theorem ints_app (a b : List Nat) : ints (a ++ b) = ints a ++ ints b := by simp [ints]
theorem enc_eq' (N : Nat) (ch w : List Nat) (hv : vFit ch) (hf : ch.length < N) (hl : w.length + ch.length ≤ 100000) (h64 : vVal ch < 2 ^ 64) : p_wire_Writer_Uint N (vVal ch : Int) (ints w) = some (ints (w ++ ch)) := by
  unfold p_wire_Writer_Uint
  exact enc_go N ch w N hv hf hl h64
theorem bytes_eq (N : Nat) (cs : List Nat) (hc : cs.length ≤ 100000) : p_wire_Writer_Bytes N (ints cs) = some (ints cs, ints cs) := by
  unfold p_wire_Writer_Bytes
  rw [clone_eq N cs hc]; rfl
end Go.Y
namespace Go.Y
open Go
theorem recF_succ {A B : Type} (Fb : (Nat → A → Option B) → Nat → A → Option B) (m : Nat) : recF Fb (m + 1) = Fb (recF Fb m) := rfl
theorem refUint_f (self : Nat → Int → Option (List Int)) (N : Nat) (x : Int) : avermentref02_Uint_f self N x = pIf (decide (x < 128)) (some [wr .u8 x]) (pCall (self N (quoI .u64 x 128)) fun x0 =>
    pCk (room 1 (len ([(wr .u8 ((wr .u8 (remI x 128)) + 128))] ++ x0))) (some ([(wr .u8 ((wr .u8 (remI x 128)) + 128))] ++ x0))) := rfl
theorem refUint_rec (N : Nat) : ∀ (ch : List Nat) (m : Nat), vFit ch → vVal ch < 2 ^ 64 → ch.length ≤ 10 → ch.length ≤ m → recF avermentref02_Uint_f m N (vVal ch : Int) = some (ints ch)
  | [], m, hv, _, _, _ => hv.elim
  | [c], m, hv, h64, hl, hm => by
    obtain ⟨m, rfl⟩ : ∃ f, m = f + 1 := ⟨m - 1, by simp only [List.length_singleton] at hm; omega⟩
    have hc : c < 128 := hv
    have e : vVal [c] = c := by simp only [vVal]; omega
    rw [e]
    rw [recF_succ, refUint_f]
    rw [show decide ((c : Int) < 128) = true by simp only [decide_eq_true_eq]; omega, pIf_t, wr_u8 (by omega) (by omega)]
    rfl
  | c :: d :: r, m, hv, h64, hl, hm => by
    obtain ⟨m, rfl⟩ : ∃ f, m = f + 1 := ⟨m - 1, by simp only [List.length_cons] at hm; omega⟩
    obtain ⟨h1, h2, h3, h4⟩ := hv
    have e : vVal (c :: d :: r) = c % 128 + 128 * vVal (d :: r) := rfl
    generalize hn : vVal (c :: d :: r) = n at *
    rw [recF_succ, refUint_f]
    rw [show decide ((n : Int) < 128) = false by simp only [decide_eq_false_iff_not]; omega, pIf_f]
    have q : quoI .u64 (n : Int) 128 = (vVal (d :: r) : Int) := by
      show wr .u64 (Int.tdiv (n : Int) 128) = _
      rw [Int.tdiv_eq_ediv_of_nonneg (by omega), wr_u64 (by omega) (by omega)]
      omega
    have rm : remI (n : Int) 128 = ((n % 128 : Nat) : Int) := by
      unfold remI
      rw [Int.tmod_eq_emod_of_nonneg (by omega)]
      omega
    simp only [List.length_cons] at hl hm
    have ih := refUint_rec N (d :: r) m h4 (by omega) (by simp only [List.length_cons]; omega) (by simp only [List.length_cons]; omega)
    rw [q, ih, pCall_s, rm, wr_u8 (n := ((n % 128 : Nat) : Int)) (by omega) (by omega), wr_u8 (by omega) (by omega)]
    rw [room_of (by simp [ints_len]; omega) (by simp [ints_len]; omega), pCk_t]
    have : ((n % 128 : Nat) : Int) + 128 = (c : Int) := by omega
    rw [this]; rfl
theorem refUint_eq (N : Nat) (hN : 10 ≤ N) (ch : List Nat) (hv : vFit ch) (h64 : vVal ch < 2 ^ 64) (hl : ch.length ≤ 10) : avermentref02_Uint N (vVal ch : Int) = some (ints ch) := by
  unfold avermentref02_Uint
  exact refUint_rec N ch N hv h64 hl (by omega)
theorem sub_eq2 {bs : List Nat} {a n : Nat} : sub (ints bs) (a : Int) ((a + n : Nat) : Int) = ints ((bs.drop a).take n) := by
  simp only [sub, ints, Int.toNat_natCast, ← List.map_take, ← List.map_drop]
  rw [List.drop_take, Nat.add_sub_cancel_left]
theorem left_eq (N : Nat) (bs : List Nat) (a : Nat) (hl : bs.length ≤ 100000) (ha : a ≤ bs.length) : p_wire_Reader_Left N (ints bs) (a : Int) = some (((bs.length - a : Nat) : Int), ints bs, (a : Int)) := by
  unfold p_wire_Reader_Left
  rw [len_, ints_len, wr_i64 (by omega) (by omega)]
  congr 2
  omega
theorem raw_eq (N : Nat) (bs : List Nat) (a n : Nat) (hl : bs.length ≤ 100000) (ha : a + n ≤ bs.length) : p_wire_Reader_Raw N (n : Int) (ints bs) (a : Int) = some (ints ((bs.drop a).take n), Err.nil, ints bs, ((a + n : Nat) : Int)) := by
  unfold p_wire_Reader_Raw
  rw [show decide ((n : Int) < 0) = false by simp only [decide_eq_false_iff_not]; omega]
  simp only [pLet_, pick_f, pIf_f, left_eq N bs a hl (by omega), pCall_s]
  have h2 : wr .i64 ((a : Int) + (n : Int)) = ((a + n : Nat) : Int) := by rw [wr_i64 (by omega) (by omega)]; omega
  have h3 : wr .i64 (((a + n : Nat) : Int) - (n : Int)) = (a : Int) := by rw [wr_i64 (by omega) (by omega)]; omega
  rw [show decide (((bs.length - a : Nat) : Int) < (n : Int)) = false by simp only [decide_eq_false_iff_not]; omega, pIf_f]
  simp only [h2, h3, len_, ints_len]
  rw [show (decide (0 ≤ ((a + n : Nat) : Int)) && decide (((a + n : Nat) : Int) ≤ (bs.length : Int))) = true by simp only [Bool.and_eq_true, decide_eq_true_eq]; omega, pCk_t,
    show (decide (0 ≤ (a : Int)) && decide ((a : Int) ≤ ((a + n : Nat) : Int))) = true by simp only [Bool.and_eq_true, decide_eq_true_eq]; omega, pCk_t]
  rw [sub_eq2, clone_eq N _ (by rw [List.length_take, List.length_drop]; omega)]
  rfl
theorem uint_val (N : Nat) (hN : 100 < N) (bs ch rest : List Nat) (a most : Nat) (hl : bs.length ≤ 100000) (hd : bs.drop a = ch ++ rest) (hv : vFit ch) (hc : ch.length ≤ 10) (h64 : vVal ch < 2 ^ 64) (hm : vVal ch ≤ most) :
    p_wire_Reader_look N (most : Int) (ints bs) (a : Int) = some ((vVal ch : Int), (ch.length : Int), 0, ints bs, (a : Int)) ∧ p_wire_Reader_Uint N (most : Int) (ints bs) (a : Int) = some ((vVal ch : Int), Err.nil, ints bs, ((a + ch.length : Nat) : Int)) := by
  have h : p_wire_Reader_look N (most : Int) (ints bs) (a : Int) = some ((vVal ch : Int), (ch.length : Int), 0, ints bs, (a : Int)) := by
    have := look_val N (fun x0 => some (0, 0, 3, x0.1, x0.2)) (fun x0 => some x0) bs a most hl ch rest 0 0 N (by simpa using hd) hv (fun h => by omega) (by omega) (by simp) (by simpa using h64) (by simpa using hm) (by omega)
    simp only [Nat.pow_zero, Nat.one_mul, Nat.zero_add] at this
    exact this
  refine ⟨h, ?_⟩
  unfold p_wire_Reader_Uint
  rw [h]
  simp only [pCall_s, decide_true, Bool.not_true, pIf_f]
  have hab : a ≤ bs.length ∨ bs.length < a := by omega
  have hlen := congrArg List.length hd
  simp only [List.length_drop, List.length_append] at hlen
  have : 0 < ch.length := by cases ch with | nil => exact hv.elim | cons c r => simp
  rw [wr_i64 (by omega) (by omega)]
  rfl
end Go.Y
namespace Go.Y
open Go
def venc (n : Nat) : List Nat := if n < 128 then [n] else (n % 128 + 128) :: venc (n / 128)
termination_by n
decreasing_by omega
theorem venc_lt {n : Nat} (h : n < 128) : venc n = [n] := by rw [venc, if_pos h]
theorem venc_ge {n : Nat} (h : ¬ n < 128) : venc n = (n % 128 + 128) :: venc (n / 128) := by rw [venc, if_neg h]
theorem venc_ok (n : Nat) : vFit (venc n) ∧ vVal (venc n) = n := by
  induction n using Nat.strongRecOn with
  | ind n ih =>
    by_cases h : n < 128
    · rw [venc_lt h]
      exact ⟨h, by simp only [vVal]; omega⟩
    · obtain ⟨h1, h2⟩ := ih (n / 128) (by omega)
      rw [venc_ge h]
      cases hc : venc (n / 128) with
      | nil => rw [hc] at h1; exact h1.elim
      | cons d r =>
        rw [hc] at h1 h2
        refine ⟨⟨by omega, by omega, by rw [h2]; omega, h1⟩, ?_⟩
        show (n % 128 + 128) % 128 + 128 * vVal (d :: r) = n
        rw [h2]; omega
theorem venc_len : ∀ (k n : Nat), n < 128 ^ (k + 1) → (venc n).length ≤ k + 1
  | 0, n, h => by rw [venc_lt (by simpa using h)]; simp
  | k + 1, n, h => by
    by_cases hn : n < 128
    · rw [venc_lt hn]; simp
    · rw [venc_ge hn, List.length_cons]
      have := venc_len k (n / 128) (by rw [Nat.pow_succ] at h; omega)
      omega
theorem venc_len2 {n : Nat} (h : n < 16384) : (venc n).length ≤ 2 := venc_len 1 n h
theorem wUint (N : Nat) (hN : 100 < N) (n : Nat) (hn : n < 16384) (w : List Nat) (hw : w.length ≤ 90000) : p_wire_Writer_Uint N (n : Int) (ints w) = some (ints (w ++ venc n)) := by
  obtain ⟨h1, h2⟩ := venc_ok n
  have h3 := venc_len2 hn
  have := enc_eq' N (venc n) w h1 (by omega) (by omega) (by omega)
  rwa [h2] at this
theorem rUint (N : Nat) (hN : 100 < N) (n : Nat) (hn : n < 16384) : avermentref02_Uint N (n : Int) = some (ints (venc n)) := by
  obtain ⟨h1, h2⟩ := venc_ok n
  have h3 := venc_len2 hn
  have := refUint_eq N (by omega) (venc n) h1 (by omega) (by omega)
  rwa [h2] at this
def Rise (n : Nat) : Nat → List Nat → Prop
  | _, [] => True
  | lo, x :: r => lo ≤ x ∧ x < n ∧ Rise n (x + 1) r
theorem Rise.len : ∀ {n lo : Nat} {l : List Nat}, Rise n lo l → lo ≤ n → l.length + lo ≤ n
  | n, lo, [], _, h => by simpa using h
  | n, lo, x :: r, h, _ => by
    have := Rise.len h.2.2 (by have := h.2.1; omega)
    have := h.1
    simp only [List.length_cons]; omega
theorem Rise.drop : ∀ {n lo : Nat} {l : List Nat} (i : Nat), Rise n lo l → ∃ lo', Rise n lo' (l.drop i)
  | n, lo, l, 0, h => ⟨lo, h⟩
  | n, lo, [], i + 1, h => ⟨lo, trivial⟩
  | n, lo, x :: r, i + 1, h => Rise.drop i h.2.2
theorem rise_of : ∀ {n : Nat} {l : List Int} (lo : Nat), Inc l → (∀ y ∈ l, (lo : Int) ≤ y ∧ y < (n : Int)) → ∃ ns : List Nat, l = ints ns ∧ Rise n lo ns
  | n, [], lo, _, _ => ⟨[], rfl, trivial⟩
  | n, x :: l, lo, h, hb => by
    obtain ⟨h1, h2⟩ := List.pairwise_cons.1 h
    obtain ⟨h3, h4⟩ := hb x (by simp)
    obtain ⟨m, rfl⟩ := Int.eq_ofNat_of_zero_le (show 0 ≤ x by omega)
    obtain ⟨ns, rfl, h5⟩ := rise_of (n := n) (l := l) (m + 1) h2 fun y hy => by
      have := h1 y hy
      have := (hb y (List.mem_cons_of_mem _ hy)).2
      omega
    exact ⟨m :: ns, rfl, by omega, by omega, h5⟩
def gapsB : Nat → List Nat → List Nat
  | _, [] => []
  | next, x :: r => venc (x - next) ++ gapsB (x + 1) r
def gapsW (s : List Nat) : List Nat := 1 :: (venc s.length ++ gapsB 0 s)
theorem gapsB_len : ∀ {n next : Nat} {l : List Nat}, n ≤ 4096 → Rise n next l → (gapsB next l).length ≤ 2 * l.length
  | n, next, [], _, _ => by simp [gapsB]
  | n, next, x :: r, hn, h => by
    have h1 := gapsB_len hn h.2.2
    have h2 := venc_len2 (n := x - next) (by have := h.2.1; omega)
    simp only [gapsB, List.length_append, List.length_cons]; omega
theorem gaps_loop (N : Nat) (hN : 100 < N) (n : Nat) (hn : n ≤ 4096) (s : List Nat) (hs : s.length ≤ 4096) (k0 : List Int → Option (List Int)) : ∀ (r : List Nat) (i next fuel : Nat) (w : List Nat), s.drop i = r → Rise n next r → i + r.length = s.length → r.length < fuel → w.length ≤ 20 + 2 * i →
    bits_gaps_l7 N k0 fuel (next : Int) (ints s) (len (ints s)) (i : Int) (ints w) = k0 (ints (w ++ gapsB next r)) := by
  intro r
  induction r with
  | nil =>
    intro i next fuel w hd hr hi hf hw
    obtain ⟨fuel, rfl⟩ : ∃ f, fuel = f + 1 := ⟨fuel - 1, by omega⟩
    simp only [List.length_nil] at hi
    rw [bits_gaps_l7, decide_eq_false (by rw [len_, ints_len]; omega), pIf_f]
    simp [gapsB]
  | cons x r ih =>
    intro i next fuel w hd hr hi hf hw
    obtain ⟨fuel, rfl⟩ : ∃ f, fuel = f + 1 := ⟨fuel - 1, by omega⟩
    simp only [List.length_cons] at hi hf
    obtain ⟨hx, hd2, hil⟩ := hd_of hd
    obtain ⟨h1, h2, h3⟩ := hr
    have h4 := venc_len2 (n := x - next) (by omega)
    rw [bits_gaps_l7, decide_eq_true (by rw [len_, ints_len]; omega), pIf_t, pIdx_nat (ints_get hx), wr_i64 (n := (x : Int) - (next : Int)) (by omega) (by omega), wr_u64 (by omega) (by omega),
      show (x : Int) - (next : Int) = ((x - next : Nat) : Int) by omega, wUint N hN _ (by omega) w (by omega), pCall_s, wr_succ (m := 5000) (by omega) (by omega), wr_succ (m := 5000) (by omega) (by omega),
      ih (i + 1) (x + 1) fuel _ hd2 h3 (by omega) (by omega) (by simp only [List.length_append]; omega), List.append_assoc]
    rfl
theorem bytesB (N : Nat) (cs : List Nat) (hc : cs.length ≤ 100000) : p_wire_Writer_Bytes N (ints cs) = some (ints cs, ints cs) := bytes_eq N cs hc
theorem gaps_eq (N : Nat) (hN : 5000 < N) (n : Nat) (hn : n ≤ 4096) (s : List Nat) (hs : Rise n 0 s) : bits_gaps N (ints s) = some (ints (gapsW s)) := by
  have hl := Rise.len hs (by omega)
  have hg := gapsB_len hn hs
  have hv := venc_len2 (n := s.length) (by omega)
  unfold bits_gaps
  rw [show wire_New N = some (ints []) from rfl, pCall_s, show (1 : Int) = ((1 : Nat) : Int) from rfl, byte_eq N 1 [] (by simp), pCall_s, len_, ints_len, wr_u64 (by omega) (by omega), wUint N (by omega) s.length (by omega) _ (by simp), pCall_s]
  have := gaps_loop N (by omega) n hn s (by omega) (fun x3 => pCall (p_wire_Writer_Bytes N x3) fun x4 => some x4.1) s 0 0 N ([] ++ [1] ++ venc s.length) rfl hs (by simp) (by omega) (by simp; omega)
  rw [len_, ints_len] at this
  have h0 : bits_gaps_l7 N (fun x3 => pCall (p_wire_Writer_Bytes N x3) fun x4 => some x4.1) N 0 (ints s) (s.length : Int) 0 (ints ([] ++ [1] ++ venc s.length)) = _ := this
  rw [h0, bytesB N _ (by simp; omega), pCall_s]
  simp [gapsW]
def nx (s : List Nat) (i : Nat) : Nat := match i with | 0 => 0 | i + 1 => s.getD i 0 + 1
theorem rgaps_loop (N : Nat) (hN : 100 < N) (n : Nat) (hn : n ≤ 4096) (s : List Nat) (hs : s.length ≤ 4096) : ∀ (r : List Nat) (i fuel : Nat) (w : List Nat), s.drop i = r → Rise n (nx s i) r → i + r.length = s.length → r.length < fuel → w.length ≤ 20 + 2 * i →
    avermentref03_Gaps_l4 N (fun x1 => some x1) fuel (ints s) (i : Int) (ints w) = some (ints (w ++ gapsB (nx s i) r)) := by
  intro r
  induction r with
  | nil =>
    intro i fuel w hd hr hi hf hw
    obtain ⟨fuel, rfl⟩ : ∃ f, fuel = f + 1 := ⟨fuel - 1, by omega⟩
    simp only [List.length_nil] at hi
    rw [avermentref03_Gaps_l4, decide_eq_false (by rw [len_, ints_len]; omega), pIf_f]
    simp [gapsB]
  | cons x r ih =>
    intro i fuel w hd hr hi hf hw
    obtain ⟨fuel, rfl⟩ : ∃ f, fuel = f + 1 := ⟨fuel - 1, by omega⟩
    simp only [List.length_cons] at hi hf
    obtain ⟨hx, hd2, hil⟩ := hd_of hd
    obtain ⟨h1, h2, h3⟩ := hr
    have h4 := venc_len2 (n := x - nx s i) (by omega)
    have hnx : nx s (i + 1) = x + 1 := by simp [nx, List.getD_eq_getElem?_getD, hx]
    rw [← hnx] at h3
    have hgo : ∀ y : Int, y = ((x - nx s i : Nat) : Int) → (pCall (avermentref02_Uint N (wr .u64 y)) fun x2 => pCk (room 1 (len (ints w ++ x2))) (avermentref03_Gaps_l4 N (fun x1 => some x1) fuel (ints s) (wr .i64 ((i : Int) + 1)) (ints w ++ x2))) = some (ints (w ++ gapsB (nx s i) (x :: r))) := by
      intro y hy
      subst hy
      rw [wr_u64 (by omega) (by omega), rUint N hN _ (by omega), pCall_s, room_of (by simp [ints_len]; omega) (by simp [ints_len]; omega), pCk_t, wr_succ (m := 5000) (by omega) (by omega), ← ints_app,
        ih (i + 1) fuel _ hd2 h3 (by omega) (by omega) (by simp only [List.length_append]; omega), List.append_assoc, hnx]
      rfl
    rw [avermentref03_Gaps_l4, decide_eq_true (by rw [len_, ints_len]; omega), pIf_t, pIdx_nat (ints_get hx), pJoin_]
    cases i with
    | zero =>
      rw [decide_eq_false (by omega), pIf_f]
      exact hgo _ (by simp [nx])
    | succ i =>
      rw [decide_eq_true (by omega), pIf_t, pIdx_nat (ints_get hx)]
      obtain ⟨y, hy⟩ : ∃ y, s[i]? = some y := ⟨s[i]'(by omega), List.getElem?_eq_getElem _⟩
      have hny : nx s (i + 1) = y + 1 := by simp [nx, List.getD_eq_getElem?_getD, hy]
      rw [hny] at h1
      rw [wr_i64 (n := ((i + 1 : Nat) : Int) - 1) (by omega) (by omega), show ((i + 1 : Nat) : Int) - 1 = (i : Int) by omega, pIdx_nat (ints_get hy), wr_i64 (n := (x : Int) - (y : Int)) (by omega) (by omega), wr_i64 (by omega) (by omega)]
      have hz : (x : Int) - (y : Int) - 1 = ((x - nx s (i + 1) : Nat) : Int) := by rw [hny]; omega
      exact hgo _ hz
theorem rgaps_eq (N : Nat) (hN : 5000 < N) (n : Nat) (hn : n ≤ 4096) (s : List Nat) (hs : Rise n 0 s) : avermentref03_Gaps N (ints s) = some (ints (gapsW s)) := by
  have hl := Rise.len hs (by omega)
  have hv := venc_len2 (n := s.length) (by omega)
  unfold avermentref03_Gaps
  rw [len_, ints_len, wr_u64 (by omega) (by omega), rUint N (by omega) _ (by omega), pCall_s, show [(1 : Int)] = ints [1] from rfl, ← ints_app, room_of (by simp [ints_len]; omega) (by simp [ints_len]; omega), pCk_t]
  have := rgaps_loop N (by omega) n hn s (by omega) s 0 N ([1] ++ venc s.length) rfl hs (by simp) (by omega) (by simp; omega)
  have h0 : avermentref03_Gaps_l4 N (fun x1 => some x1) N (ints s) 0 (ints ([1] ++ venc s.length)) = _ := this
  rw [h0]
  simp [gapsW, nx]
end Go.Y
namespace Go.Y
open Go
def RunsOf : List (Nat × Nat) → List Nat → Prop
  | [], s => s = []
  | [(f, l)], s => 1 ≤ l ∧ s = List.range' f l
  | (f, l) :: (f2, l2) :: q, s => 1 ≤ l ∧ f + l < f2 ∧ ∃ r, s = List.range' f l ++ r ∧ RunsOf ((f2, l2) :: q) r
theorem RunsOf.head : ∀ {f l : Nat} {q : List (Nat × Nat)} {s : List Nat}, RunsOf ((f, l) :: q) s → ∃ r, s = f :: r
  | f, l, [], s, h => by
    obtain ⟨h1, rfl⟩ := h
    obtain ⟨m, rfl⟩ : ∃ m, l = m + 1 := ⟨l - 1, by omega⟩
    exact ⟨_, List.range'_succ ..⟩
  | f, l, (f2, l2) :: q, s, h => by
    obtain ⟨h1, _, r, rfl, _⟩ := h
    obtain ⟨m, rfl⟩ : ∃ m, l = m + 1 := ⟨l - 1, by omega⟩
    exact ⟨_, by rw [List.range'_succ]; rfl⟩
def runsF : List Nat → List (Nat × Nat)
  | [] => []
  | x :: r => match runsF r with
    | [] => [(x, 1)]
    | (f, l) :: q => if f = x + 1 then (x, l + 1) :: q else (x, 1) :: (f, l) :: q
theorem runsF_append_run : ∀ (f l : Nat) (r : List Nat), 1 ≤ l → (∀ y, r.head? = some y → f + l < y) → runsF (List.range' f l ++ r) = (f, l) :: runsF r
  | f, 0, r, h, _ => by omega
  | f, 1, r, _, hr => by
    show (match runsF r with | [] => [(f, 1)] | (f', l) :: q => if f' = f + 1 then (f, l + 1) :: q else (f, 1) :: (f', l) :: q) = _
    cases hq : runsF r with
    | nil => rfl
    | cons p q =>
      obtain ⟨f', l'⟩ := p
      have hf : f' ≠ f + 1 := by
        intro e
        cases r with
        | nil => simp [runsF] at hq
        | cons y r =>
          have hy := hr y rfl
          have : f' = y := by
            simp only [runsF] at hq
            split at hq
            · simp only [List.cons.injEq, Prod.mk.injEq] at hq; exact hq.1.1.symm
            · split at hq <;> (simp only [List.cons.injEq, Prod.mk.injEq] at hq; exact hq.1.1.symm)
          omega
      simp only [if_neg hf]
  | f, l + 2, r, _, hr => by
    have ih := runsF_append_run (f + 1) (l + 1) r (by omega) (fun y hy => by have := hr y hy; omega)
    rw [List.range'_succ, List.cons_append]
    show (match runsF (List.range' (f + 1) (l + 1) ++ r) with | [] => [(f, 1)] | (f', l) :: q => if f' = f + 1 then (f, l + 1) :: q else (f, 1) :: (f', l) :: q) = _
    rw [ih]
    simp only [if_true]
theorem RunsOf.eq : ∀ {rs : List (Nat × Nat)} {s : List Nat}, RunsOf rs s → rs = runsF s
  | [], s, h => by
    have h : s = [] := h
    subst h; rfl
  | [(f, l)], s, h => by
    obtain ⟨h1, rfl⟩ := h
    have := runsF_append_run f l [] h1 (fun y hy => by simp at hy)
    rw [List.append_nil] at this
    rw [this]; rfl
  | (f, l) :: (f2, l2) :: q, s, h => by
    obtain ⟨h1, h2, r, rfl, h3⟩ := h
    obtain ⟨r', hr'⟩ := h3.head
    rw [runsF_append_run f l r h1 (fun y hy => by rw [hr'] at hy; simp only [List.head?_cons, Option.some.injEq] at hy; omega), ← RunsOf.eq h3]
theorem RunsOf.snoc : ∀ {rs : List (Nat × Nat)} {s : List Nat} {f l : Nat} (x : Nat), RunsOf (rs ++ [(f, l)]) s → (x = f + l → RunsOf (rs ++ [(f, l + 1)]) (s ++ [x])) ∧ (f + l < x → RunsOf (rs ++ [(f, l), (x, 1)]) (s ++ [x]))
  | [], s, f, l, x, h => by
    obtain ⟨h1, rfl⟩ := h
    refine ⟨fun e => ⟨by omega, by rw [e, List.range'_concat]; simp⟩, fun e => ⟨h1, e, [x], rfl, by omega, by simp [List.range']⟩⟩
  | [(f0, l0)], s, f, l, x, h => by
    obtain ⟨h1, h2, r, rfl, h3⟩ := h
    obtain ⟨i1, i2⟩ := RunsOf.snoc (rs := []) x h3
    refine ⟨fun e => ⟨h1, h2, r ++ [x], by rw [List.append_assoc], i1 e⟩, fun e => ⟨h1, h2, r ++ [x], by rw [List.append_assoc], i2 e⟩⟩
  | (f0, l0) :: (f1, l1) :: q, s, f, l, x, h => by
    obtain ⟨h1, h2, r, rfl, h3⟩ := h
    obtain ⟨i1, i2⟩ := RunsOf.snoc (rs := (f1, l1) :: q) x h3
    refine ⟨fun e => ⟨h1, h2, r ++ [x], by rw [List.append_assoc], i1 e⟩, fun e => ⟨h1, h2, r ++ [x], by rw [List.append_assoc], i2 e⟩⟩
theorem RunsOf.snocRun : ∀ {rs : List (Nat × Nat)} {s : List Nat} {f l : Nat} (f2 l2 : Nat), RunsOf (rs ++ [(f, l)]) s → f + l < f2 → 1 ≤ l2 → RunsOf (rs ++ [(f, l), (f2, l2)]) (s ++ List.range' f2 l2)
  | [], s, f, l, f2, l2, h, h4, h5 => by
    obtain ⟨h1, rfl⟩ := h
    exact ⟨h1, h4, _, rfl, h5, rfl⟩
  | [(f0, l0)], s, f, l, f2, l2, h, h4, h5 => by
    obtain ⟨h1, h2, r, rfl, h3⟩ := h
    exact ⟨h1, h2, r ++ List.range' f2 l2, by rw [List.append_assoc], RunsOf.snocRun (rs := []) f2 l2 h3 h4 h5⟩
  | (f0, l0) :: (f1, l1) :: q, s, f, l, f2, l2, h, h4, h5 => by
    obtain ⟨h1, h2, r, rfl, h3⟩ := h
    exact ⟨h1, h2, r ++ List.range' f2 l2, by rw [List.append_assoc], RunsOf.snocRun (rs := (f1, l1) :: q) f2 l2 h3 h4 h5⟩
def runsB : Nat → List (Nat × Nat) → List Nat
  | _, [] => []
  | next, (f, l) :: q => venc (f - next) ++ (venc (l - 1) ++ runsB (f + l + 1) q)
def runsW (s : List Nat) : List Nat := 2 :: (venc (runsF s).length ++ runsB 0 (runsF s))
def pints (rs : List (Nat × Nat)) : List (Int × Int) := rs.map fun p => ((p.1 : Int), (p.2 : Int))
end Go.Y
namespace Go.Y
open Go
theorem RunsOf.last : ∀ {q : List (Nat × Nat)} {s : List Nat} {f l : Nat}, RunsOf (q ++ [(f, l)]) s → 1 ≤ l ∧ s.getLast? = some (f + l - 1)
  | [], s, f, l, h => by
    obtain ⟨h1, rfl⟩ := h
    obtain ⟨m, rfl⟩ : ∃ m, l = m + 1 := ⟨l - 1, by omega⟩
    refine ⟨h1, ?_⟩
    rw [List.range'_concat, List.getLast?_append]
    simp
  | [(f0, l0)], s, f, l, h => by
    obtain ⟨h1, h2, r, rfl, h3⟩ := h
    obtain ⟨i1, i2⟩ := RunsOf.last (q := []) h3
    exact ⟨i1, by rw [List.getLast?_append, i2]; rfl⟩
  | (f0, l0) :: (f1, l1) :: q, s, f, l, h => by
    obtain ⟨h1, h2, r, rfl, h3⟩ := h
    obtain ⟨i1, i2⟩ := RunsOf.last (q := (f1, l1) :: q) h3
    exact ⟨i1, by rw [List.getLast?_append, i2]; rfl⟩
theorem Rise.next {n : Nat} : ∀ {s : List Nat} {lo i x y : Nat}, Rise n lo s → s[i]? = some x → s[i + 1]? = some y → x < y
  | [], lo, i, x, y, _, h, _ => by simp at h
  | a :: r, lo, 0, x, y, h, hx, hy => by
    simp only [List.getElem?_cons_zero, Option.some.injEq] at hx
    subst hx
    cases r with
    | nil => simp at hy
    | cons b r =>
      simp only [List.getElem?_cons_succ, List.getElem?_cons_zero, Option.some.injEq] at hy
      subst hy
      have := h.2.2.1
      omega
  | a :: r, lo, i + 1, x, y, h, hx, hy => Rise.next h.2.2 (by simpa using hx) (by simpa using hy)
theorem Rise.lt {n : Nat} : ∀ {s : List Nat} {lo i x : Nat}, Rise n lo s → s[i]? = some x → lo ≤ x ∧ x < n
  | [], lo, i, x, _, h => by simp at h
  | a :: r, lo, 0, x, h, hx => by
    simp only [List.getElem?_cons_zero, Option.some.injEq] at hx
    subst hx
    exact ⟨h.1, h.2.1⟩
  | a :: r, lo, i + 1, x, h, hx => by
    have := Rise.lt h.2.2 (by simpa using hx)
    have := h.1
    omega
theorem take_last {s : List Nat} {i x : Nat} (hi : s[i]? = some x) : (s.take (i + 1)).getLast? = some x := by
  have := getLt' hi
  rw [List.take_add_one, hi, List.getLast?_append]
  rfl
where getLt' {s : List Nat} {i x : Nat} (h : s[i]? = some x) : i < s.length := (List.getElem?_eq_some_iff.1 h).1
theorem pints_len (rs : List (Nat × Nat)) : (pints rs).length = rs.length := by simp [pints]
theorem pints_app (a b : List (Nat × Nat)) : pints (a ++ b) = pints a ++ pints b := by simp [pints]
theorem pints_get {rs : List (Nat × Nat)} {i : Nat} {p : Nat × Nat} (h : rs[i]? = some p) : (pints rs)[i]? = some ((p.1 : Int), (p.2 : Int)) := by simp [pints, h]
theorem snoc_cases {α : Type} (l : List α) : l = [] ∨ ∃ q x, l = q ++ [x] := by
  rcases List.eq_nil_or_concat l with h | ⟨q, x, h⟩
  · exact .inl h
  · exact .inr ⟨q, x, by simpa using h⟩
theorem split_loop (N : Nat) (n : Nat) (hn : n ≤ 4096) (s : List Nat) (hs : Rise n 0 s) : ∀ (m i fuel : Nat) (rs : List (Nat × Nat)), i + m = s.length → m < fuel → RunsOf rs (s.take i) → rs.length ≤ i →
    bits_split_l4 N (fun x0 => some x0) fuel (ints s) (len (ints s)) (i : Int) (pints rs) = some (pints (runsF s)) := by
  have hl := Rise.len hs (by omega)
  intro m
  induction m with
  | zero =>
    intro i fuel rs h hf hr hrl
    obtain ⟨fuel, rfl⟩ : ∃ f, fuel = f + 1 := ⟨fuel - 1, by omega⟩
    rw [List.take_of_length_le (by omega)] at hr
    rw [bits_split_l4, decide_eq_false (by rw [len_, ints_len]; omega), pIf_f, hr.eq]
  | succ m ih =>
    intro i fuel rs h hf hr hrl
    obtain ⟨fuel, rfl⟩ : ∃ f, fuel = f + 1 := ⟨fuel - 1, by omega⟩
    have hi : i < s.length := by omega
    have hx : s[i]? = some s[i] := List.getElem?_eq_getElem hi
    generalize s[i] = x at hx
    have hxn := hs.lt hx
    have htk : s.take (i + 1) = s.take i ++ [x] := by rw [List.take_add_one, hx]; rfl
    rw [bits_split_l4, decide_eq_true (by rw [len_, ints_len]; omega), pIf_t, pJoin_, pIdx_nat (ints_get hx)]
    simp only [len_, pints_len]
    rcases snoc_cases rs with rfl | ⟨q, ⟨f, l⟩, rfl⟩
    · have hi0 : i = 0 := by
        have h0 : s.take i = [] := hr
        have := congrArg List.length h0
        rw [List.length_take, List.length_nil] at this
        omega
      subst hi0
      rw [show wr .i64 (((([] : List (Nat × Nat)).length : Nat) : Int) - 1) = -1 from rfl, show decide ((0 : Int) ≤ -1) = false from rfl]
      simp only [Bool.not_false, Bool.true_or, pCk_t, pIdxG_f, pLet_, pick_f, pIf_f]
      rw [room_of (by simp [pints]) (by simp [pints]), pCk_t, wr_succ (m := 5000) (by omega) (by omega)]
      refine ih 1 fuel [(x, 1)] (by omega) (by omega) ?_ (by simp)
      rw [htk]
      exact ⟨by omega, by simp [List.range']⟩
    · have hql : (q ++ [(f, l)]).length = q.length + 1 := by simp
      rw [hql] at hrl
      obtain ⟨l1, hlast⟩ := hr.last
      obtain ⟨j, rfl⟩ : ∃ j, i = j + 1 := ⟨i - 1, by omega⟩
      have hy : s[j]? = some s[j] := List.getElem?_eq_getElem (by omega)
      have hyx := hs.next hy hx
      rw [take_last hy, Option.some.injEq] at hlast
      rw [hlast] at hyx
      have hg : (q ++ [(f, l)])[q.length]? = some (f, l) := by simp
      have hk : wr .i64 ((((q ++ [(f, l)]).length : Nat) : Int) - 1) = (q.length : Int) := by rw [hql, wr_i64 (by omega) (by omega)]; omega
      rw [hk, show decide ((0 : Int) ≤ (q.length : Int)) = true by exact decide_eq_true (by omega), hql, show decide ((q.length : Int) < ((q.length + 1 : Nat) : Int)) = true by exact decide_eq_true (by omega)]
      simp only [Bool.and_true, Bool.or_true, pCk_t, pIdxG_t, pLet_, pick_t]
      rw [pIdx_nat (pints_get hg), pIdx_nat (pints_get hg), wr_i64 (n := (f : Int) + (l : Int)) (by omega) (by omega)]
      by_cases he : x = f + l
      · rw [show decide ((f : Int) + (l : Int) = (x : Int)) = true by exact decide_eq_true (by omega), pIf_t, pIdx_nat (pints_get hg), pIdx_nat (pints_get hg), wr_i64 (n := (l : Int) + 1) (by omega) (by omega), wr_succ (m := 5000) (by omega) (by omega)]
        have hset : setI (pints (q ++ [(f, l)])) (q.length : Int) ((f : Int), (l : Int) + 1) = pints (q ++ [(f, l + 1)]) := by
          unfold setI
          rw [Int.toNat_natCast, pints_app, pints_app, List.set_append_right _ _ (by rw [pints_len]; exact Nat.le_refl _), pints_len, Nat.sub_self]
          simp [pints]
        rw [hset]
        exact ih (j + 1 + 1) fuel _ (by omega) (by omega) (by rw [htk]; exact (hr.snoc x).1 he) (by simp; omega)
      · rw [show decide ((f : Int) + (l : Int) = (x : Int)) = false by exact decide_eq_false (by omega), pIf_f, room_of (by simp [pints]; omega) (by simp [pints]; omega), pCk_t, wr_succ (m := 5000) (by omega) (by omega)]
        have hap : pints (q ++ [(f, l)]) ++ [((x : Int), 1)] = pints (q ++ [(f, l), (x, 1)]) := by simp [pints]
        rw [hap]
        exact ih (j + 1 + 1) fuel _ (by omega) (by omega) (by rw [htk]; exact (hr.snoc x).2 (by omega)) (by simp; omega)
theorem split_eq (N : Nat) (hN : 5000 < N) (n : Nat) (hn : n ≤ 4096) (s : List Nat) (hs : Rise n 0 s) : bits_split N (ints s) = some (pints (runsF s)) := by
  have hl := Rise.len hs (by omega)
  unfold bits_split
  exact split_loop N n hn s hs s.length 0 N [] (by omega) (by omega) rfl (by simp)
def RR (n : Nat) : Nat → List (Nat × Nat) → Prop
  | _, [] => True
  | next, (f, l) :: q => next ≤ f ∧ 1 ≤ l ∧ f + l ≤ n ∧ RR n (f + l + 1) q
theorem runsF_rr : ∀ {n lo : Nat} {s : List Nat}, Rise n lo s → RR n lo (runsF s) ∧ (runsF s).length ≤ s.length
  | n, lo, [], _ => ⟨trivial, Nat.le_refl _⟩
  | n, lo, x :: r, h => by
    obtain ⟨ih, ihl⟩ := runsF_rr h.2.2
    show RR n lo (match runsF r with | [] => [(x, 1)] | (f, l) :: q => if f = x + 1 then (x, l + 1) :: q else (x, 1) :: (f, l) :: q) ∧ (match runsF r with | [] => [(x, 1)] | (f, l) :: q => if f = x + 1 then (x, l + 1) :: q else (x, 1) :: (f, l) :: q).length ≤ _
    cases hq : runsF r with
    | nil => exact ⟨⟨h.1, by omega, by have := h.2.1; omega, trivial⟩, by simp⟩
    | cons p q =>
      obtain ⟨f, l⟩ := p
      rw [hq] at ih ihl
      obtain ⟨i1, i2, i3, i4⟩ := ih
      simp only [List.length_cons] at ihl
      by_cases he : f = x + 1
      · simp only [if_pos he]
        refine ⟨⟨h.1, by omega, by omega, ?_⟩, by simp only [List.length_cons]; omega⟩
        rw [show x + (l + 1) + 1 = f + l + 1 by omega]; exact i4
      · simp only [if_neg he]
        exact ⟨⟨h.1, by omega, by have := h.2.1; omega, by omega, i2, i3, i4⟩, by simp only [List.length_cons]; omega⟩
theorem runsB_len : ∀ {n next : Nat} {q : List (Nat × Nat)}, n ≤ 4096 → RR n next q → (runsB next q).length ≤ 4 * q.length
  | n, next, [], _, _ => by simp [runsB]
  | n, next, (f, l) :: q, hn, h => by
    have h1 := runsB_len hn h.2.2.2
    have h2 := venc_len2 (n := f - next) (by have := h.2.2.1; omega)
    have h3 := venc_len2 (n := l - 1) (by have := h.2.2.1; omega)
    simp only [runsB, List.length_append, List.length_cons]; omega
theorem runs_loop (N : Nat) (hN : 100 < N) (n : Nat) (hn : n ≤ 4096) (rs : List (Nat × Nat)) (hrs : rs.length ≤ 4096) (k0 : List Int → Option (List Int)) : ∀ (q : List (Nat × Nat)) (i next fuel : Nat) (w : List Nat), rs.drop i = q → RR n next q → i + q.length = rs.length → q.length < fuel → w.length ≤ 20 + 4 * i →
    bits_runs_l8 N k0 fuel (next : Int) (pints rs) (len (pints rs)) (i : Int) (ints w) = k0 (ints (w ++ runsB next q)) := by
  intro q
  induction q with
  | nil =>
    intro i next fuel w hd hr hi hf hw
    obtain ⟨fuel, rfl⟩ : ∃ f, fuel = f + 1 := ⟨fuel - 1, by omega⟩
    simp only [List.length_nil] at hi
    rw [bits_runs_l8, decide_eq_false (by rw [len_, pints_len]; omega), pIf_f]
    simp [runsB]
  | cons p q ih =>
    obtain ⟨f, l⟩ := p
    intro i next fuel w hd hr hi hf hw
    obtain ⟨fuel, rfl⟩ : ∃ f, fuel = f + 1 := ⟨fuel - 1, by omega⟩
    simp only [List.length_cons] at hi hf
    have hil : i < rs.length := by omega
    have hp : rs[i]? = some (f, l) := by
      have := congrArg List.head? hd
      rw [List.head?_drop] at this
      exact this
    have hd2 : rs.drop (i + 1) = q := by rw [← List.tail_drop, hd]; rfl
    obtain ⟨h1, h2, h3, h4⟩ := hr
    have v1 := venc_len2 (n := f - next) (by omega)
    have v2 := venc_len2 (n := l - 1) (by omega)
    rw [bits_runs_l8, decide_eq_true (by rw [len_, pints_len]; omega), pIf_t, pIdx_nat (pints_get hp)]
    simp only
    rw [wr_i64 (n := (f : Int) - (next : Int)) (by omega) (by omega), wr_u64 (n := (f : Int) - (next : Int)) (by omega) (by omega), show (f : Int) - (next : Int) = ((f - next : Nat) : Int) by omega, wUint N hN _ (by omega) w (by omega), pCall_s,
      wr_i64 (n := (l : Int) - 1) (by omega) (by omega), wr_u64 (n := (l : Int) - 1) (by omega) (by omega), show (l : Int) - 1 = ((l - 1 : Nat) : Int) by omega, wUint N hN _ (by omega) _ (by simp only [List.length_append]; omega), pCall_s,
      wr_i64 (n := (f : Int) + (l : Int)) (by omega) (by omega), wr_i64 (n := (f : Int) + (l : Int) + 1) (by omega) (by omega), show (f : Int) + (l : Int) + 1 = ((f + l + 1 : Nat) : Int) by omega, wr_succ (m := 5000) (by omega) (by omega),
      ih (i + 1) (f + l + 1) fuel _ hd2 h4 (by omega) (by omega) (by simp only [List.length_append]; omega), List.append_assoc, List.append_assoc]
    rfl
theorem runs_eq (N : Nat) (hN : 5000 < N) (n : Nat) (hn : n ≤ 4096) (s : List Nat) (hs : Rise n 0 s) : bits_runs N (ints s) = some (ints (runsW s)) := by
  have hl := Rise.len hs (by omega)
  obtain ⟨hrr, hrl⟩ := runsF_rr hs
  have hb := runsB_len hn hrr
  have hv := venc_len2 (n := (runsF s).length) (by omega)
  unfold bits_runs
  rw [split_eq N hN n hn s hs, pCall_s, show wire_New N = some (ints []) from rfl, pCall_s, show (2 : Int) = ((2 : Nat) : Int) from rfl, byte_eq N 2 [] (by simp), pCall_s, len_, pints_len, wr_u64 (by omega) (by omega), wUint N (by omega) _ (by omega) _ (by simp), pCall_s]
  have := runs_loop N (by omega) n hn (runsF s) (by omega) (fun x4 => pCall (p_wire_Writer_Bytes N x4) fun x5 => some x5.1) (runsF s) 0 0 N ([] ++ [2] ++ venc (runsF s).length) rfl hrr (by simp) (by omega) (by simp; omega)
  rw [len_, pints_len] at this
  have h0 : bits_runs_l8 N (fun x4 => pCall (p_wire_Writer_Bytes N x4) fun x5 => some x5.1) N 0 (pints (runsF s)) ((runsF s).length : Int) 0 (ints ([] ++ [2] ++ venc (runsF s).length)) = _ := this
  rw [h0, bytesB N _ (by simp; omega), pCall_s]
  simp [runsW]
end Go.Y
namespace Go.Y
open Go
def nxt : Nat → List (Nat × Nat) → Nat
  | next, [] => next
  | _, (f, l) :: q => nxt (f + l + 1) q
theorem nxt_snoc : ∀ (next : Nat) (q : List (Nat × Nat)) (f l : Nat), nxt next (q ++ [(f, l)]) = f + l + 1
  | next, [], f, l => rfl
  | next, (f0, l0) :: q, f, l => nxt_snoc (f0 + l0 + 1) q f l
theorem runsB_snoc : ∀ (next : Nat) (q : List (Nat × Nat)) (f l : Nat), runsB next (q ++ [(f, l)]) = runsB next q ++ (venc (f - nxt next q) ++ venc (l - 1))
  | next, [], f, l => by simp [runsB, nxt]
  | next, (f0, l0) :: q, f, l => by
    simp only [List.cons_append, runsB, nxt, runsB_snoc (f0 + l0 + 1) q f l, List.append_assoc]
theorem rruns_in (N : Nat) (s : List Nat) (hl : s.length ≤ 4096) (hv : ∀ (j x : Nat), s[j]? = some x → x < 4096) (k0 : (List Int) × Int × Int × Int × Int × List Int → Option (List Int)) (runs end_ : Int) (l3 : List Int) (i f : Nat) : ∀ (m k fuel : Nat), k + m = s.length → m < fuel → i < k →
    (∀ j, i ≤ j → j < k → s[j]? = some (f + (j - i))) →
    ∃ k', k ≤ k' ∧ k' ≤ s.length ∧ (∀ j, i ≤ j → j < k' → s[j]? = some (f + (j - i))) ∧ s[k']? ≠ some (f + (k' - i)) ∧ avermentref03_Runs_l7 N k0 fuel (ints s) runs end_ (i : Int) (k : Int) l3 = k0 (ints s, runs, end_, (i : Int), (k' : Int), l3) := by
  intro m
  induction m with
  | zero =>
    intro k fuel h hf hik hall
    obtain ⟨fuel, rfl⟩ : ∃ f, fuel = f + 1 := ⟨fuel - 1, by omega⟩
    refine ⟨k, Nat.le_refl _, by omega, hall, by rw [List.getElem?_eq_none (by omega)]; simp, ?_⟩
    rw [avermentref03_Runs_l7, show decide ((k : Int) < len (ints s)) = false by rw [len_, ints_len]; exact decide_eq_false (by omega), pIdxG_f, pIdxG_f, pLet_, pick_f, pIf_f]
  | succ m ih =>
    intro k fuel h hf hik hall
    obtain ⟨fuel, rfl⟩ : ∃ f, fuel = f + 1 := ⟨fuel - 1, by omega⟩
    have hk : k < s.length := by omega
    obtain ⟨x, hx⟩ : ∃ x, s[k]? = some x := ⟨s[k], List.getElem?_eq_getElem hk⟩
    have hp := hall (k - 1) (by omega) (by omega)
    have hxv := hv _ _ hx
    have hpv := hv _ _ hp
    rw [avermentref03_Runs_l7, show decide ((k : Int) < len (ints s)) = true by rw [len_, ints_len]; exact decide_eq_true (by omega), pIdxG_t, pIdx_nat (ints_get hx), pIdxG_t, wr_i64 (n := (k : Int) - 1) (by omega) (by omega), show (k : Int) - 1 = ((k - 1 : Nat) : Int) by omega, pIdx_nat (ints_get hp), pLet_, pick_t,
      wr_i64 (n := ((f + (k - 1 - i) : Nat) : Int) + 1) (by omega) (by omega)]
    by_cases he : x = f + (k - i)
    · rw [decide_eq_true (show (x : Int) = ((f + (k - 1 - i) : Nat) : Int) + 1 by omega), pIf_t, wr_succ (m := 5000) (by omega) (by omega)]
      obtain ⟨k', h1, h2, h3, h4, h5⟩ := ih (k + 1) fuel (by omega) (by omega) (by omega) fun j h1 h2 => by
        by_cases hj : j < k
        · exact hall j h1 hj
        · obtain rfl : j = k := by omega
          rw [hx, he]
      exact ⟨k', by omega, h2, h3, h4, h5⟩
    · rw [decide_eq_false (show ¬ (x : Int) = ((f + (k - 1 - i) : Nat) : Int) + 1 by omega), pIf_f]
      exact ⟨k, Nat.le_refl _, by omega, hall, by rw [hx]; simp; omega, rfl⟩
theorem take_run_eq {s : List Nat} {i k f : Nat} (hik : i ≤ k) (hk : k ≤ s.length) (h : ∀ j, i ≤ j → j < k → s[j]? = some (f + (j - i))) : s.take k = s.take i ++ List.range' f (k - i) := by
  refine List.ext_getElem? fun j => ?_
  rw [List.getElem?_append, List.length_take, show min i s.length = i by omega]
  by_cases hj : j < k
  · rw [List.getElem?_take, if_pos hj]
    by_cases hji : j < i
    · rw [if_pos hji, List.getElem?_take, if_pos hji]
    · rw [if_neg hji, h j (by omega) hj, List.getElem?_range' (by omega)]
      simp
  · rw [List.getElem?_take, if_neg hj, if_neg (by omega), List.getElem?_eq_none (by simp; omega)]
theorem rruns_loop (N : Nat) (hN : 5000 < N) (n : Nat) (hn : n ≤ 4096) (s : List Nat) (hs : Rise n 0 s) (kk : Int × List Int → Option (List Int)) : ∀ (m i fuel : Nat) (rs : List (Nat × Nat)) (e : Int), s.length - i ≤ m → i ≤ s.length → m < fuel → RunsOf rs (s.take i) → rs.length ≤ i → (rs ≠ [] → e + 2 = (nxt 0 rs : Int)) →
    (∀ x, s[i]? = some x → nxt 0 rs ≤ x) → (runsB 0 rs).length ≤ 4 * rs.length →
    avermentref03_Runs_l5 N kk fuel (ints s) (rs.length : Int) e (i : Int) (ints (runsB 0 rs)) = kk (((runsF s).length : Int), ints (runsB 0 (runsF s))) := by
  have hl := Rise.len hs (by omega)
  intro m
  induction m with
  | zero =>
    intro i fuel rs e h hi hf hr hrl he hx hb
    obtain ⟨fuel, rfl⟩ : ∃ f, fuel = f + 1 := ⟨fuel - 1, by omega⟩
    rw [List.take_of_length_le (by omega)] at hr
    rw [avermentref03_Runs_l5, decide_eq_false (by rw [len_, ints_len]; omega), pIf_f, ← hr.eq]
  | succ m ih =>
    intro i fuel rs e h hi hf hr hrl he hx hb
    obtain ⟨fuel, rfl⟩ : ∃ f, fuel = f + 1 := ⟨fuel - 1, by omega⟩
    by_cases hil : i < s.length
    case neg =>
      rw [List.take_of_length_le (by omega)] at hr
      rw [avermentref03_Runs_l5, decide_eq_false (by rw [len_, ints_len]; omega), pIf_f, ← hr.eq]
    obtain ⟨x, hsx⟩ : ∃ x, s[i]? = some x := ⟨s[i], List.getElem?_eq_getElem hil⟩
    have hxn := hs.lt hsx
    have hxx := hx x hsx
    rw [avermentref03_Runs_l5, decide_eq_true (by rw [len_, ints_len]; omega), pIf_t, wr_succ (m := 5000) (by omega) (by omega)]
    obtain ⟨k, g1, g2, g3, g4, g5⟩ := rruns_in N s (by omega) (fun j x h => by have := hs.lt h; omega) (fun x0 => pIdx x0.1 x0.2.2.2.1 fun x1 =>
          pJoin (fun (x2 : (List Int) × Int × Int × Int × Int × List Int) =>
            pCall (avermentref02_Uint N (wr .u64 x2.2.2.2.2.1)) fun x3 =>
            pCk (room 1 (len (x2.2.2.2.2.2 ++ x3))) <|
            pCall (avermentref02_Uint N (wr .u64 (wr .i64 ((wr .i64 (x2.2.2.2.1 - x2.2.2.1)) - 1)))) fun x4 =>
            pCk (room 1 (len ((x2.2.2.2.2.2 ++ x3) ++ x4))) <|
            pIdx x2.1 (wr .i64 (x2.2.2.2.1 - 1)) fun x5 =>
            avermentref03_Runs_l5 N kk fuel x2.1 (wr .i64 (x2.2.1 + 1)) x5 x2.2.2.2.1 ((x2.2.2.2.2.2 ++ x3) ++ x4)) fun J2 =>
          pIf (decide (0 < x0.2.1))
            (pIdx x0.1 x0.2.2.2.1 fun x3 =>
            J2 (x0.1, x0.2.1, x0.2.2.2.1, x0.2.2.2.2.1, (wr .i64 ((wr .i64 (x3 - x0.2.2.1)) - 2)), x0.2.2.2.2.2))
            (J2 (x0.1, x0.2.1, x0.2.2.2.1, x0.2.2.2.2.1, x1, x0.2.2.2.2.2))) (rs.length : Int) e (ints (runsB 0 rs)) i x (s.length - (i + 1)) (i + 1) N (by omega) (by omega) (by omega) (fun j h1 h2 => by
        obtain rfl : j = i := by omega
        rw [hsx]; simp)
    rw [g5, pIdx_nat (ints_get hsx), pJoin_]
    clear g5
    have v1 := venc_len2 (n := x - nxt 0 rs) (by omega)
    have v2 := venc_len2 (n := k - i - 1) (by omega)
    have hlast := g3 (k - 1) (by omega) (by omega)
    have hln := hs.lt hlast
    have htk := take_run_eq (by omega) g2 g3
    have hgo : ∀ y : Int, y = ((x - nxt 0 rs : Nat) : Int) → (pCall (avermentref02_Uint N (wr .u64 y)) fun x3 =>
            pCk (room 1 (len (ints (runsB 0 rs) ++ x3))) <|
            pCall (avermentref02_Uint N (wr .u64 (wr .i64 ((wr .i64 ((k : Int) - (i : Int))) - 1)))) fun x4 =>
            pCk (room 1 (len ((ints (runsB 0 rs) ++ x3) ++ x4))) <|
            pIdx (ints s) (wr .i64 ((k : Int) - 1)) fun x5 =>
            avermentref03_Runs_l5 N kk fuel (ints s) (wr .i64 ((rs.length : Int) + 1)) x5 (k : Int) ((ints (runsB 0 rs) ++ x3) ++ x4)) = kk (((runsF s).length : Int), ints (runsB 0 (runsF s))) := by
      intro y hy
      subst hy
      rw [wr_u64 (by omega) (by omega), rUint N (by omega) _ (by omega), pCall_s, room_of (by simp [ints_len]; omega) (by simp [ints_len]; omega), pCk_t, wr_i64 (n := (k : Int) - (i : Int)) (by omega) (by omega), wr_i64 (n := (k : Int) - (i : Int) - 1) (by omega) (by omega), wr_u64 (n := (k : Int) - (i : Int) - 1) (by omega) (by omega),
        show (k : Int) - (i : Int) - 1 = ((k - i - 1 : Nat) : Int) by omega, rUint N (by omega) _ (by omega), pCall_s, room_of (by simp [ints_len]; omega) (by simp [ints_len]; omega), pCk_t, wr_i64 (n := (k : Int) - 1) (by omega) (by omega), show (k : Int) - 1 = ((k - 1 : Nat) : Int) by omega, pIdx_nat (ints_get hlast),
        wr_i64 (n := (rs.length : Int) + 1) (by omega) (by omega), ← ints_app, ← ints_app]
      have hbn : runsB 0 rs ++ venc (x - nxt 0 rs) ++ venc (k - i - 1) = runsB 0 (rs ++ [(x, k - i)]) := by rw [runsB_snoc, List.append_assoc]
      rw [hbn, show (rs.length : Int) + 1 = ((rs ++ [(x, k - i)]).length : Int) by simp]
      refine ih k fuel (rs ++ [(x, k - i)]) _ (by omega) g2 (by omega) ?_ (by simp; omega) (fun _ => by rw [nxt_snoc]; omega) (fun z hz => ?_) (by rw [← hbn]; simp only [List.length_append, List.length_cons, List.length_nil]; omega)
      · rw [htk]
        rcases snoc_cases rs with rfl | ⟨q, ⟨f, l⟩, rfl⟩
        · have h0 : s.take i = [] := hr
          rw [h0]
          exact ⟨by omega, rfl⟩
        · rw [nxt_snoc] at hxx
          rw [List.append_assoc]
          exact hr.snocRun x (k - i) (by omega) (by omega)
      · rw [nxt_snoc]
        have h1 := hs.next hlast (by rw [show k - 1 + 1 = k by omega]; exact hz)
        have : z ≠ x + (k - i) := fun h => g4 (by rw [hz, h])
        omega
    rcases snoc_cases rs with rfl | ⟨q, ⟨f, l⟩, rfl⟩
    · simp only
      rw [show decide ((0 : Int) < ((([] : List (Nat × Nat)).length : Nat) : Int)) = false from rfl, pIf_f]
      exact hgo _ (by simp [nxt])
    · simp only
      rw [show decide ((0 : Int) < (((q ++ [(f, l)]).length : Nat) : Int)) = true by exact decide_eq_true (by simp), pIf_t, pIdx_nat (ints_get hsx)]
      have he2 := he (by simp)
      rw [wr_i64 (n := (x : Int) - e) (by omega) (by omega), wr_i64 (by omega) (by omega)]
      have hz : (x : Int) - e - 2 = ((x - nxt 0 (q ++ [(f, l)]) : Nat) : Int) := by omega
      exact hgo _ hz
theorem rruns_eq (N : Nat) (hN : 5000 < N) (n : Nat) (hn : n ≤ 4096) (s : List Nat) (hs : Rise n 0 s) : avermentref03_Runs N (ints s) = some (ints (runsW s)) := by
  have hl := Rise.len hs (by omega)
  obtain ⟨hrr, hrl⟩ := runsF_rr hs
  have hb := runsB_len hn hrr
  have hv := venc_len2 (n := (runsF s).length) (by omega)
  unfold avermentref03_Runs
  have := rruns_loop N hN n hn s hs (fun x0 => pCall (avermentref02_Uint N (wr .u64 x0.1)) fun x1 =>
      pCk (room 1 (len ([2] ++ x1))) <|
      pCk (room 1 (len (([2] ++ x1) ++ x0.2))) <|
      some (([2] ++ x1) ++ x0.2)) s.length 0 N [] 0 (by omega) (by omega) (by omega) rfl (by simp) (fun h => absurd rfl h) (fun x _ => by simp [nxt]) (by simp [runsB])
  have h0 : avermentref03_Runs_l5 N (fun x0 => pCall (avermentref02_Uint N (wr .u64 x0.1)) fun x1 =>
      pCk (room 1 (len ([2] ++ x1))) <|
      pCk (room 1 (len (([2] ++ x1) ++ x0.2))) <|
      some (([2] ++ x1) ++ x0.2)) N (ints s) 0 0 0 [] = _ := this
  rw [h0]
  simp only
  rw [wr_u64 (by omega) (by omega), rUint N (by omega) _ (by omega), pCall_s, show [(2 : Int)] = ints [2] from rfl, ← ints_app, ← ints_app, room_of (by simp [ints_len]; omega) (by simp [ints_len]; omega), pCk_t, room_of (by simp [ints_len]; omega) (by simp [ints_len]; omega), pCk_t]
  simp [runsW]
end Go.Y
namespace Go.Y
open Go
def plS (b : List Nat) (x : Nat) : List Nat := b.set (1 + x / 8) (b.getD (1 + x / 8) 0 ||| 2 ^ (x % 8))
def plF (b : List Nat) (s : List Nat) : List Nat := s.foldl plS b
def plainW (n : Nat) (s : List Nat) : List Nat := plF (List.replicate (1 + (n + 7) / 8) 0) s
theorem plS_len (b : List Nat) (x : Nat) : (plS b x).length = b.length := by simp [plS]
theorem plF_len (s : List Nat) : ∀ b : List Nat, (plF b s).length = b.length := by
  induction s with
  | nil => intro b; rfl
  | cons x r ih => intro b; exact (ih (plS b x)).trans (plS_len b x)
theorem pow8 {k : Nat} (h : k < 8) : 2 ^ k < 256 := Nat.pow_lt_pow_right (m := k) (n := 8) (by omega) h
theorem plS_byte {b : List Nat} (h : ∀ c ∈ b, c < 256) (x : Nat) : ∀ c ∈ plS b x, c < 256 := by
  intro c hc
  unfold plS at hc
  rcases List.mem_or_eq_of_mem_set hc with h1 | h1
  · exact h c h1
  · subst h1
    refine Nat.or_lt_two_pow (n := 8) ?_ (pow8 (Nat.mod_lt _ (by omega)))
    rw [List.getD_eq_getElem?_getD]
    cases hg : b[1 + x / 8]? with
    | none => simp
    | some c => simp only [Option.getD_some]; exact h c (List.mem_of_getElem? hg)
theorem plF_byte (s : List Nat) : ∀ b : List Nat, (∀ c ∈ b, c < 256) → ∀ c ∈ plF b s, c < 256 := by
  induction s with
  | nil => intro b h; exact h
  | cons x r ih => intro b h; exact ih (plS b x) (plS_byte h x)
theorem shl_u8 {k : Nat} (h : k < 8) : shlI .u8 1 (k : Int) = ((2 ^ k : Nat) : Int) := by
  have : ∀ k : Fin 8, shlI .u8 1 (k.val : Int) = ((2 ^ k.val : Nat) : Int) := by decide +kernel
  exact this ⟨k, h⟩
theorem quo8 {x : Nat} (h : x ≤ 100000) : quoI .i64 (x : Int) 8 = ((x / 8 : Nat) : Int) := by
  show wr .i64 (Int.tdiv (x : Int) 8) = _
  rw [Int.tdiv_eq_ediv_of_nonneg (by omega), wr_i64 (by omega) (by omega)]
  omega
theorem rem8 (x : Nat) : remI (x : Int) 8 = ((x % 8 : Nat) : Int) := by
  unfold remI
  rw [Int.tmod_eq_emod_of_nonneg (by omega)]
  omega
theorem pl_set {b : List Nat} {x c : Nat} (hb : ∀ c ∈ b, c < 256) (hc : b[1 + x / 8]? = some c) : setI (ints b) ((1 + x / 8 : Nat) : Int) (bor .u8 (c : Int) (shlI .u8 1 ((x % 8 : Nat) : Int))) = ints (plS b x) := by
  have hm : x % 8 < 8 := Nat.mod_lt _ (by omega)
  rw [shl_u8 hm, bor_u8 (hb c (List.mem_of_getElem? hc)) (pow8 hm)]
  unfold setI plS ints
  rw [Int.toNat_natCast, List.getD_eq_getElem?_getD, hc, Option.getD_some, List.map_set]
theorem plain_loop (N : Nat) (n : Nat) (hn : n ≤ 4096) (s : List Nat) (hs : s.length ≤ 4096) : ∀ (r : List Nat) (i fuel : Nat) (b : List Nat), s.drop i = r → (∀ x ∈ r, x < n) → i + r.length = s.length → r.length < fuel → b.length = 1 + (n + 7) / 8 → (∀ c ∈ b, c < 256) →
    bits_plain_l4 N (fun x0 => some x0) fuel (ints s) (len (ints s)) (i : Int) (ints b) = some (ints (plF b r)) := by
  intro r
  induction r with
  | nil =>
    intro i fuel b hd hr hi hf hbl hb
    obtain ⟨fuel, rfl⟩ : ∃ f, fuel = f + 1 := ⟨fuel - 1, by omega⟩
    simp only [List.length_nil] at hi
    rw [bits_plain_l4, decide_eq_false (by rw [len_, ints_len]; omega), pIf_f]
    rfl
  | cons x r ih =>
    intro i fuel b hd hr hi hf hbl hb
    obtain ⟨fuel, rfl⟩ : ∃ f, fuel = f + 1 := ⟨fuel - 1, by omega⟩
    simp only [List.length_cons] at hi hf
    obtain ⟨hx, hd2, hil⟩ := hd_of hd
    have hxn := hr x (by simp)
    have hj : 1 + x / 8 < b.length := by omega
    obtain ⟨c, hc⟩ : ∃ c, b[1 + x / 8]? = some c := ⟨_, List.getElem?_eq_getElem hj⟩
    have e1 : wr .i64 (1 + quoI .i64 (x : Int) 8) = ((1 + x / 8 : Nat) : Int) := by rw [quo8 (by omega), wr_i64 (by omega) (by omega)]; omega
    rw [bits_plain_l4, decide_eq_true (by rw [len_, ints_len]; omega), pIf_t, pIdx_nat (ints_get hx)]
    simp only [e1, rem8, len_, ints_len]
    rw [show (decide (0 ≤ ((1 + x / 8 : Nat) : Int)) && decide (((1 + x / 8 : Nat) : Int) < (b.length : Int))) = true by simp only [Bool.and_eq_true, decide_eq_true_eq]; omega, pCk_t, pIdx_nat (ints_get hc), show decide (0 ≤ ((x % 8 : Nat) : Int)) = true by exact decide_eq_true (by omega), pCk_t, pCk_t, pIdx_nat (ints_get hc), pl_set hb hc, wr_succ (m := 5000) (by omega) (by omega)]
    have := ih (i + 1) fuel (plS b x) hd2 (fun y hy => hr y (List.mem_cons_of_mem _ hy)) (by omega) (by omega) (by rw [plS_len]; exact hbl) (plS_byte hb x)
    rw [len_, ints_len] at this
    exact this
theorem rplain_loop (N : Nat) (n : Nat) (hn : n ≤ 4096) (s : List Nat) (hs : s.length ≤ 4096) : ∀ (r : List Nat) (i fuel : Nat) (b : List Nat), s.drop i = r → (∀ x ∈ r, x < n) → i + r.length = s.length → r.length < fuel → b.length = 1 + (n + 7) / 8 → (∀ c ∈ b, c < 256) →
    avermentref03_Plain_l4 N (fun x0 => some x0) fuel (ints s) (i : Int) (ints b) = some (ints (plF b r)) := by
  intro r
  induction r with
  | nil =>
    intro i fuel b hd hr hi hf hbl hb
    obtain ⟨fuel, rfl⟩ : ∃ f, fuel = f + 1 := ⟨fuel - 1, by omega⟩
    simp only [List.length_nil] at hi
    rw [avermentref03_Plain_l4, decide_eq_false (by rw [len_, ints_len]; omega), pIf_f]
    rfl
  | cons x r ih =>
    intro i fuel b hd hr hi hf hbl hb
    obtain ⟨fuel, rfl⟩ : ∃ f, fuel = f + 1 := ⟨fuel - 1, by omega⟩
    simp only [List.length_cons] at hi hf
    obtain ⟨hx, hd2, hil⟩ := hd_of hd
    have hxn := hr x (by simp)
    have hj : 1 + x / 8 < b.length := by omega
    obtain ⟨c, hc⟩ : ∃ c, b[1 + x / 8]? = some c := ⟨_, List.getElem?_eq_getElem hj⟩
    have e1 : wr .i64 (1 + quoI .i64 (x : Int) 8) = ((1 + x / 8 : Nat) : Int) := by rw [quo8 (by omega), wr_i64 (by omega) (by omega)]; omega
    rw [avermentref03_Plain_l4, decide_eq_true (by rw [len_, ints_len]; omega), pIf_t, pIdx_nat (ints_get hx), pIdx_nat (ints_get hx)]
    simp only [e1, rem8, len_, ints_len]
    rw [show (decide (0 ≤ ((1 + x / 8 : Nat) : Int)) && decide (((1 + x / 8 : Nat) : Int) < (b.length : Int))) = true by simp only [Bool.and_eq_true, decide_eq_true_eq]; omega, pCk_t, pIdx_nat (ints_get hc), pIdx_nat (ints_get hx)]
    simp only [rem8]
    rw [show decide (0 ≤ ((x % 8 : Nat) : Int)) = true by exact decide_eq_true (by omega), pCk_t, pCk_t, pIdx_nat (ints_get hc), pl_set hb hc, wr_succ (m := 5000) (by omega) (by omega)]
    exact ih (i + 1) fuel (plS b x) hd2 (fun y hy => hr y (List.mem_cons_of_mem _ hy)) (by omega) (by omega) (by rw [plS_len]; exact hbl) (plS_byte hb x)
theorem Rise.mem {n : Nat} : ∀ {s : List Nat} {lo : Nat}, Rise n lo s → ∀ x ∈ s, lo ≤ x ∧ x < n
  | [], lo, _, x, h => by simp at h
  | a :: r, lo, h, x, hx => by
    rcases List.mem_cons.1 hx with rfl | hx
    · exact ⟨h.1, h.2.1⟩
    · have := Rise.mem h.2.2 x hx
      have := h.1
      omega
theorem rep0_ints (k : Nat) : rep (k : Int) (0 : Int) = ints (List.replicate k 0) := by simp [rep, ints]
theorem plain_eq (N : Nat) (hN : 5000 < N) (n : Nat) (hn : n ≤ 4096) (s : List Nat) (hs : Rise n 0 s) : bits_plain N (n : Int) (ints s) = some (ints (plainW n s)) ∧ avermentref03_Plain N (n : Int) (ints s) = some (ints (plainW n s)) := by
  have hl := Rise.len hs (by omega)
  have e1 : wr .i64 (wr .i64 ((n : Int) + 8) - 1) = ((n + 7 : Nat) : Int) := by rw [wr_i64 (n := (n : Int) + 8) (by omega) (by omega), wr_i64 (by omega) (by omega)]; omega
  have e1' : wr .i64 ((n : Int) + 7) = ((n + 7 : Nat) : Int) := by rw [wr_i64 (by omega) (by omega)]; omega
  have e2 : wr .i64 (1 + quoI .i64 ((n + 7 : Nat) : Int) 8) = ((1 + (n + 7) / 8 : Nat) : Int) := by rw [quo8 (by omega), wr_i64 (by omega) (by omega)]; omega
  have h0 : (List.replicate (1 + (n + 7) / 8) 0).length = 1 + (n + 7) / 8 := by simp
  have h1 : ∀ c ∈ List.replicate (1 + (n + 7) / 8) 0, c < 256 := fun c hc => by rw [(List.mem_replicate.1 hc).2]; omega
  have hck : (decide (0 ≤ ((1 + (n + 7) / 8 : Nat) : Int)) && decide (((1 + (n + 7) / 8 : Nat) : Int) ≤ ((1 + (n + 7) / 8 : Nat) : Int))) = true := by simp only [Bool.and_eq_true, decide_eq_true_eq]; omega
  have hr : room 1 ((1 + (n + 7) / 8 : Nat) : Int) = true := room_of (by omega) (by omega)
  constructor
  · unfold bits_plain
    rw [e1, e2, hck, pCk_t, hr, pCk_t, rep0_ints]
    exact plain_loop N n hn s (by omega) s 0 N _ rfl (fun x hx => (hs.mem x hx).2) (by simp) (by omega) h0 h1
  · unfold avermentref03_Plain
    rw [e1', e2, hck, pCk_t, hr, pCk_t, rep0_ints]
    exact rplain_loop N n hn s (by omega) s 0 N _ rfl (fun x hx => (hs.mem x hx).2) (by simp) (by omega) h0 h1
end Go.Y
namespace Go.Y
open Go
def okR (n : Int) : Int → List Int → Bool
  | _, [] => true
  | last, x :: r => decide (last < x) && (decide (x < n) && okR n x r)
def setOk (n : Int) (l : List Int) : Bool := decide (0 ≤ n) && (decide (n ≤ 4096) && okR n (-1) l)
theorem okR_of : ∀ {n last : Int} {l : List Int}, Inc l → (∀ x ∈ l, last < x ∧ x < n) → okR n last l = true
  | n, last, [], _, _ => rfl
  | n, last, x :: r, h, hb => by
    obtain ⟨h1, h2⟩ := List.pairwise_cons.1 h
    have hx := hb x (by simp)
    simp only [okR, Bool.and_eq_true, decide_eq_true_eq]
    exact ⟨hx.1, hx.2, okR_of h2 fun y hy => ⟨h1 y hy, (hb y (List.mem_cons_of_mem _ hy)).2⟩⟩
theorem drop_cons_int {s : List Int} {i : Nat} {x : Int} {r : List Int} (h : s.drop i = x :: r) : s[i]? = some x ∧ s.drop (i + 1) = r := by
  constructor
  · have := congrArg List.head? h
    rw [List.head?_drop] at this
    exact this
  · rw [← List.tail_drop, h]; rfl
theorem Right_loop (N : Nat) (n : Int) (s : List Int) (hs : s.length ≤ 100000) : ∀ (r : List Int) (i fuel : Nat) (last : Int), s.drop i = r → i + r.length = s.length → r.length < fuel →
    bits_Right_l6 N (fun _ => some true) (fun x1 => some x1) fuel n last s (len s) (i : Int) = some (okR n last r) := by
  intro r
  induction r with
  | nil =>
    intro i fuel last hd hi hf
    obtain ⟨fuel, rfl⟩ : ∃ f, fuel = f + 1 := ⟨fuel - 1, by omega⟩
    simp only [List.length_nil] at hi
    rw [bits_Right_l6, decide_eq_false (by rw [len_]; omega), pIf_f]
    rfl
  | cons x r ih =>
    intro i fuel last hd hi hf
    obtain ⟨fuel, rfl⟩ : ∃ f, fuel = f + 1 := ⟨fuel - 1, by omega⟩
    simp only [List.length_cons] at hi hf
    obtain ⟨hx, hd2⟩ := drop_cons_int hd
    rw [bits_Right_l6, decide_eq_true (by rw [len_]; omega), pIf_t, pIdx_nat hx, pLet_, pick_or]
    by_cases h1 : x ≤ last
    · rw [decide_eq_true h1, Bool.true_or, pIf_t]
      simp only [okR]
      rw [decide_eq_false (by omega)]; rfl
    · by_cases h2 : n ≤ x
      · rw [decide_eq_true h2, Bool.or_true, pIf_t]
        simp only [okR]
        rw [decide_eq_false (show ¬ x < n by omega), Bool.false_and, Bool.and_false]
      · rw [decide_eq_false h1, decide_eq_false h2, Bool.or_false, pIf_f, wr_succ (m := 100000) (by omega) (by omega), ih (i + 1) fuel x hd2 (by omega) (by omega)]
        simp only [okR]
        rw [decide_eq_true (show last < x by omega), decide_eq_true (show x < n by omega), Bool.true_and, Bool.true_and]
theorem Right_ok (N : Nat) (n : Int) (s : List Int) (hs : s.length ≤ 100000) (hN : s.length < N) : bits_Right N n s = some (setOk n s) := by
  unfold bits_Right setOk
  rw [pLet_, pick_or]
  by_cases h1 : n < 0
  · rw [decide_eq_true h1, Bool.true_or, pIf_t, decide_eq_false (by omega)]; rfl
  · by_cases h2 : 4096 < n
    · rw [decide_eq_true h2, Bool.or_true, pIf_t, decide_eq_false (show ¬ n ≤ 4096 by omega), Bool.false_and, Bool.and_false]
    · rw [decide_eq_false h1, decide_eq_false h2, Bool.or_false, pIf_f, decide_eq_true (by omega), decide_eq_true (by omega), Bool.true_and, Bool.true_and]
      exact Right_loop N n s hs s 0 N (-1) rfl (by simp) hN
theorem ints_inc : ∀ {n lo : Nat} {s : List Nat}, Go.Y.Rise n lo s → Inc (ints s) ∧ ∀ y ∈ ints s, (lo : Int) ≤ y ∧ y < (n : Int)
  | n, lo, [], _ => ⟨List.Pairwise.nil, fun y h => by simp [ints] at h⟩
  | n, lo, x :: r, h => by
    obtain ⟨i1, i2⟩ := ints_inc h.2.2
    refine ⟨List.pairwise_cons.2 ⟨fun y hy => by have := (i2 y hy).1; show (x : Int) < y; omega, i1⟩, fun y hy => ?_⟩
    rcases List.mem_cons.1 hy with rfl | hy
    · have := h.1; have := h.2.1; show (lo : Int) ≤ (x : Int) ∧ (x : Int) < (n : Int); omega
    · have := i2 y hy; have := h.1; omega
theorem setOk_rise {n : Nat} (hn : n ≤ 4096) {s : List Nat} (hs : Go.Y.Rise n 0 s) : setOk (n : Int) (ints s) = true := by
  obtain ⟨h1, h2⟩ := ints_inc hs
  unfold setOk
  rw [decide_eq_true (by omega), decide_eq_true (by omega), okR_of h1 fun x hx => by have := h2 x hx; omega]
  rfl
def wayW (n : Nat) (s : List Nat) (w : Nat) : List Nat := match w with | 0 => plainW n s | 1 => gapsW s | _ => runsW s
def best (a b c : Nat) : Nat := if a ≤ b ∧ a ≤ c then 0 else if b ≤ c then 1 else 2
def bestW (n : Nat) (s : List Nat) : Nat := best (plainW n s).length (gapsW s).length (runsW s).length
section
variable (N : Nat) (hN : 5000 < N) (n : Nat) (hn : n ≤ 4096) (s : List Nat) (hs : Go.Y.Rise n 0 s)
set_option linter.unusedSectionVars false
include hN hn hs
theorem laid_eq (w : Nat) (hw : w ≤ 2) : bits_laid N (n : Int) (ints s) (w : Int) = some (ints (wayW n s w)) := by
  unfold bits_laid
  match w, hw with
  | 0, _ => rw [show decide (((0 : Nat) : Int) = 0) = true from rfl, pIf_t, (plain_eq N hN n hn s hs).1, pCall_s]; rfl
  | 1, _ => rw [show decide (((1 : Nat) : Int) = 0) = false from rfl, pIf_f, show decide (((1 : Nat) : Int) = 1) = true from rfl, pIf_t, gaps_eq N hN n hn s hs, pCall_s]; rfl
  | 2, _ => rw [show decide (((2 : Nat) : Int) = 0) = false from rfl, pIf_f, show decide (((2 : Nat) : Int) = 1) = false from rfl, pIf_f, show decide (((2 : Nat) : Int) = 2) = true from rfl, pIf_t, runs_eq N hN n hn s hs, pCall_s]; rfl
theorem right_eq : bits_Right N (n : Int) (ints s) = some true := by
  have hl := Rise.len hs (by omega)
  rw [Right_ok N _ _ (by rw [ints_len]; omega) (by rw [ints_len]; omega), setOk_rise hn hs]
theorem way_eq : bits_Way N (n : Int) (ints s) = some (bestW n s : Int) := by
  unfold bits_Way
  obtain ⟨M, rfl⟩ : ∃ M, N = M + 3 := ⟨N - 3, by omega⟩
  rw [right_eq _ hN n hn s hs, pCall_s, Bool.not_true, pIf_f]
  have i1 : ∀ {ρ : Type} (k : Int → Option ρ), pIdx [(1 : Int), 2] 0 k = k ((1 : Nat) : Int) := fun k => rfl
  have i2 : ∀ {ρ : Type} (k : Int → Option ρ), pIdx [(1 : Int), 2] 1 k = k ((2 : Nat) : Int) := fun k => rfl
  have w1 : wr .i64 ((0 : Int) + 1) = 1 := rfl
  have w2 : wr .i64 ((1 : Int) + 1) = 2 := rfl
  have l0 : bits_laid (M + 3) (n : Int) (ints s) 0 = some (ints (wayW n s 0)) := laid_eq _ hN n hn s hs 0 (by omega)
  have step : ∀ (b : Nat), b ≤ 2 → bits_Way_l6 (M + 3) (fun x1 => some x1) (M + 2) (n : Int) (ints s) (b : Int) (1, 2) 1 = some (if (wayW n s 2).length < (wayW n s b).length then 2 else (b : Int)) := by
    intro b hb
    rw [bits_Way_l6, show decide ((1 : Int) < 2) = true from rfl, pIf_t, i2, laid_eq _ hN n hn s hs 2 (by omega), pCall_s, laid_eq _ hN n hn s hs b hb, pCall_s, pJoin_, len_, len_, ints_len, ints_len]
    by_cases h : (wayW n s 2).length < (wayW n s b).length
    · rw [decide_eq_true (by omega), pIf_t, if_pos h]
      simp only [w2]
      rw [bits_Way_l6, show decide ((2 : Int) < 2) = false from rfl, pIf_f]
      rfl
    · rw [decide_eq_false (by omega), pIf_f, if_neg h]
      simp only [w2]
      rw [bits_Way_l6, show decide ((2 : Int) < 2) = false from rfl, pIf_f]
  rw [bits_Way_l6, show decide ((0 : Int) < 2) = true from rfl, pIf_t, i1, laid_eq _ hN n hn s hs 1 (by omega), pCall_s, l0, pCall_s, pJoin_, len_, len_, ints_len, ints_len]
  have e0 : (wayW n s 0).length = (plainW n s).length := rfl
  have e1 : (wayW n s 1).length = (gapsW s).length := rfl
  have e2 : (wayW n s 2).length = (runsW s).length := rfl
  have hbest : bestW n s = best (wayW n s 0).length (wayW n s 1).length (wayW n s 2).length := rfl
  rw [hbest]
  by_cases h : (wayW n s 1).length < (wayW n s 0).length
  · rw [decide_eq_true (by omega), pIf_t]
    simp only [w1]
    have := step 1 (by omega)
    rw [show ((1 : Nat) : Int) = 1 from rfl] at this ⊢
    rw [this]
    unfold best
    by_cases h2 : (wayW n s 2).length < (wayW n s 1).length
    · rw [if_pos h2, if_neg (by omega), if_neg (by omega)]; rfl
    · rw [if_neg h2, if_neg (by omega), if_pos (by omega)]; rfl
  · rw [decide_eq_false (by omega), pIf_f]
    simp only [w1]
    have := step 0 (by omega)
    rw [show ((0 : Nat) : Int) = 0 from rfl] at this
    rw [this]
    unfold best
    by_cases h2 : (wayW n s 2).length < (wayW n s 0).length
    · rw [if_pos h2, if_neg (by omega), if_neg (by omega)]; rfl
    · rw [if_neg h2, if_pos (by omega)]; rfl
theorem bestW_le : bestW n s ≤ 2 := by
  unfold bestW best
  split
  · omega
  · split <;> omega
theorem way_len (w : Nat) : (wayW n s w).length ≤ 20000 := by
  have hl := Rise.len hs (by omega)
  obtain ⟨hrr, hrl⟩ := runsF_rr hs
  have hb := runsB_len hn hrr
  have hg := gapsB_len hn hs
  have hv := venc_len2 (n := (runsF s).length) (by omega)
  have hv2 := venc_len2 (n := s.length) (by omega)
  unfold wayW
  split
  · unfold plainW
    rw [plF_len, List.length_replicate]; omega
  · simp only [gapsW, List.length_cons, List.length_append]; omega
  · simp only [runsW, List.length_cons, List.length_append]; omega
theorem write_eq (w : List Nat) (hw : w.length ≤ 1000) : bits_Write N (n : Int) (ints s) (ints w) = some (Err.nil, ints (w ++ wayW n s (bestW n s))) := by
  have hw2 := way_len N hN n hn s hs (bestW n s)
  unfold bits_Write
  rw [right_eq N hN n hn s hs, pCall_s, Bool.not_true, pIf_f, way_eq N hN n hn s hs, pCall_s, laid_eq N hN n hn s hs _ (bestW_le N hN n hn s hs), pCall_s]
  unfold p_wire_Writer_Raw
  rw [← ints_app, room_of (by simp [ints_len]; omega) (by simp [ints_len]; omega), pCk_t, pCall_s]
end
end Go.Y
namespace Go.Y
open Go
theorem bits_lays (N : Nat) (h : N = 6000) : avermentlaw03_lays N = some true := by subst h; kernel_rfl
theorem set_rise (N : Nat) (hN : 5000 < N) (n : Nat) (hn : n ≤ 4096) (raw : List Int) : ∃ s : List Nat, avermentlaw03_Set N (n : Int) raw = some (ints s) ∧ Rise n 0 s := by
  obtain ⟨s, h1, h2, h3, _⟩ := Set_ok N hN n hn raw
  obtain ⟨ns, rfl, h4⟩ := rise_of (n := n) 0 h2 fun y hy => by have := h3 y hy; omega
  exact ⟨ns, h1, h4⟩
end Go.Y
namespace Go.Y
open Go
theorem taken_eq (N : Nat) (hN : 5000 < N) (n : Nat) (hn : n ≤ 4096) (bs rest : List Nat) (hl : bs.length ≤ 50000) (a next x : Nat) (h1 : next ≤ x) (h2 : x < n) (hd : bs.drop a = venc (x - next) ++ rest) :
    bits_taken N (next : Int) (n : Int) (ints bs) (a : Int) = some ((x : Int), Err.nil, ints bs, ((a + (venc (x - next)).length : Nat) : Int)) := by
  obtain ⟨v1, v2⟩ := venc_ok (x - next)
  have v3 := venc_len2 (n := x - next) (by omega)
  unfold bits_taken
  rw [decide_eq_false (by omega), pIf_f, wr_i64 (n := (n : Int) - 1) (by omega) (by omega), wr_i64 (n := (n : Int) - 1 - (next : Int)) (by omega) (by omega), wr_u64 (by omega) (by omega), show (n : Int) - 1 - (next : Int) = ((n - 1 - next : Nat) : Int) by omega,
    (uint_val N (by omega) bs (venc (x - next)) rest a (n - 1 - next) (by omega) hd v1 (by omega) (by omega) (by omega)).2, pCall_s, v2, wr_i64 (n := ((x - next : Nat) : Int)) (by omega) (by omega), wr_i64 (by omega) (by omega)]
  congr 2
  omega
theorem wr_succ64 {i m : Nat} (h : i < m) (hm : m ≤ 9223372036854775807) : wr .u64 ((i : Int) + 1) = ((i + 1 : Nat) : Int) := by
  rw [wr_u64 (by omega) (by omega)]; omega
theorem fromGaps_loop (N : Nat) (hN : 5000 < N) (n : Nat) (hn : n ≤ 4096) (bs : List Nat) (hl : bs.length ≤ 50000) (s : List Nat) (hs : s.length ≤ 4096)
    (k1 : (List Int) × Err × (List Int) × Int → Option ((List Int) × Err × (List Int) × Int)) : ∀ (r : List Nat) (i next a fuel : Nat), s.drop i = r → Rise n next r → i + r.length = s.length → r.length < fuel → a ≤ bs.length → bs.drop a = gapsB next r →
    bits_fromGaps_l8 N (fun x1 => some (x1.2.2, Err.nil, x1.1, x1.2.1)) k1 fuel (n : Int) (next : Int) (s.length : Int) (i : Int) (ints bs) (a : Int) (ints (s.take i)) = some (ints s, Err.nil, ints bs, (bs.length : Int)) := by
  intro r
  induction r with
  | nil =>
    intro i next a fuel hd hr hi hf ha hb
    obtain ⟨fuel, rfl⟩ : ∃ f, fuel = f + 1 := ⟨fuel - 1, by omega⟩
    simp only [List.length_nil] at hi
    rw [bits_fromGaps_l8, decide_eq_false (by omega), pIf_f, List.take_of_length_le (by omega)]
    have := congrArg List.length hb
    simp only [List.length_drop, gapsB, List.length_nil] at this
    simp only
    rw [show a = bs.length by omega]
  | cons x r ih =>
    intro i next a fuel hd hr hi hf ha hb
    obtain ⟨fuel, rfl⟩ : ∃ f, fuel = f + 1 := ⟨fuel - 1, by omega⟩
    simp only [List.length_cons] at hi hf
    obtain ⟨hx, hd2, hil⟩ := hd_of hd
    obtain ⟨h1, h2, h3⟩ := hr
    have hlen := congrArg List.length hb
    simp only [List.length_drop, gapsB, List.length_append] at hlen
    have htk : s.take (i + 1) = s.take i ++ [x] := by rw [List.take_add_one, hx]; rfl
    rw [bits_fromGaps_l8, decide_eq_true (by omega), pIf_t, taken_eq N hN n hn bs (gapsB (x + 1) r) hl a next x h1 h2 hb, pCall_s]
    simp only [errNil, Bool.not_true, pIf_f]
    rw [room_of (by simp [ints_len]; omega) (by simp [ints_len]; omega), pCk_t, wr_succ (m := 5000) (by omega) (by omega), wr_succ64 (m := 5000) (by omega) (by omega)]
    have hap : ints (s.take i) ++ [(x : Int)] = ints (s.take (i + 1)) := by rw [htk, ints_app]; rfl
    rw [hap]
    exact ih (i + 1) (x + 1) _ fuel hd2 h3 (by omega) (by omega) (by omega) (by rw [← List.drop_drop, hb]; exact List.drop_left' rfl)
theorem fromGaps_eq (N : Nat) (hN : 5000 < N) (n : Nat) (hn : n ≤ 4096) (s : List Nat) (hs : Rise n 0 s) : bits_fromGaps N (n : Int) (ints (gapsW s)) 1 = some (ints s, Err.nil, ints (gapsW s), ((gapsW s).length : Int)) := by
  have hl := Rise.len hs (by omega)
  obtain ⟨v1, v2⟩ := venc_ok s.length
  have v3 := venc_len2 (n := s.length) (by omega)
  have hg := gapsB_len hn hs
  have hbl : (gapsW s).length ≤ 50000 := by simp only [gapsW, List.length_cons, List.length_append]; omega
  unfold bits_fromGaps
  have hu := (uint_val N (by omega) (gapsW s) (venc s.length) (gapsB 0 s) 1 n (by omega) rfl v1 (by omega) (by omega) (by omega)).2
  rw [v2] at hu
  have hu : p_wire_Reader_Uint N (n : Int) (ints (gapsW s)) 1 = _ := hu
  rw [wr_u64 (by omega) (by omega), hu, pCall_s]
  simp only [errNil, Bool.not_true, pIf_f]
  exact fromGaps_loop N hN n hn (gapsW s) hbl s (by omega) (fun x1 => some x1) s 0 0 (1 + (venc s.length).length) N rfl hs (by simp) (by omega) (by simp only [gapsW, List.length_cons, List.length_append]; omega) (by
    rw [← List.drop_drop]
    show (venc s.length ++ gapsB 0 s).drop (venc s.length).length = gapsB 0 s
    exact List.drop_left' rfl)
def flat (rs : List (Nat × Nat)) : List Nat := rs.flatMap fun p => List.range' p.1 p.2
theorem runsF_flat : ∀ s : List Nat, flat (runsF s) = s
  | [] => rfl
  | x :: r => by
    have ih := runsF_flat r
    show flat (match runsF r with | [] => [(x, 1)] | (f, l) :: q => if f = x + 1 then (x, l + 1) :: q else (x, 1) :: (f, l) :: q) = _
    cases hq : runsF r with
    | nil =>
      rw [hq] at ih
      rw [← ih]; rfl
    | cons p q =>
      obtain ⟨f, l⟩ := p
      rw [hq] at ih
      simp only
      by_cases he : f = x + 1
      · rw [if_pos he]
        subst he
        rw [← ih]
        simp [flat, List.range'_succ]
      · rw [if_neg he]
        rw [← ih]
        simp [flat, List.range']
theorem flat_app (a b : List (Nat × Nat)) : flat (a ++ b) = flat a ++ flat b := by simp [flat]
theorem flat_take {rs : List (Nat × Nat)} {i f l : Nat} (h : rs[i]? = some (f, l)) : flat (rs.take (i + 1)) = flat (rs.take i) ++ List.range' f l := by
  rw [List.take_add_one, h]
  simp [flat]
theorem run_out (N : Nat) (k0 : Int × Int × Int × Int × (List Int) × Int × List Int → Option ((List Int) × Err × (List Int) × Int)) (n1 t24 t25 : Int) (r0 : List Int) (r1 : Int) (f l : Nat) (hf : f + l ≤ 4096) : ∀ (m j fuel : Nat) (w : List Nat), j + m = l → m < fuel → w.length + m ≤ 50000 →
    bits_fromRuns_l16 N k0 fuel n1 ((f + l : Nat) - 1 : Int) ((f + j : Nat) : Int) t24 t25 r0 r1 (ints w) = k0 (n1, ((f + l : Nat) - 1 : Int), t24, t25, r0, r1, ints (w ++ List.range' (f + j) m)) := by
  intro m
  induction m with
  | zero =>
    intro j fuel w h hfu hw
    obtain ⟨fuel, rfl⟩ : ∃ f, fuel = f + 1 := ⟨fuel - 1, by omega⟩
    rw [bits_fromRuns_l16, decide_eq_false (by omega), pIf_f]
    simp
  | succ m ih =>
    intro j fuel w h hfu hw
    obtain ⟨fuel, rfl⟩ : ∃ f, fuel = f + 1 := ⟨fuel - 1, by omega⟩
    rw [bits_fromRuns_l16, decide_eq_true (by omega), pIf_t, room_of (by simp [ints_len]; omega) (by simp [ints_len]; omega), pCk_t, wr_succ (m := 5000) (by omega) (by omega)]
    have hap : ints w ++ [((f + j : Nat) : Int)] = ints (w ++ [f + j]) := by rw [ints_app]; rfl
    rw [hap, Nat.add_assoc f j 1, ih (j + 1) fuel _ (by omega) (by omega) (by simp; omega), List.append_assoc]
    rfl
theorem fromRuns_loop (N : Nat) (hN : 5000 < N) (n : Nat) (hn : n ≤ 4096) (bs : List Nat) (hl : bs.length ≤ 50000) (rs : List (Nat × Nat)) (hrs : rs.length ≤ 4096) (hflat : (flat rs).length ≤ 4097)
    (k1 : (List Int) × Err × (List Int) × Int → Option ((List Int) × Err × (List Int) × Int)) : ∀ (q : List (Nat × Nat)) (i next a fuel : Nat), rs.drop i = q → RR n next q → i + q.length = rs.length → q.length < fuel → a ≤ bs.length → bs.drop a = runsB next q →
    bits_fromRuns_l8 N (fun x1 => some (x1.2.2, Err.nil, x1.1, x1.2.1)) k1 fuel (n : Int) (next : Int) (rs.length : Int) (i : Int) (ints bs) (a : Int) (ints (flat (rs.take i))) = some (ints (flat rs), Err.nil, ints bs, (bs.length : Int)) := by
  intro q
  induction q with
  | nil =>
    intro i next a fuel hd hr hi hf ha hb
    obtain ⟨fuel, rfl⟩ : ∃ f, fuel = f + 1 := ⟨fuel - 1, by omega⟩
    simp only [List.length_nil] at hi
    rw [bits_fromRuns_l8, decide_eq_false (by omega), pIf_f, List.take_of_length_le (by omega)]
    have := congrArg List.length hb
    simp only [List.length_drop, runsB, List.length_nil] at this
    simp only
    rw [show a = bs.length by omega]
  | cons p q ih =>
    obtain ⟨f, l⟩ := p
    intro i next a fuel hd hr hi hf ha hb
    obtain ⟨fuel, rfl⟩ : ∃ f, fuel = f + 1 := ⟨fuel - 1, by omega⟩
    simp only [List.length_cons] at hi hf
    have hp : rs[i]? = some (f, l) := by
      have := congrArg List.head? hd
      rw [List.head?_drop] at this
      exact this
    have hd2 : rs.drop (i + 1) = q := by rw [← List.tail_drop, hd]; rfl
    obtain ⟨h1, h2, h3, h4⟩ := hr
    have hlen := congrArg List.length hb
    simp only [List.length_drop, runsB, List.length_append] at hlen
    have hb2 : bs.drop (a + (venc (f - next)).length) = venc (f + (l - 1) - f) ++ runsB (f + l + 1) q := by
      rw [← List.drop_drop, hb, show f + (l - 1) - f = l - 1 by omega]
      exact List.drop_left' rfl
    have hfi : (flat (rs.take i)).length + l ≤ 4097 := by
      have := flat_take hp
      have h5 : (flat (rs.take (i + 1))).length ≤ (flat rs).length := by
        have h6 : flat rs = flat (rs.take (i + 1)) ++ flat (rs.drop (i + 1)) := by
          rw [← flat_app, List.take_append_drop]
        rw [h6, List.length_append]; omega
      rw [this, List.length_append, List.length_range'] at h5
      omega
    rw [bits_fromRuns_l8, decide_eq_true (by omega), pIf_t, taken_eq N hN n hn bs _ hl a next f h1 (by omega) hb, pCall_s]
    simp only [errNil, Bool.not_true, pIf_f]
    rw [taken_eq N hN n hn bs _ hl _ f (f + (l - 1)) (by omega) (by omega) hb2, pCall_s]
    simp only [Bool.not_true, pIf_f]
    have hgo := run_out N (fun x2 => bits_fromRuns_l8 N (fun x1 => some (x1.2.2, Err.nil, x1.1, x1.2.1)) k1 fuel x2.1 (wr .i64 (x2.2.1 + 2)) x2.2.2.1 (wr .u64 (x2.2.2.2.1 + 1)) x2.2.2.2.2.1 x2.2.2.2.2.2.1 x2.2.2.2.2.2.2) (n : Int) (rs.length : Int) (i : Int) (ints bs) ((a + (venc (f - next)).length + (venc (f + (l - 1) - f)).length : Nat) : Int) f l (by omega) l 0 N (flat (rs.take i)) (by omega) (by omega) (by omega)
    rw [show ((f + (l - 1) : Nat) : Int) = ((f + l : Nat) - 1 : Int) by omega, show ((f + 0 : Nat) : Int) = (f : Int) by omega] at *
    rw [hgo]
    simp only
    rw [wr_i64 (n := ((f + l : Nat) : Int) - 1 + 2) (by omega) (by omega), show ((f + l : Nat) : Int) - 1 + 2 = ((f + l + 1 : Nat) : Int) by omega, wr_succ64 (m := 5000) (by omega) (by omega), show List.range' (f + 0) l = List.range' f l from rfl, ← flat_take hp]
    exact ih (i + 1) (f + l + 1) _ fuel hd2 h4 (by omega) (by omega) (by rw [show f + (l - 1) - f = l - 1 by omega]; omega) (by rw [← List.drop_drop, hb2]; exact List.drop_left' rfl)
theorem fromRuns_eq (N : Nat) (hN : 5000 < N) (n : Nat) (hn : n ≤ 4096) (s : List Nat) (hs : Rise n 0 s) : bits_fromRuns N (n : Int) (ints (runsW s)) 1 = some (ints s, Err.nil, ints (runsW s), ((runsW s).length : Int)) := by
  have hl := Rise.len hs (by omega)
  obtain ⟨hrr, hrl⟩ := runsF_rr hs
  obtain ⟨v1, v2⟩ := venc_ok (runsF s).length
  have v3 := venc_len2 (n := (runsF s).length) (by omega)
  have hg := runsB_len hn hrr
  have hbl : (runsW s).length ≤ 50000 := by simp only [runsW, List.length_cons, List.length_append]; omega
  unfold bits_fromRuns
  have hu := (uint_val N (by omega) (runsW s) (venc (runsF s).length) (runsB 0 (runsF s)) 1 n (by omega) rfl v1 (by omega) (by omega) (by omega)).2
  rw [v2] at hu
  have hu : p_wire_Reader_Uint N (n : Int) (ints (runsW s)) 1 = _ := hu
  rw [wr_u64 (by omega) (by omega), hu, pCall_s]
  simp only [errNil, Bool.not_true, pIf_f]
  have := fromRuns_loop N hN n hn (runsW s) hbl (runsF s) (by omega) (by rw [runsF_flat]; omega) (fun x1 => some x1) (runsF s) 0 0 (1 + (venc (runsF s).length).length) N rfl hrr (by simp) (by omega) (by simp only [runsW, List.length_cons, List.length_append]; omega) (by
    rw [← List.drop_drop]
    show (venc (runsF s).length ++ runsB 0 (runsF s)).drop (venc (runsF s).length).length = runsB 0 (runsF s)
    exact List.drop_left' rfl)
  rw [runsF_flat] at this
  exact this
end Go.Y
namespace Go.Y
open Go
def bit (b : List Nat) (i : Nat) : Bool := (b.getD (1 + i / 8) 0).testBit (i % 8)
theorem bit_plS {b : List Nat} {x : Nat} (hx : 1 + x / 8 < b.length) (i : Nat) : bit (plS b x) i = (bit b i || decide (i = x)) := by
  unfold bit plS
  simp only [List.getD_eq_getElem?_getD, List.getElem?_set]
  by_cases h : 1 + x / 8 = 1 + i / 8
  · rw [if_pos h, if_pos hx]
    simp only [Option.getD_some, Nat.testBit_or, Nat.testBit_two_pow, ← h]
    congr 1
    rw [decide_eq_decide]
    omega
  · rw [if_neg h]
    have : ¬ i = x := fun e => h (by rw [e])
    rw [decide_eq_false this, Bool.or_false]
theorem bit_plF : ∀ (s : List Nat) (b : List Nat) (i : Nat), (∀ x ∈ s, 1 + x / 8 < b.length) → bit (plF b s) i = (bit b i || decide (i ∈ s))
  | [], b, i, _ => by simp [plF]
  | x :: r, b, i, h => by
    show bit (plF (plS b x) r) i = _
    rw [bit_plF r (plS b x) i fun y hy => by rw [plS_len]; exact h y (List.mem_cons_of_mem _ hy), bit_plS (h x (by simp)), Bool.or_assoc]
    congr 1
    by_cases h1 : i = x
    · subst h1; simp
    · simp [h1]
theorem bit_plainW {n : Nat} {s : List Nat} (hs : ∀ x ∈ s, x < n) (i : Nat) : bit (plainW n s) i = decide (i ∈ s) := by
  unfold plainW
  rw [bit_plF s _ i fun x hx => by have := hs x hx; rw [List.length_replicate]; omega]
  have : bit (List.replicate (1 + (n + 7) / 8) 0) i = false := by
    unfold bit
    rw [List.getD_eq_getElem?_getD, List.getElem?_replicate]
    split <;> simp
  rw [this, Bool.false_or]
theorem shr_u8 {c k : Nat} (hk : k < 8) : shrI .u8 (c : Int) (k : Int) = ((c / 2 ^ k : Nat) : Int) := by
  unfold shrI
  rw [show min (k : Int).toNat IntKind.u8.bits = k by show min (k : Int).toNat 8 = k; omega, Int.fdiv_eq_ediv_of_nonneg _ (by exact_mod_cast Nat.zero_le (2 ^ k))]
  push_cast
  rfl
theorem bit_read {c k : Nat} (hc : c < 256) (hk : k < 8) : decide (band .u8 (shrI .u8 (c : Int) (k : Int)) 1 = 0) = !(c.testBit k) := by
  have hle : c / 2 ^ k < 256 := Nat.lt_of_le_of_lt (Nat.div_le_self _ _) hc
  have := band_u8 (x := c / 2 ^ k) (y := 1) hle (by omega)
  rw [Nat.and_one_is_mod] at this
  rw [shr_u8 hk, show (1 : Int) = ((1 : Nat) : Int) from rfl, this, Nat.testBit_eq_decide_div_mod_eq]
  rcases Nat.mod_two_eq_zero_or_one (c / 2 ^ k) with h | h <;> rw [h] <;> rfl
theorem fromPlain_loop (N : Nat) (n : Nat) (s : List Nat) (hs : ∀ x ∈ s, x < n) (hn : n ≤ 4096) (body : List Nat) (hbody : ∀ c ∈ body, c < 256) (hbit : ∀ i, (body.getD (i / 8) 0).testBit (i % 8) = decide (i ∈ s)) (hbl : body.length ≤ 600) (r0 : List Int) (r1 : Int)
    (k1 : (List Int) × Err × (List Int) × Int → Option ((List Int) × Err × (List Int) × Int)) : ∀ (m i fuel : Nat), i + m = 8 * body.length → m < fuel →
    bits_fromPlain_l7 N (fun x1 => some (x1.2.2, Err.nil, x1.1, x1.2.1)) k1 fuel (n : Int) (ints body) ((8 * body.length : Nat) : Int) (i : Int) r0 r1 (ints ((List.range i).filter fun j => decide (j ∈ s))) = some (ints ((List.range (8 * body.length)).filter fun j => decide (j ∈ s)), Err.nil, r0, r1) := by
  intro m
  induction m with
  | zero =>
    intro i fuel h hf
    obtain ⟨fuel, rfl⟩ : ∃ f, fuel = f + 1 := ⟨fuel - 1, by omega⟩
    rw [bits_fromPlain_l7, decide_eq_false (by omega), pIf_f, show i = 8 * body.length by omega]
  | succ m ih =>
    intro i fuel h hf
    obtain ⟨fuel, rfl⟩ : ∃ f, fuel = f + 1 := ⟨fuel - 1, by omega⟩
    have hj : i / 8 < body.length := by omega
    obtain ⟨c, hc⟩ : ∃ c, body[i / 8]? = some c := ⟨_, List.getElem?_eq_getElem hj⟩
    have hc2 := hbody c (List.mem_of_getElem? hc)
    have hb := hbit i
    rw [List.getD_eq_getElem?_getD, hc, Option.getD_some] at hb
    have hfl : ((List.range i).filter fun j => decide (j ∈ s)).length ≤ 5000 := Nat.le_trans (List.length_filter_le _ _) (by rw [List.length_range]; omega)
    have hrs : (List.range (i + 1)).filter (fun j => decide (j ∈ s)) = (List.range i).filter (fun j => decide (j ∈ s)) ++ (if i ∈ s then [i] else []) := by
      rw [List.range_succ, List.filter_append]
      congr 1
      by_cases hm : i ∈ s <;> simp [hm]
    rw [bits_fromPlain_l7, decide_eq_true (by omega), pIf_t, pJoin_, quo8 (by omega), pIdx_nat (ints_get hc), rem8, show decide (0 ≤ ((i % 8 : Nat) : Int)) = true by exact decide_eq_true (by omega), pCk_t, bit_read hc2 (Nat.mod_lt _ (by omega)), hb]
    have hgo := ih (i + 1) fuel (by omega) (by omega)
    by_cases hm : i ∈ s
    · rw [decide_eq_true hm, Bool.not_true, pIf_f, decide_eq_false (by have := hs i hm; omega), pIf_f, room_of (by simp only [len_, List.length_append, ints_len, List.length_singleton]; omega) (by simp only [len_, List.length_append, ints_len, List.length_singleton]; omega), pCk_t]
      simp only
      rw [wr_succ (m := 5000) (by omega) (by omega)]
      rw [hrs, if_pos hm, ints_app] at hgo
      exact hgo
    · rw [decide_eq_false hm, Bool.not_false, pIf_t]
      simp only
      rw [wr_succ (m := 5000) (by omega) (by omega)]
      rw [hrs, if_neg hm, List.append_nil] at hgo
      exact hgo
theorem filter_rise {n : Nat} {s : List Nat} (hs : Rise n 0 s) (m : Nat) (hm : n ≤ m) : (List.range m).filter (fun j => decide (j ∈ s)) = s := by
  have h1 : Inc (ints ((List.range m).filter fun j => decide (j ∈ s))) := by
    unfold Inc ints
    rw [List.pairwise_map]
    exact (List.Pairwise.filter _ List.pairwise_lt_range).imp fun h => by omega
  have h2 := (ints_inc hs).1
  have h3 : ints ((List.range m).filter fun j => decide (j ∈ s)) = ints s := inc_ext h1 h2 fun x => by
    simp only [ints, List.mem_map, List.mem_filter, List.mem_range, decide_eq_true_eq]
    constructor
    · rintro ⟨a, ⟨_, ha⟩, rfl⟩; exact ⟨a, ha, rfl⟩
    · rintro ⟨a, ha, rfl⟩; exact ⟨a, ⟨by have := (hs.mem a ha).2; omega, ha⟩, rfl⟩
  have hinj : ∀ a b : List Nat, ints a = ints b → a = b := by
    intro a
    induction a with
    | nil => intro b h; cases b with | nil => rfl | cons y b => simp [ints] at h
    | cons x a ih =>
      intro b h
      cases b with
      | nil => simp [ints] at h
      | cons y b =>
        simp only [ints, List.map_cons, List.cons.injEq] at h
        rw [ih b h.2, show x = y by omega]
  exact hinj _ _ h3
theorem fromPlain_eq (N : Nat) (hN : 5000 < N) (n : Nat) (hn : n ≤ 4096) (s : List Nat) (hs : Rise n 0 s) : bits_fromPlain N (n : Int) (ints (plainW n s)) 1 = some (ints s, Err.nil, ints (plainW n s), ((plainW n s).length : Int)) := by
  have hpl : (plainW n s).length = 1 + (n + 7) / 8 := by unfold plainW; rw [plF_len, List.length_replicate]
  have hby : ∀ c ∈ plainW n s, c < 256 := plF_byte s _ fun c hc => by rw [(List.mem_replicate.1 hc).2]; omega
  have e1 : wr .i64 (wr .i64 ((n : Int) + 8) - 1) = ((n + 7 : Nat) : Int) := by rw [wr_i64 (n := (n : Int) + 8) (by omega) (by omega), wr_i64 (by omega) (by omega)]; omega
  have hdl : ((plainW n s).drop 1).length = (n + 7) / 8 := by rw [List.length_drop, hpl]; omega
  unfold bits_fromPlain
  have hraw := raw_eq N (plainW n s) 1 ((n + 7) / 8) (by omega) (by omega)
  rw [List.take_of_length_le (by omega), show 1 + (n + 7) / 8 = (plainW n s).length from hpl.symm] at hraw
  have hraw : p_wire_Reader_Raw N (((n + 7) / 8 : Nat) : Int) (ints (plainW n s)) 1 = _ := hraw
  rw [e1, quo8 (by omega), hraw, pCall_s]
  simp only [errNil, Bool.not_true, pIf_f, len_, ints_len]
  have h8 : wr .i64 (8 * (((plainW n s).drop 1).length : Int)) = ((8 * ((plainW n s).drop 1).length : Nat) : Int) := by rw [wr_i64 (by omega) (by omega)]; omega
  rw [h8]
  have := fromPlain_loop N n s (fun x hx => (hs.mem x hx).2) hn ((plainW n s).drop 1) (fun c hc => hby c (List.mem_of_mem_drop hc)) (fun i => by
    have := bit_plainW (fun x hx => (hs.mem x hx).2) i (n := n) (s := s)
    unfold bit at this
    rw [List.getD_eq_getElem?_getD] at this ⊢
    rw [List.getElem?_drop]
    exact this) (by omega) (ints (plainW n s)) ((plainW n s).length : Int) (fun x1 => some x1) (8 * ((plainW n s).drop 1).length) 0 N (by omega) (by omega)
  rw [filter_rise hs (8 * ((plainW n s).drop 1).length) (by rw [hdl]; omega)] at this
  exact this
theorem wayW_head (n : Nat) (s : List Nat) (w : Nat) (hw : w ≤ 2) : ∃ r, wayW n s w = w :: r := by
  match w, hw with
  | 0, _ =>
    have key : ∀ (s : List Nat) (b : List Nat), (∃ r, b = 0 :: r) → ∃ r, plF b s = 0 :: r := by
      intro s
      induction s with
      | nil => intro b h; exact h
      | cons x s ih =>
        rintro b ⟨r, rfl⟩
        exact ih _ ⟨r.set (x / 8) ((0 :: r).getD (1 + x / 8) 0 ||| 2 ^ (x % 8)), by unfold plS; rw [show 1 + x / 8 = x / 8 + 1 by omega, List.set_cons_succ]⟩
    exact key s _ ⟨List.replicate ((n + 7) / 8) 0, by rw [show 1 + (n + 7) / 8 = (n + 7) / 8 + 1 by omega, List.replicate_succ]⟩
  | 1, _ => exact ⟨_, rfl⟩
  | 2, _ => exact ⟨_, rfl⟩
theorem wayW_byte {n : Nat} (hn : n ≤ 4096) {s : List Nat} (hs : Rise n 0 s) (w : Nat) : ∀ c ∈ wayW n s w, c < 256 := by
  have hv : ∀ m, ∀ c ∈ venc m, c < 256 := fun m => vFit_byte (venc_ok m).1
  unfold wayW
  split
  · exact plF_byte s _ fun c hc => by rw [(List.mem_replicate.1 hc).2]; omega
  · intro c hc
    simp only [gapsW, List.mem_cons, List.mem_append] at hc
    have hg : ∀ (s : List Nat) (next : Nat), ∀ c ∈ gapsB next s, c < 256 := by
      intro s
      induction s with
      | nil => intro next c hc; simp [gapsB] at hc
      | cons x s ih =>
        intro next c hc
        simp only [gapsB, List.mem_append] at hc
        exact hc.elim (hv _ c) (ih _ c)
    rcases hc with rfl | hc | hc
    · omega
    · exact hv _ c hc
    · exact hg _ _ c hc
  · intro c hc
    simp only [runsW, List.mem_cons, List.mem_append] at hc
    have hg : ∀ (q : List (Nat × Nat)) (next : Nat), ∀ c ∈ runsB next q, c < 256 := by
      intro q
      induction q with
      | nil => intro next c hc; simp [runsB] at hc
      | cons p q ih =>
        obtain ⟨f, l⟩ := p
        intro next c hc
        simp only [runsB, List.mem_append] at hc
        exact hc.elim (hv _ c) fun h => h.elim (hv _ c) (ih _ c)
    rcases hc with rfl | hc | hc
    · omega
    · exact hv _ c hc
    · exact hg _ _ c hc
theorem body_eq (N : Nat) (hN : 5000 < N) (n : Nat) (hn : n ≤ 4096) (s : List Nat) (hs : Rise n 0 s) (w : Nat) (hw : w ≤ 2) : bits_body N (n : Int) (ints (wayW n s w)) 0 = some (ints s, Err.nil, ints (wayW n s w), ((wayW n s w).length : Int)) := by
  obtain ⟨r, hr⟩ := wayW_head n s w hw
  have hbyte : p_wire_Reader_Byte N (ints (wayW n s w)) 0 = some ((w : Int), Err.nil, ints (wayW n s w), 1) := by
    unfold p_wire_Reader_Byte
    have hl : (0 : Int) ≠ len (ints (wayW n s w)) := by rw [len_, ints_len, hr]; simp only [List.length_cons]; omega
    rw [decide_eq_false hl, pIf_f]
    have h0 : (ints (wayW n s w))[0]? = some (w : Int) := ints_get (by rw [hr]; rfl)
    rw [show wr .i64 (wr .i64 (0 + 1) - 1) = ((0 : Nat) : Int) from rfl, pIdx_nat h0]
    rfl
  unfold bits_body
  rw [hbyte, pCall_s]
  simp only [errNil, Bool.not_true, pIf_f]
  match w, hw with
  | 0, _ => rw [show decide (((0 : Nat) : Int) = 0) = true from rfl, pIf_t, show wayW n s 0 = plainW n s from rfl, fromPlain_eq N hN n hn s hs, pCall_s]
  | 1, _ => rw [show decide (((1 : Nat) : Int) = 0) = false from rfl, pIf_f, show decide (((1 : Nat) : Int) = 1) = true from rfl, pIf_t, show wayW n s 1 = gapsW s from rfl, fromGaps_eq N hN n hn s hs, pCall_s]
  | 2, _ => rw [show decide (((2 : Nat) : Int) = 0) = false from rfl, pIf_f, show decide (((2 : Nat) : Int) = 1) = false from rfl, pIf_f, show decide (((2 : Nat) : Int) = 2) = true from rfl, pIf_t, show wayW n s 2 = runsW s from rfl, fromRuns_eq N hN n hn s hs, pCall_s]
theorem toStr_inj : ∀ {a b : List Nat}, (∀ c ∈ a, c < 256) → (∀ c ∈ b, c < 256) → toStr (ints a) = toStr (ints b) → a = b
  | [], [], _, _, _ => rfl
  | [], y :: b, _, _, h => by simp [toStr, ints] at h
  | x :: a, [], _, _, h => by simp [toStr, ints] at h
  | x :: a, y :: b, ha, hb, h => by
    simp only [toStr, ints, List.map_cons, List.cons.injEq] at h
    have hx := ha x (by simp)
    have hy := hb y (by simp)
    have h1 := congrArg UInt8.toNat h.1
    rw [Int.toNat_natCast, Int.toNat_natCast, UInt8.toNat_ofNat_of_lt' (by exact hx), UInt8.toNat_ofNat_of_lt' (by exact hy)] at h1
    rw [h1, toStr_inj (a := a) (b := b) (fun c hc => ha c (List.mem_cons_of_mem _ hc)) (fun c hc => hb c (List.mem_cons_of_mem _ hc)) h.2]
theorem read_eq2 (N : Nat) (hN : 5000 < N) (n : Nat) (hn : n ≤ 4096) (s : List Nat) (hs : Rise n 0 s) (w : Nat) (hw : w ≤ 2) :
    bits_Read N (n : Int) (ints (wayW n s w)) 0 = if w = bestW n s then some (ints s, Err.nil, ints (wayW n s w), ((wayW n s w).length : Int)) else some ([], Err.at 0 (.no 3), ints (wayW n s w), 0) := by
  have hwl := way_len N hN n hn s hs w
  have hbw := bestW_le N hN n hn s hs
  unfold bits_Read
  rw [show p_wire_Reader_At N (ints (wayW n s w)) 0 = some (0, ints (wayW n s w), 0) from rfl, pCall_s]
  simp only [pLet_, pick_f]
  rw [decide_eq_false (show ¬ (n : Int) < 0 by omega), pick_f, decide_eq_false (show ¬ (4096 : Int) < (n : Int) by omega), pIf_f, show p_wire_Reader_Copy N (ints (wayW n s w)) 0 = some (ints (wayW n s w), 0, ints (wayW n s w), 0) from rfl, pCall_s, body_eq N hN n hn s hs w hw, pCall_s]
  simp only [errNil, Bool.not_true, pIf_f]
  rw [show p_wire_Reader_At N (ints (wayW n s w)) ((wayW n s w).length : Int) = some (((wayW n s w).length : Int), ints (wayW n s w), ((wayW n s w).length : Int)) from rfl, pCall_s, show p_wire_Reader_Copy N (ints (wayW n s w)) 0 = some (ints (wayW n s w), 0, ints (wayW n s w), 0) from rfl, pCall_s]
  have hz : wr .i64 (((wayW n s w).length : Int) - 0) = ((wayW n s w).length : Int) := by rw [Int.sub_zero, wr_i64 (by omega) (by omega)]
  simp only [hz]
  have hra : p_wire_Reader_Raw N ((wayW n s w).length : Int) (ints (wayW n s w)) 0 = some (ints (wayW n s w), Err.nil, ints (wayW n s w), ((wayW n s w).length : Int)) := by
    have := raw_eq N (wayW n s w) 0 (wayW n s w).length (by omega) (by omega)
    rw [List.drop_zero, List.take_of_length_le (Nat.le_refl _), Nat.zero_add] at this
    exact this
  rw [hra, pCall_s]
  simp only [errNil, Bool.not_true, Bool.not_false, pCallG_t, way_eq N hN n hn s hs, pCall_s, laid_eq N hN n hn s hs _ hbw, pLet_, pick_f]
  unfold bytes_Equal
  rw [pCall_s]
  by_cases he : w = bestW n s
  · rw [if_pos he, ← he, decide_eq_true rfl, Bool.not_true, pIf_f]
  · rw [if_neg he]
    have hne : ¬ toStr (ints (wayW n s w)) = toStr (ints (wayW n s (bestW n s))) := fun h => by
      have := toStr_inj (wayW_byte hn hs w) (wayW_byte hn hs _) h
      obtain ⟨r1, h1⟩ := wayW_head n s w hw
      obtain ⟨r2, h2⟩ := wayW_head n s _ hbw
      rw [h1, h2, List.cons.injEq] at this
      exact he this.1
    rw [decide_eq_false hne, Bool.not_false, pIf_t]
    rfl
end Go.Y
namespace Go.Y
open Go
end Go.Y
namespace Go.Y
open Go
section
variable (N : Nat) (hN : 5000 < N) (n : Nat) (hn : n ≤ 4096) (s : List Nat) (hs : Go.Y.Rise n 0 s)
  (k0 : (List Int) × (List Int) × Int × (List Int) × List Int → Option Bool) (k1 : Bool → Option Bool) (b : List Int) (v w : List Int)
include hN hn hs
theorem once_step (i : Nat) (hi : i ≤ 2) (fuel : Nat) (taken : Nat) (ht : taken ≤ 5) :
    avermentlaw03_BitsOnce_l10 N k0 k1 (fuel + 1) (n : Int) (ints s) b (taken : Int) (i : Int) v w [ints (wayW n s 0), ints (wayW n s 1), ints (wayW n s 2)] =
      avermentlaw03_BitsOnce_l10 N k0 k1 fuel (n : Int) (ints s) b ((if i = bestW n s then taken + 1 else taken : Nat) : Int) ((i + 1 : Nat) : Int) v w [ints (wayW n s 0), ints (wayW n s 1), ints (wayW n s 2)] := by
  have hl := Rise.len hs (by omega)
  have hget : [ints (wayW n s 0), ints (wayW n s 1), ints (wayW n s 2)][i]? = some (ints (wayW n s i)) := by
    match i, hi with
    | 0, _ => rfl
    | 1, _ => rfl
    | 2, _ => rfl
  have hwl := way_len N hN n hn s hs i
  have h3 : len [ints (wayW n s 0), ints (wayW n s 1), ints (wayW n s 2)] = 3 := rfl
  rw [avermentlaw03_BitsOnce_l10, decide_eq_true (show (i : Int) < 3 by omega), pIf_t, h3, show (decide (0 ≤ (i : Int)) && decide ((i : Int) < 3)) = true by simp only [Bool.and_eq_true, decide_eq_true_eq]; omega, pCk_t, pIdx_nat hget]
  have hrd : wire_Read N (ints (wayW n s i)) = some (ints (wayW n s i), 0) := read_eq N _ (by omega)
  rw [hrd, pCall_s, read_eq2 N hN n hn s hs i hi]
  by_cases he : i = bestW n s
  · rw [if_pos he, if_pos he, pCall_s, pJoin_]
    simp only [errNil, pIf_t]
    rw [ref01_Same_ok N _ _ (by rw [ints_len]; omega) (by rw [ints_len]; omega), pCall_s, decide_eq_true rfl, Bool.not_true, pIf_f]
    rw [wr_succ (m := 10) (by omega) (by omega), wr_succ (m := 10) (by omega) (by omega)]
  · rw [if_neg he, if_neg he, pCall_s, pJoin_]
    simp only [errNil, pIf_f]
    rw [show fault_Is N (Err.at 0 (Err.no 3)) 3 = some true from rfl, pCall_s, Bool.not_true, pIf_f]
    rw [wr_succ (m := 10) (by omega) (by omega)]
theorem once_run : avermentlaw03_BitsOnce_l10 N k0 k1 N (n : Int) (ints s) b 0 0 v w [ints (wayW n s 0), ints (wayW n s 1), ints (wayW n s 2)] = k0 (ints s, b, 1, v, w) := by
  obtain ⟨M, rfl⟩ : ∃ M, N = M + 4 := ⟨N - 4, by omega⟩
  have hb := bestW_le _ hN n hn s hs
  have h0 := once_step _ hN n hn s hs k0 k1 b v w 0 (by omega) (M + 3) 0 (by omega)
  have h0 : avermentlaw03_BitsOnce_l10 (M + 4) k0 k1 (M + 4) (n : Int) (ints s) b 0 0 v w [ints (wayW n s 0), ints (wayW n s 1), ints (wayW n s 2)] = _ := h0
  rw [h0, once_step _ hN n hn s hs k0 k1 b v w 1 (by omega) (M + 2) _ (by split <;> omega), once_step _ hN n hn s hs k0 k1 b v w 2 (by omega) (M + 1) _ (by split <;> split <;> omega)]
  rw [avermentlaw03_BitsOnce_l10, show decide (((2 + 1 : Nat) : Int) < 3) = false from rfl, pIf_f]
  have : (if 2 = bestW n s then (if 1 = bestW n s then (if 0 = bestW n s then 0 + 1 else 0) + 1 else if 0 = bestW n s then 0 + 1 else 0) + 1 else if 1 = bestW n s then (if 0 = bestW n s then 0 + 1 else 0) + 1 else if 0 = bestW n s then 0 + 1 else 0) = 1 := by
    generalize bestW n s = w at hb
    match w, hb with
    | 0, _ => rfl
    | 1, _ => rfl
    | 2, _ => rfl
  rw [this]
  rfl
end
theorem BitsOnce_plain (n0 : Int) (x y : List Int) : ∃ N, avermentlaw03_BitsOnce N n0 x y = some true := by
  refine ⟨6000, ?_⟩
  have hlays := bits_lays 6000 rfl
  have hN : 5000 < 6000 := by omega
  revert hlays hN
  generalize 6000 = N
  intro hlays hN
  obtain ⟨k, hk, hk2⟩ := remI_nat n0 (n := 200) (by omega) (by omega)
  have hk : wr .i64 (remI (wr .u64 n0) 200) = (k : Int) := hk
  obtain ⟨n, hnk⟩ : ∃ n, n = 1 + k := ⟨_, rfl⟩
  have hn : n ≤ 4096 := by omega
  have hk3 : wr .i64 (1 + (k : Int)) = (n : Int) := by rw [wr_i64 (by omega) (by omega)]; omega
  obtain ⟨a, ha, has⟩ := set_rise N hN n hn x
  obtain ⟨b, hb, hbs⟩ := set_rise N hN n hn y
  have hal := Rise.len has (by omega)
  have hw : ∀ s : List Nat, Rise n 0 s → bits_Write N (n : Int) (ints s) [] = some (Err.nil, ints (wayW n s (bestW n s))) := fun s hs => by
    have := write_eq N hN n hn s hs [] (by simp)
    rwa [List.nil_append] at this
  have hla := way_len N hN n hn a has (bestW n a)
  have hlb := way_len N hN n hn b hbs (bestW n b)
  unfold avermentlaw03_BitsOnce
  simp only [hk, hk3]
  rw [ha, pCall_s, hb, pCall_s, show wire_New N = some [] from rfl, pCall_s, pCall_s, hw a has, pCall_s]
  simp only [errNil, Bool.not_true, Bool.not_false, pIf_t, hw b hbs, pCall_s, pLet_, pick_f, pIf_f, (plain_eq N hN n hn a has).2, rgaps_eq N hN n hn a has, rruns_eq N hN n hn a has]
  rw [show [ints (plainW n a), ints (gapsW a), ints (runsW a)] = [ints (wayW n a 0), ints (wayW n a 1), ints (wayW n a 2)] from rfl, once_run N hN n hn a has]
  simp only [hlays, pCall_s, pLet_, pick_t, decide_true, pIf_t, bytesB N _ (show (wayW n a (bestW n a)).length ≤ 100000 by omega), bytesB N _ (show (wayW n b (bestW n b)).length ≤ 100000 by omega), pCallG_t,
    ref01_Same_ok N (ints a) (ints b) (by rw [ints_len]; omega) (by rw [ints_len]; omega)]
  have hiff : toStr (ints (wayW n a (bestW n a))) = toStr (ints (wayW n b (bestW n b))) ↔ ints a = ints b := by
    constructor
    · intro h
      have h1 := toStr_inj (wayW_byte hn has _) (wayW_byte hn hbs _) h
      have h2 := body_eq N hN n hn a has _ (bestW_le N hN n hn a has)
      have h3 := body_eq N hN n hn b hbs _ (bestW_le N hN n hn b hbs)
      rw [h1] at h2
      rw [h2, Option.some.injEq, Prod.mk.injEq] at h3
      exact h3.1
    · intro h
      have hinj : ∀ a b : List Nat, ints a = ints b → a = b := by
        intro a
        induction a with
        | nil => intro b h; cases b with | nil => rfl | cons y b => simp [ints] at h
        | cons x a ih =>
          intro b h
          cases b with
          | nil => simp [ints] at h
          | cons y b =>
            simp only [ints, List.map_cons, List.cons.injEq] at h
            rw [ih b h.2, show x = y by omega]
      rw [hinj a b h]
  rw [decide_eq_decide.2 hiff, beq_self_eq_true]
end Go.Y
set_option maxRecDepth 100000
namespace Go.Proofs.YtgenmananhffoaaDoor
open Go.ChangeShapes Go.WideShapes Go.ChangeAt Go.RowKit Go.Y
theorem BitsOnce_own : ownKnob Tryd.prog.godebug = none := by kernel_rfl
theorem BitsOnce_laid : laidOutB Tryd.prog = true := by kernel_rfl
theorem BitsOnce_pure (x : (tupTy q4.ts).den) (h : Wf Tryd.prog.bytesOf (tupTy q4.ts) x) : ∃ N, q4.F N x = some true := BitsOnce_plain x.1 x.2.1 x.2.2
theorem BitsOnce_et : Tryd.prog.globalNamed "errors.errorType" = some 0 := by kernel_rfl
theorem BitsOnce_rt : (Tryd.prog.cutTypes.find? (·.1 == "internal/reflectlite.rtype")).map (·.2) = some 115 := by kernel_rfl
theorem BitsOnce_oneRow : ((List.range Tryd.prog.types.size).filter fun t => Tryd.prog.rowNamed t [101, 114, 114, 111, 114]) = [29] := by kernel_rfl
theorem BitsOnce_handle {W : World} (h : laidMetH Tryd.prog Rows.bitsOnceRow.laid W) : W.cell? ⟨0, 0, none⟩ = some (.iface 115 (.agg #[.pointer (some ⟨1, 29, none⟩)])) := by
  have h' : laidMet Tryd.prog [] W ∧ handlesMet Tryd.prog Rows.bitsOnceRow.laid W := h
  obtain ⟨name, u, ty, e1, e2, e3, e4, e5⟩ := h'.2 _ (List.mem_singleton.2 rfl)
  have en : name = [101, 114, 114, 111, 114] := (Option.some.inj e1).symm
  subst en
  obtain rfl := Option.some.inj (BitsOnce_rt.symm.trans e2)
  have hm : ty ∈ (List.range Tryd.prog.types.size).filter fun t => Tryd.prog.rowNamed t [101, 114, 114, 111, 114] := List.mem_filter.2 ⟨List.mem_range.2 e3, e4⟩
  rw [BitsOnce_oneRow] at hm
  obtain rfl := List.mem_singleton.1 hm
  have hh : typeHandle Tryd.prog 29 = .pointer (some ⟨1, 29, none⟩) := by kernel_rfl
  rw [hh] at e5
  simpa using World.var?_cell BitsOnce_et e5 0
noncomputable def BitsOnce_world (os : Os) : World :=
  let w0 := World.holding Tryd.prog os ⟨#[], #[], []⟩
  { w0 with heap := w0.heap.modify 0 fun
      | .cells _ t frozen => .cells #[.iface 115 (.agg #[.pointer (some ⟨1, 29, none⟩)])] t frozen
      | o => o }
theorem BitsOnce_met (os : Os) (args : Array Value) : laidMetH Tryd.prog Rows.bitsOnceRow.laid ((BitsOnce_world os).forCall (fun _ _ => 0) ⟨#[], args, []⟩).memory :=
  laidMetH_of_parts (laidMet_nil _ _) (by kernel_rfl)
theorem BitsOnce_lifted (os : Os) (started : os.Started) (H : Type) (enc : TypeId × Value → H) :
    ReturnsInHanded {} Tryd.checked os 4 .any (fun w args => (Rows.bitsOnceSpec.pre enc Tryd.prog Tryd.f4 Rows.bitsOnceRow.domain false w args ∧ laidMetH Tryd.prog Rows.bitsOnceRow.laid w) ∧ sizedMet enc Tryd.prog Tryd.f4 (OpenSpec.ofChange Rows.bitsOnceSpec) false w args)
      (Rows.bitsOnceSpec.post enc Tryd.prog Tryd.f4 false true false false) := by
  refine returnsInHanded_of_change_and (C := Tryd.checked) (X := fun w _ => laidMetH Tryd.prog Rows.bitsOnceRow.laid w) (fun _ _ _ hh h => h.of_heap hh) BitsOnce_own started (by kernel_rfl) Tryd.func4
    (ChangeSpec.witness_at (enc := enc) (C := Tryd.checked) (os := os) (X := fun w _ => laidMetH Tryd.prog Rows.bitsOnceRow.laid w) false (BitsOnce_world os) #[.int .i64 0, .slice none 0 0, .slice none 0 0] 8 rfl (by kernel_rfl) (by kernel_rfl) (by kernel_rfl) (by kernel_rfl) (by kernel_rfl) (BitsOnce_met os _)) ?_
  intro W base args ds gs before hval0 hW hcnd hsz0 hL _
  exact law_calls (P := Tryd.prog) (I := ids) (φ := phi Tryd.prog ids) (As := q4.ts) (F := fun N => q4.F N) (ins := q4.ins) (h0 := q4.jh) BitsOnce_laid (by kernel_rfl) rfl (fun ds h => match ds, h with | [_, _, _], _ => rfl) ⟨4, by kernel_rfl, by kernel_rfl⟩ (by kernel_rfl) (fun N => b4.ok N) BitsOnce_pure hval0 hW hsz0 (fun p hp => by
    obtain rfl := List.mem_singleton.1 hp
    exact BitsOnce_handle hL)
theorem BitsOnce_holds : Rows.BitsOnceSaid :=
  OpenClaim.holds_of_wide 4 Tryd.f4 rfl rfl rfl rfl rfl rfl rfl ⟨rfl, rfl, rfl, rfl, rfl⟩ rfl rfl rfl rfl rfl (by kernel_rfl) Tryd.func4 (by kernel_rfl)
    (of_decide_eq_true (by kernel_rfl)) (by unfold Func.isWrapper; first | (rw [if_pos (by decide +kernel)]; kernel_rfl) | (rw [if_neg (by decide +kernel)]; exact ⟨rfl, rfl⟩))
    (fun os started H enc _ => BitsOnce_lifted os started H enc)
theorem BitsOnce_card : Rows.BitsOnceCardSaid :=
  Claim7.holds_tied_plain_at .later [] [.handle] true Rows.bitsOnceCard.stood.harness true
    BitsOnce_holds (fun _ h => by cases h) (by kernel_rfl) (fun _ h => by cases h) bitsOnce_row_tie rfl ⟨rfl, rfl⟩ (by kernel_rfl) rfl
    (fun f fn hf hfn => by
      obtain rfl : f = 4 := Option.some.inj ((show Tryd.prog.funcNamed "averment/avermentlaw03.BitsOnce" = some 4 by kernel_rfl).symm.trans hf) |>.symm
      obtain rfl : fn = Tryd.f4 := (Option.some.inj (Tryd.func4.symm.trans hfn)).symm
      exact ⟨by kernel_rfl, fun j t ht => by
        have h : (Tryd.f4.params.toList.all fun t => !(Tryd.prog.wantsStandIn t)) = true := by kernel_rfl
        have hm : t ∈ Tryd.f4.params.toList := List.mem_of_getElem? (by simpa using ht)
        have := List.all_eq_true.1 h t hm
        exact (show Tryd.prog.wantsStandIn t = false by simpa using this)⟩)
    (by kernel_rfl)
#print axioms BitsOnce_card
end Go.Proofs.YtgenmananhffoaaDoor
