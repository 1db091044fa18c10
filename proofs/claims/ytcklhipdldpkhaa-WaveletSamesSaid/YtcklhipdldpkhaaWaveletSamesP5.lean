/- What the functions of this law compute, and their plain laws. Conditions: none. -/
import Derived.Test.YtcklhipdldpkhaaWaveletSamesP4
namespace Go.Proofs.Ytcklhipdldpkhaa.Rx
noncomputable section
open Go
set_option linter.unusedVariables false
set_option linter.unusedSimpArgs false
set_option maxRecDepth 100000
set_option maxHeartbeats 0
def N20 : Nat := 58
def F20 : Fns := JH 66 JxT (JH 65 Jyo (JH 64 s64 (F0)))
theorem Jm7 : Jy tau Try.prog F20 := (((JD).add JAK JAJ).add Jyp JAW).add JxU JAx
def Jds : Code := Qo (Try.f20.body.get!) [1, 1, 1, 0, 1, 0, 0]
def Yn : Nm := [(1, .any), (2, .any), (6, .any), (7, .own), (8, .any)]
def Zx : Nm := [(6, .any), (7, .any)]
def Jgg : An := (.seq (.seq .leaf (.cond .leaf .leaf)) (.seq (.block none (.seq .leaf (.seq .leaf (.seq .leaf (.cond .leaf .leaf))))) .leaf))
def Jpx (r0 : QE) : An := (.seq .leaf (.seq .leaf (.seq .leaf (.seq (.seq .leaf (.block none (.sum Yn N20 r0))) (.seq .leaf .leaf)))))
def Gx (f : Nat) (rc : Bool -> Bool -> List PV -> Nat -> Nat -> Int -> Bool -> Bool -> List PV -> Bool -> Bool -> List PV -> Bool -> Bool -> List PV -> List PV -> Bool -> List PV -> Option Res) (k0 : Nat -> Nat -> List PV -> Bool -> List PV -> Option Res) (v0 v1 : Bool) (v2 : List PV) (v3 v4 : Nat) (v5 : Int) (v6 v7 : Bool) (v8 : List PV) (v9 v10 : Bool) (v11 : List PV) (v12 v13 : Bool) (v14 v15 : List PV) (v16 : Bool) (v17 : List PV) : Option Res := bif decide (v5 < zi v2.length) then bif decide (0 <= v5) && decide (v5 < zi v2.length) && (PV.isSt 106 #[Field.mk "Kind" 3 0 false "" "" 0, Field.mk "By" 3 1 false "" "" 8, Field.mk "Who" 3 2 false "" "" 16, Field.mk "Ns" 55 3 false "" "" 24].size (v2.getD v5.toNat PV.top) && (PV.isInt IntKind.i64 (PV.child 0 (v2.getD v5.toNat PV.top)) && (PV.isInt IntKind.i64 (PV.child (0 + 1) (v2.getD v5.toNat PV.top)) && (PV.isInt IntKind.i64 (PV.child (0 + 1 + 1) (v2.getD v5.toNat PV.top)) && (PV.isRo 3 (PV.child (0 + 1 + 1 + 1) (v2.getD v5.toNat PV.top)) && true))))) && true then bif decide (0 <= IntKind.i64.wrap (zi v3 - 1)) && decide (IntKind.i64.wrap (zi v3 - 1) < zi v3) && true then bif PV.isSt 41 #[Field.mk "Id" 34 0 false "" "" 0, Field.mk "Doc" 9 2 false "" "" 16, Field.mk "People" 35 3 false "" "" 32, Field.mk "Version" 3 4 false "" "" 56, Field.mk "Hash" 37 5 false "" "" 64].size (Jb (v15.getD (0 + (IntKind.i64.wrap (zi v3 - 1)).toNat) PV.top) []) && (PV.isSt (Field.mk "Id" 34 0 false "" "" 0).type #[Field.mk "Host" 3 0 false "" "" 0, Field.mk "N" 3 1 false "" "" 8].size (PV.child 0 (Jb (v15.getD (0 + (IntKind.i64.wrap (zi v3 - 1)).toNat) PV.top) [])) && (PV.isInt IntKind.i64 (PV.child 0 (PV.child 0 (Jb (v15.getD (0 + (IntKind.i64.wrap (zi v3 - 1)).toNat) PV.top) []))) && (PV.isInt IntKind.i64 (PV.child (0 + 1) (PV.child 0 (Jb (v15.getD (0 + (IntKind.i64.wrap (zi v3 - 1)).toNat) PV.top) []))) && true)) && ((PV.child (0 + 1) (Jb (v15.getD (0 + (IntKind.i64.wrap (zi v3 - 1)).toNat) PV.top) [])).isStr && (PV.isRo 45 (PV.child (0 + 1 + 1) (Jb (v15.getD (0 + (IntKind.i64.wrap (zi v3 - 1)).toNat) PV.top) [])) && (PV.isInt IntKind.i64 (PV.child (0 + 1 + 1 + 1) (Jb (v15.getD (0 + (IntKind.i64.wrap (zi v3 - 1)).toNat) PV.top) [])) && (PV.isAr (Field.mk "Hash" 37 5 false "" "" 64).type (PV.child (0 + 1 + 1 + 1 + 1) (Jb (v15.getD (0 + (IntKind.i64.wrap (zi v3 - 1)).toNat) PV.top) [])) && true))))) && true then bif sOk (SV.mk (PV.child 0 (PV.child 0 (Jb (v15.getD (0 + (IntKind.i64.wrap (zi v3 - 1)).toNat) PV.top) []))).int (PV.child (0 + 1) (PV.child 0 (Jb (v15.getD (0 + (IntKind.i64.wrap (zi v3 - 1)).toNat) PV.top) []))).int (PV.child (0 + 1) (Jb (v15.getD (0 + (IntKind.i64.wrap (zi v3 - 1)).toNat) PV.top) [])).str (PV.child (0 + 1 + 1) (Jb (v15.getD (0 + (IntKind.i64.wrap (zi v3 - 1)).toNat) PV.top) [])).els (PV.child (0 + 1 + 1 + 1) (Jb (v15.getD (0 + (IntKind.i64.wrap (zi v3 - 1)).toNat) PV.top) [])).int (PV.child (0 + 1 + 1 + 1 + 1) (Jb (v15.getD (0 + (IntKind.i64.wrap (zi v3 - 1)).toNat) PV.top) [])).els) && Zw (SP.mk (PV.child 0 (v2.getD v5.toNat PV.top)).int (PV.child (0 + 1) (v2.getD v5.toNat PV.top)).int (PV.child (0 + 1 + 1) (v2.getD v5.toNat PV.top)).int (PV.child (0 + 1 + 1 + 1) (v2.getD v5.toNat PV.top)).els) && (kO3 [.ro 5 v6 v7 v8, .ro 5 v9 v10 v11, .ro 5 v12 v13 v14] && kIn (PV.child 0 (PV.child 0 (Jb (v15.getD (0 + (IntKind.i64.wrap (zi v3 - 1)).toNat) PV.top) []))).int) then bif decide (0 <= IntKind.i64.wrap (zi v3 - 1)) && decide (IntKind.i64.wrap (zi v3 - 1) < zi v3) && true then bif PV.isSt 41 #[Field.mk "Id" 34 0 false "" "" 0, Field.mk "Doc" 9 2 false "" "" 16, Field.mk "People" 35 3 false "" "" 32, Field.mk "Version" 3 4 false "" "" 56, Field.mk "Hash" 37 5 false "" "" 64].size (Jb (v15.getD (0 + (IntKind.i64.wrap (zi v3 - 1)).toNat) PV.top) []) && (PV.isSt (Field.mk "Id" 34 0 false "" "" 0).type #[Field.mk "Host" 3 0 false "" "" 0, Field.mk "N" 3 1 false "" "" 8].size (PV.child 0 (Jb (v15.getD (0 + (IntKind.i64.wrap (zi v3 - 1)).toNat) PV.top) [])) && (PV.isInt IntKind.i64 (PV.child 0 (PV.child 0 (Jb (v15.getD (0 + (IntKind.i64.wrap (zi v3 - 1)).toNat) PV.top) []))) && (PV.isInt IntKind.i64 (PV.child (0 + 1) (PV.child 0 (Jb (v15.getD (0 + (IntKind.i64.wrap (zi v3 - 1)).toNat) PV.top) []))) && true)) && ((PV.child (0 + 1) (Jb (v15.getD (0 + (IntKind.i64.wrap (zi v3 - 1)).toNat) PV.top) [])).isStr && (PV.isRo 45 (PV.child (0 + 1 + 1) (Jb (v15.getD (0 + (IntKind.i64.wrap (zi v3 - 1)).toNat) PV.top) [])) && (PV.isInt IntKind.i64 (PV.child (0 + 1 + 1 + 1) (Jb (v15.getD (0 + (IntKind.i64.wrap (zi v3 - 1)).toNat) PV.top) [])) && (PV.isAr (Field.mk "Hash" 37 5 false "" "" 64).type (PV.child (0 + 1 + 1 + 1 + 1) (Jb (v15.getD (0 + (IntKind.i64.wrap (zi v3 - 1)).toNat) PV.top) [])) && true))))) && true then bif sOk (SV.mk (PV.child 0 (PV.child 0 (Jb (v15.getD (0 + (IntKind.i64.wrap (zi v3 - 1)).toNat) PV.top) []))).int (PV.child (0 + 1) (PV.child 0 (Jb (v15.getD (0 + (IntKind.i64.wrap (zi v3 - 1)).toNat) PV.top) []))).int (PV.child (0 + 1) (Jb (v15.getD (0 + (IntKind.i64.wrap (zi v3 - 1)).toNat) PV.top) [])).str (PV.child (0 + 1 + 1) (Jb (v15.getD (0 + (IntKind.i64.wrap (zi v3 - 1)).toNat) PV.top) [])).els (PV.child (0 + 1 + 1 + 1) (Jb (v15.getD (0 + (IntKind.i64.wrap (zi v3 - 1)).toNat) PV.top) [])).int (PV.child (0 + 1 + 1 + 1 + 1) (Jb (v15.getD (0 + (IntKind.i64.wrap (zi v3 - 1)).toNat) PV.top) [])).els) && eD (EW.mk (seB (SX.mk (SP.mk (PV.child 0 (v2.getD v5.toNat PV.top)).int (PV.child (0 + 1) (v2.getD v5.toNat PV.top)).int (PV.child (0 + 1 + 1) (v2.getD v5.toNat PV.top)).int (PV.child (0 + 1 + 1 + 1) (v2.getD v5.toNat PV.top)).els) [.ro 5 v6 v7 v8, .ro 5 v9 v10 v11, .ro 5 v12 v13 v14] (SV.mk (PV.child 0 (PV.child 0 (Jb (v15.getD (0 + (IntKind.i64.wrap (zi v3 - 1)).toNat) PV.top) []))).int (PV.child (0 + 1) (PV.child 0 (Jb (v15.getD (0 + (IntKind.i64.wrap (zi v3 - 1)).toNat) PV.top) []))).int (PV.child (0 + 1) (Jb (v15.getD (0 + (IntKind.i64.wrap (zi v3 - 1)).toNat) PV.top) [])).str (PV.child (0 + 1 + 1) (Jb (v15.getD (0 + (IntKind.i64.wrap (zi v3 - 1)).toNat) PV.top) [])).els (PV.child (0 + 1 + 1 + 1) (Jb (v15.getD (0 + (IntKind.i64.wrap (zi v3 - 1)).toNat) PV.top) [])).int (PV.child (0 + 1 + 1 + 1 + 1) (Jb (v15.getD (0 + (IntKind.i64.wrap (zi v3 - 1)).toNat) PV.top) [])).els) v5)) (seS (SX.mk (SP.mk (PV.child 0 (v2.getD v5.toNat PV.top)).int (PV.child (0 + 1) (v2.getD v5.toNat PV.top)).int (PV.child (0 + 1 + 1) (v2.getD v5.toNat PV.top)).int (PV.child (0 + 1 + 1 + 1) (v2.getD v5.toNat PV.top)).els) [.ro 5 v6 v7 v8, .ro 5 v9 v10 v11, .ro 5 v12 v13 v14] (SV.mk (PV.child 0 (PV.child 0 (Jb (v15.getD (0 + (IntKind.i64.wrap (zi v3 - 1)).toNat) PV.top) []))).int (PV.child (0 + 1) (PV.child 0 (Jb (v15.getD (0 + (IntKind.i64.wrap (zi v3 - 1)).toNat) PV.top) []))).int (PV.child (0 + 1) (Jb (v15.getD (0 + (IntKind.i64.wrap (zi v3 - 1)).toNat) PV.top) [])).str (PV.child (0 + 1 + 1) (Jb (v15.getD (0 + (IntKind.i64.wrap (zi v3 - 1)).toNat) PV.top) [])).els (PV.child (0 + 1 + 1 + 1) (Jb (v15.getD (0 + (IntKind.i64.wrap (zi v3 - 1)).toNat) PV.top) [])).int (PV.child (0 + 1 + 1 + 1 + 1) (Jb (v15.getD (0 + (IntKind.i64.wrap (zi v3 - 1)).toNat) PV.top) [])).els) v5)) (PV.child (0 + 1 + 1 + 1) (Jb (v15.getD (0 + (IntKind.i64.wrap (zi v3 - 1)).toNat) PV.top) [])).int (seO (SX.mk (SP.mk (PV.child 0 (v2.getD v5.toNat PV.top)).int (PV.child (0 + 1) (v2.getD v5.toNat PV.top)).int (PV.child (0 + 1 + 1) (v2.getD v5.toNat PV.top)).int (PV.child (0 + 1 + 1 + 1) (v2.getD v5.toNat PV.top)).els) [.ro 5 v6 v7 v8, .ro 5 v9 v10 v11, .ro 5 v12 v13 v14] (SV.mk (PV.child 0 (PV.child 0 (Jb (v15.getD (0 + (IntKind.i64.wrap (zi v3 - 1)).toNat) PV.top) []))).int (PV.child (0 + 1) (PV.child 0 (Jb (v15.getD (0 + (IntKind.i64.wrap (zi v3 - 1)).toNat) PV.top) []))).int (PV.child (0 + 1) (Jb (v15.getD (0 + (IntKind.i64.wrap (zi v3 - 1)).toNat) PV.top) [])).str (PV.child (0 + 1 + 1) (Jb (v15.getD (0 + (IntKind.i64.wrap (zi v3 - 1)).toNat) PV.top) [])).els (PV.child (0 + 1 + 1 + 1) (Jb (v15.getD (0 + (IntKind.i64.wrap (zi v3 - 1)).toNat) PV.top) [])).int (PV.child (0 + 1 + 1 + 1 + 1) (Jb (v15.getD (0 + (IntKind.i64.wrap (zi v3 - 1)).toNat) PV.top) [])).els) v5)) (seH (SX.mk (SP.mk (PV.child 0 (v2.getD v5.toNat PV.top)).int (PV.child (0 + 1) (v2.getD v5.toNat PV.top)).int (PV.child (0 + 1 + 1) (v2.getD v5.toNat PV.top)).int (PV.child (0 + 1 + 1 + 1) (v2.getD v5.toNat PV.top)).els) [.ro 5 v6 v7 v8, .ro 5 v9 v10 v11, .ro 5 v12 v13 v14] (SV.mk (PV.child 0 (PV.child 0 (Jb (v15.getD (0 + (IntKind.i64.wrap (zi v3 - 1)).toNat) PV.top) []))).int (PV.child (0 + 1) (PV.child 0 (Jb (v15.getD (0 + (IntKind.i64.wrap (zi v3 - 1)).toNat) PV.top) []))).int (PV.child (0 + 1) (Jb (v15.getD (0 + (IntKind.i64.wrap (zi v3 - 1)).toNat) PV.top) [])).str (PV.child (0 + 1 + 1) (Jb (v15.getD (0 + (IntKind.i64.wrap (zi v3 - 1)).toNat) PV.top) [])).els (PV.child (0 + 1 + 1 + 1) (Jb (v15.getD (0 + (IntKind.i64.wrap (zi v3 - 1)).toNat) PV.top) [])).int (PV.child (0 + 1 + 1 + 1 + 1) (Jb (v15.getD (0 + (IntKind.i64.wrap (zi v3 - 1)).toNat) PV.top) [])).els) v5)) (seM (SX.mk (SP.mk (PV.child 0 (v2.getD v5.toNat PV.top)).int (PV.child (0 + 1) (v2.getD v5.toNat PV.top)).int (PV.child (0 + 1 + 1) (v2.getD v5.toNat PV.top)).int (PV.child (0 + 1 + 1 + 1) (v2.getD v5.toNat PV.top)).els) [.ro 5 v6 v7 v8, .ro 5 v9 v10 v11, .ro 5 v12 v13 v14] (SV.mk (PV.child 0 (PV.child 0 (Jb (v15.getD (0 + (IntKind.i64.wrap (zi v3 - 1)).toNat) PV.top) []))).int (PV.child (0 + 1) (PV.child 0 (Jb (v15.getD (0 + (IntKind.i64.wrap (zi v3 - 1)).toNat) PV.top) []))).int (PV.child (0 + 1) (Jb (v15.getD (0 + (IntKind.i64.wrap (zi v3 - 1)).toNat) PV.top) [])).str (PV.child (0 + 1 + 1) (Jb (v15.getD (0 + (IntKind.i64.wrap (zi v3 - 1)).toNat) PV.top) [])).els (PV.child (0 + 1 + 1 + 1) (Jb (v15.getD (0 + (IntKind.i64.wrap (zi v3 - 1)).toNat) PV.top) [])).int (PV.child (0 + 1 + 1 + 1 + 1) (Jb (v15.getD (0 + (IntKind.i64.wrap (zi v3 - 1)).toNat) PV.top) [])).els) v5))) then bif dsE (DX.mk (SV.mk (PV.child 0 (PV.child 0 (Jb (v15.getD (0 + (IntKind.i64.wrap (zi v3 - 1)).toNat) PV.top) []))).int (PV.child (0 + 1) (PV.child 0 (Jb (v15.getD (0 + (IntKind.i64.wrap (zi v3 - 1)).toNat) PV.top) []))).int (PV.child (0 + 1) (Jb (v15.getD (0 + (IntKind.i64.wrap (zi v3 - 1)).toNat) PV.top) [])).str (PV.child (0 + 1 + 1) (Jb (v15.getD (0 + (IntKind.i64.wrap (zi v3 - 1)).toNat) PV.top) [])).els (PV.child (0 + 1 + 1 + 1) (Jb (v15.getD (0 + (IntKind.i64.wrap (zi v3 - 1)).toNat) PV.top) [])).int (PV.child (0 + 1 + 1 + 1 + 1) (Jb (v15.getD (0 + (IntKind.i64.wrap (zi v3 - 1)).toNat) PV.top) [])).els) (EW.mk (seB (SX.mk (SP.mk (PV.child 0 (v2.getD v5.toNat PV.top)).int (PV.child (0 + 1) (v2.getD v5.toNat PV.top)).int (PV.child (0 + 1 + 1) (v2.getD v5.toNat PV.top)).int (PV.child (0 + 1 + 1 + 1) (v2.getD v5.toNat PV.top)).els) [.ro 5 v6 v7 v8, .ro 5 v9 v10 v11, .ro 5 v12 v13 v14] (SV.mk (PV.child 0 (PV.child 0 (Jb (v15.getD (0 + (IntKind.i64.wrap (zi v3 - 1)).toNat) PV.top) []))).int (PV.child (0 + 1) (PV.child 0 (Jb (v15.getD (0 + (IntKind.i64.wrap (zi v3 - 1)).toNat) PV.top) []))).int (PV.child (0 + 1) (Jb (v15.getD (0 + (IntKind.i64.wrap (zi v3 - 1)).toNat) PV.top) [])).str (PV.child (0 + 1 + 1) (Jb (v15.getD (0 + (IntKind.i64.wrap (zi v3 - 1)).toNat) PV.top) [])).els (PV.child (0 + 1 + 1 + 1) (Jb (v15.getD (0 + (IntKind.i64.wrap (zi v3 - 1)).toNat) PV.top) [])).int (PV.child (0 + 1 + 1 + 1 + 1) (Jb (v15.getD (0 + (IntKind.i64.wrap (zi v3 - 1)).toNat) PV.top) [])).els) v5)) (seS (SX.mk (SP.mk (PV.child 0 (v2.getD v5.toNat PV.top)).int (PV.child (0 + 1) (v2.getD v5.toNat PV.top)).int (PV.child (0 + 1 + 1) (v2.getD v5.toNat PV.top)).int (PV.child (0 + 1 + 1 + 1) (v2.getD v5.toNat PV.top)).els) [.ro 5 v6 v7 v8, .ro 5 v9 v10 v11, .ro 5 v12 v13 v14] (SV.mk (PV.child 0 (PV.child 0 (Jb (v15.getD (0 + (IntKind.i64.wrap (zi v3 - 1)).toNat) PV.top) []))).int (PV.child (0 + 1) (PV.child 0 (Jb (v15.getD (0 + (IntKind.i64.wrap (zi v3 - 1)).toNat) PV.top) []))).int (PV.child (0 + 1) (Jb (v15.getD (0 + (IntKind.i64.wrap (zi v3 - 1)).toNat) PV.top) [])).str (PV.child (0 + 1 + 1) (Jb (v15.getD (0 + (IntKind.i64.wrap (zi v3 - 1)).toNat) PV.top) [])).els (PV.child (0 + 1 + 1 + 1) (Jb (v15.getD (0 + (IntKind.i64.wrap (zi v3 - 1)).toNat) PV.top) [])).int (PV.child (0 + 1 + 1 + 1 + 1) (Jb (v15.getD (0 + (IntKind.i64.wrap (zi v3 - 1)).toNat) PV.top) [])).els) v5)) (PV.child (0 + 1 + 1 + 1) (Jb (v15.getD (0 + (IntKind.i64.wrap (zi v3 - 1)).toNat) PV.top) [])).int (seO (SX.mk (SP.mk (PV.child 0 (v2.getD v5.toNat PV.top)).int (PV.child (0 + 1) (v2.getD v5.toNat PV.top)).int (PV.child (0 + 1 + 1) (v2.getD v5.toNat PV.top)).int (PV.child (0 + 1 + 1 + 1) (v2.getD v5.toNat PV.top)).els) [.ro 5 v6 v7 v8, .ro 5 v9 v10 v11, .ro 5 v12 v13 v14] (SV.mk (PV.child 0 (PV.child 0 (Jb (v15.getD (0 + (IntKind.i64.wrap (zi v3 - 1)).toNat) PV.top) []))).int (PV.child (0 + 1) (PV.child 0 (Jb (v15.getD (0 + (IntKind.i64.wrap (zi v3 - 1)).toNat) PV.top) []))).int (PV.child (0 + 1) (Jb (v15.getD (0 + (IntKind.i64.wrap (zi v3 - 1)).toNat) PV.top) [])).str (PV.child (0 + 1 + 1) (Jb (v15.getD (0 + (IntKind.i64.wrap (zi v3 - 1)).toNat) PV.top) [])).els (PV.child (0 + 1 + 1 + 1) (Jb (v15.getD (0 + (IntKind.i64.wrap (zi v3 - 1)).toNat) PV.top) [])).int (PV.child (0 + 1 + 1 + 1 + 1) (Jb (v15.getD (0 + (IntKind.i64.wrap (zi v3 - 1)).toNat) PV.top) [])).els) v5)) (seH (SX.mk (SP.mk (PV.child 0 (v2.getD v5.toNat PV.top)).int (PV.child (0 + 1) (v2.getD v5.toNat PV.top)).int (PV.child (0 + 1 + 1) (v2.getD v5.toNat PV.top)).int (PV.child (0 + 1 + 1 + 1) (v2.getD v5.toNat PV.top)).els) [.ro 5 v6 v7 v8, .ro 5 v9 v10 v11, .ro 5 v12 v13 v14] (SV.mk (PV.child 0 (PV.child 0 (Jb (v15.getD (0 + (IntKind.i64.wrap (zi v3 - 1)).toNat) PV.top) []))).int (PV.child (0 + 1) (PV.child 0 (Jb (v15.getD (0 + (IntKind.i64.wrap (zi v3 - 1)).toNat) PV.top) []))).int (PV.child (0 + 1) (Jb (v15.getD (0 + (IntKind.i64.wrap (zi v3 - 1)).toNat) PV.top) [])).str (PV.child (0 + 1 + 1) (Jb (v15.getD (0 + (IntKind.i64.wrap (zi v3 - 1)).toNat) PV.top) [])).els (PV.child (0 + 1 + 1 + 1) (Jb (v15.getD (0 + (IntKind.i64.wrap (zi v3 - 1)).toNat) PV.top) [])).int (PV.child (0 + 1 + 1 + 1 + 1) (Jb (v15.getD (0 + (IntKind.i64.wrap (zi v3 - 1)).toNat) PV.top) [])).els) v5)) (seM (SX.mk (SP.mk (PV.child 0 (v2.getD v5.toNat PV.top)).int (PV.child (0 + 1) (v2.getD v5.toNat PV.top)).int (PV.child (0 + 1 + 1) (v2.getD v5.toNat PV.top)).int (PV.child (0 + 1 + 1 + 1) (v2.getD v5.toNat PV.top)).els) [.ro 5 v6 v7 v8, .ro 5 v9 v10 v11, .ro 5 v12 v13 v14] (SV.mk (PV.child 0 (PV.child 0 (Jb (v15.getD (0 + (IntKind.i64.wrap (zi v3 - 1)).toNat) PV.top) []))).int (PV.child (0 + 1) (PV.child 0 (Jb (v15.getD (0 + (IntKind.i64.wrap (zi v3 - 1)).toNat) PV.top) []))).int (PV.child (0 + 1) (Jb (v15.getD (0 + (IntKind.i64.wrap (zi v3 - 1)).toNat) PV.top) [])).str (PV.child (0 + 1 + 1) (Jb (v15.getD (0 + (IntKind.i64.wrap (zi v3 - 1)).toNat) PV.top) [])).els (PV.child (0 + 1 + 1 + 1) (Jb (v15.getD (0 + (IntKind.i64.wrap (zi v3 - 1)).toNat) PV.top) [])).int (PV.child (0 + 1 + 1 + 1 + 1) (Jb (v15.getD (0 + (IntKind.i64.wrap (zi v3 - 1)).toNat) PV.top) [])).els) v5)))) == 0 then bif Jk (v3 + 1) 96 && true then bif Jk (v4 + 1) 152 && true then rc v0 v1 v2 (v3 + 1) (v4 + 1) (IntKind.i64.wrap (v5 + 1)) v6 v7 v8 v9 v10 v11 v12 v13 v14 (List.take v3 v15 ++ [.st 41 [.st 34 [.sc (.int .i64 (PV.child 0 (PV.child 0 (Jb (v15.getD (0 + (IntKind.i64.wrap (zi v3 - 1)).toNat) PV.top) []))).int), .sc (.int .i64 (PV.child (0 + 1) (PV.child 0 (Jb (v15.getD (0 + (IntKind.i64.wrap (zi v3 - 1)).toNat) PV.top) []))).int)], .sc (.string (dsD (DX.mk (SV.mk (PV.child 0 (PV.child 0 (Jb (v15.getD (0 + (IntKind.i64.wrap (zi v3 - 1)).toNat) PV.top) []))).int (PV.child (0 + 1) (PV.child 0 (Jb (v15.getD (0 + (IntKind.i64.wrap (zi v3 - 1)).toNat) PV.top) []))).int (PV.child (0 + 1) (Jb (v15.getD (0 + (IntKind.i64.wrap (zi v3 - 1)).toNat) PV.top) [])).str (PV.child (0 + 1 + 1) (Jb (v15.getD (0 + (IntKind.i64.wrap (zi v3 - 1)).toNat) PV.top) [])).els (PV.child (0 + 1 + 1 + 1) (Jb (v15.getD (0 + (IntKind.i64.wrap (zi v3 - 1)).toNat) PV.top) [])).int (PV.child (0 + 1 + 1 + 1 + 1) (Jb (v15.getD (0 + (IntKind.i64.wrap (zi v3 - 1)).toNat) PV.top) [])).els) (EW.mk (seB (SX.mk (SP.mk (PV.child 0 (v2.getD v5.toNat PV.top)).int (PV.child (0 + 1) (v2.getD v5.toNat PV.top)).int (PV.child (0 + 1 + 1) (v2.getD v5.toNat PV.top)).int (PV.child (0 + 1 + 1 + 1) (v2.getD v5.toNat PV.top)).els) [.ro 5 v6 v7 v8, .ro 5 v9 v10 v11, .ro 5 v12 v13 v14] (SV.mk (PV.child 0 (PV.child 0 (Jb (v15.getD (0 + (IntKind.i64.wrap (zi v3 - 1)).toNat) PV.top) []))).int (PV.child (0 + 1) (PV.child 0 (Jb (v15.getD (0 + (IntKind.i64.wrap (zi v3 - 1)).toNat) PV.top) []))).int (PV.child (0 + 1) (Jb (v15.getD (0 + (IntKind.i64.wrap (zi v3 - 1)).toNat) PV.top) [])).str (PV.child (0 + 1 + 1) (Jb (v15.getD (0 + (IntKind.i64.wrap (zi v3 - 1)).toNat) PV.top) [])).els (PV.child (0 + 1 + 1 + 1) (Jb (v15.getD (0 + (IntKind.i64.wrap (zi v3 - 1)).toNat) PV.top) [])).int (PV.child (0 + 1 + 1 + 1 + 1) (Jb (v15.getD (0 + (IntKind.i64.wrap (zi v3 - 1)).toNat) PV.top) [])).els) v5)) (seS (SX.mk (SP.mk (PV.child 0 (v2.getD v5.toNat PV.top)).int (PV.child (0 + 1) (v2.getD v5.toNat PV.top)).int (PV.child (0 + 1 + 1) (v2.getD v5.toNat PV.top)).int (PV.child (0 + 1 + 1 + 1) (v2.getD v5.toNat PV.top)).els) [.ro 5 v6 v7 v8, .ro 5 v9 v10 v11, .ro 5 v12 v13 v14] (SV.mk (PV.child 0 (PV.child 0 (Jb (v15.getD (0 + (IntKind.i64.wrap (zi v3 - 1)).toNat) PV.top) []))).int (PV.child (0 + 1) (PV.child 0 (Jb (v15.getD (0 + (IntKind.i64.wrap (zi v3 - 1)).toNat) PV.top) []))).int (PV.child (0 + 1) (Jb (v15.getD (0 + (IntKind.i64.wrap (zi v3 - 1)).toNat) PV.top) [])).str (PV.child (0 + 1 + 1) (Jb (v15.getD (0 + (IntKind.i64.wrap (zi v3 - 1)).toNat) PV.top) [])).els (PV.child (0 + 1 + 1 + 1) (Jb (v15.getD (0 + (IntKind.i64.wrap (zi v3 - 1)).toNat) PV.top) [])).int (PV.child (0 + 1 + 1 + 1 + 1) (Jb (v15.getD (0 + (IntKind.i64.wrap (zi v3 - 1)).toNat) PV.top) [])).els) v5)) (PV.child (0 + 1 + 1 + 1) (Jb (v15.getD (0 + (IntKind.i64.wrap (zi v3 - 1)).toNat) PV.top) [])).int (seO (SX.mk (SP.mk (PV.child 0 (v2.getD v5.toNat PV.top)).int (PV.child (0 + 1) (v2.getD v5.toNat PV.top)).int (PV.child (0 + 1 + 1) (v2.getD v5.toNat PV.top)).int (PV.child (0 + 1 + 1 + 1) (v2.getD v5.toNat PV.top)).els) [.ro 5 v6 v7 v8, .ro 5 v9 v10 v11, .ro 5 v12 v13 v14] (SV.mk (PV.child 0 (PV.child 0 (Jb (v15.getD (0 + (IntKind.i64.wrap (zi v3 - 1)).toNat) PV.top) []))).int (PV.child (0 + 1) (PV.child 0 (Jb (v15.getD (0 + (IntKind.i64.wrap (zi v3 - 1)).toNat) PV.top) []))).int (PV.child (0 + 1) (Jb (v15.getD (0 + (IntKind.i64.wrap (zi v3 - 1)).toNat) PV.top) [])).str (PV.child (0 + 1 + 1) (Jb (v15.getD (0 + (IntKind.i64.wrap (zi v3 - 1)).toNat) PV.top) [])).els (PV.child (0 + 1 + 1 + 1) (Jb (v15.getD (0 + (IntKind.i64.wrap (zi v3 - 1)).toNat) PV.top) [])).int (PV.child (0 + 1 + 1 + 1 + 1) (Jb (v15.getD (0 + (IntKind.i64.wrap (zi v3 - 1)).toNat) PV.top) [])).els) v5)) (seH (SX.mk (SP.mk (PV.child 0 (v2.getD v5.toNat PV.top)).int (PV.child (0 + 1) (v2.getD v5.toNat PV.top)).int (PV.child (0 + 1 + 1) (v2.getD v5.toNat PV.top)).int (PV.child (0 + 1 + 1 + 1) (v2.getD v5.toNat PV.top)).els) [.ro 5 v6 v7 v8, .ro 5 v9 v10 v11, .ro 5 v12 v13 v14] (SV.mk (PV.child 0 (PV.child 0 (Jb (v15.getD (0 + (IntKind.i64.wrap (zi v3 - 1)).toNat) PV.top) []))).int (PV.child (0 + 1) (PV.child 0 (Jb (v15.getD (0 + (IntKind.i64.wrap (zi v3 - 1)).toNat) PV.top) []))).int (PV.child (0 + 1) (Jb (v15.getD (0 + (IntKind.i64.wrap (zi v3 - 1)).toNat) PV.top) [])).str (PV.child (0 + 1 + 1) (Jb (v15.getD (0 + (IntKind.i64.wrap (zi v3 - 1)).toNat) PV.top) [])).els (PV.child (0 + 1 + 1 + 1) (Jb (v15.getD (0 + (IntKind.i64.wrap (zi v3 - 1)).toNat) PV.top) [])).int (PV.child (0 + 1 + 1 + 1 + 1) (Jb (v15.getD (0 + (IntKind.i64.wrap (zi v3 - 1)).toNat) PV.top) [])).els) v5)) (seM (SX.mk (SP.mk (PV.child 0 (v2.getD v5.toNat PV.top)).int (PV.child (0 + 1) (v2.getD v5.toNat PV.top)).int (PV.child (0 + 1 + 1) (v2.getD v5.toNat PV.top)).int (PV.child (0 + 1 + 1 + 1) (v2.getD v5.toNat PV.top)).els) [.ro 5 v6 v7 v8, .ro 5 v9 v10 v11, .ro 5 v12 v13 v14] (SV.mk (PV.child 0 (PV.child 0 (Jb (v15.getD (0 + (IntKind.i64.wrap (zi v3 - 1)).toNat) PV.top) []))).int (PV.child (0 + 1) (PV.child 0 (Jb (v15.getD (0 + (IntKind.i64.wrap (zi v3 - 1)).toNat) PV.top) []))).int (PV.child (0 + 1) (Jb (v15.getD (0 + (IntKind.i64.wrap (zi v3 - 1)).toNat) PV.top) [])).str (PV.child (0 + 1 + 1) (Jb (v15.getD (0 + (IntKind.i64.wrap (zi v3 - 1)).toNat) PV.top) [])).els (PV.child (0 + 1 + 1 + 1) (Jb (v15.getD (0 + (IntKind.i64.wrap (zi v3 - 1)).toNat) PV.top) [])).int (PV.child (0 + 1 + 1 + 1 + 1) (Jb (v15.getD (0 + (IntKind.i64.wrap (zi v3 - 1)).toNat) PV.top) [])).els) v5)))))), .ro 45 (dsZ (DX.mk (SV.mk (PV.child 0 (PV.child 0 (Jb (v15.getD (0 + (IntKind.i64.wrap (zi v3 - 1)).toNat) PV.top) []))).int (PV.child (0 + 1) (PV.child 0 (Jb (v15.getD (0 + (IntKind.i64.wrap (zi v3 - 1)).toNat) PV.top) []))).int (PV.child (0 + 1) (Jb (v15.getD (0 + (IntKind.i64.wrap (zi v3 - 1)).toNat) PV.top) [])).str (PV.child (0 + 1 + 1) (Jb (v15.getD (0 + (IntKind.i64.wrap (zi v3 - 1)).toNat) PV.top) [])).els (PV.child (0 + 1 + 1 + 1) (Jb (v15.getD (0 + (IntKind.i64.wrap (zi v3 - 1)).toNat) PV.top) [])).int (PV.child (0 + 1 + 1 + 1 + 1) (Jb (v15.getD (0 + (IntKind.i64.wrap (zi v3 - 1)).toNat) PV.top) [])).els) (EW.mk (seB (SX.mk (SP.mk (PV.child 0 (v2.getD v5.toNat PV.top)).int (PV.child (0 + 1) (v2.getD v5.toNat PV.top)).int (PV.child (0 + 1 + 1) (v2.getD v5.toNat PV.top)).int (PV.child (0 + 1 + 1 + 1) (v2.getD v5.toNat PV.top)).els) [.ro 5 v6 v7 v8, .ro 5 v9 v10 v11, .ro 5 v12 v13 v14] (SV.mk (PV.child 0 (PV.child 0 (Jb (v15.getD (0 + (IntKind.i64.wrap (zi v3 - 1)).toNat) PV.top) []))).int (PV.child (0 + 1) (PV.child 0 (Jb (v15.getD (0 + (IntKind.i64.wrap (zi v3 - 1)).toNat) PV.top) []))).int (PV.child (0 + 1) (Jb (v15.getD (0 + (IntKind.i64.wrap (zi v3 - 1)).toNat) PV.top) [])).str (PV.child (0 + 1 + 1) (Jb (v15.getD (0 + (IntKind.i64.wrap (zi v3 - 1)).toNat) PV.top) [])).els (PV.child (0 + 1 + 1 + 1) (Jb (v15.getD (0 + (IntKind.i64.wrap (zi v3 - 1)).toNat) PV.top) [])).int (PV.child (0 + 1 + 1 + 1 + 1) (Jb (v15.getD (0 + (IntKind.i64.wrap (zi v3 - 1)).toNat) PV.top) [])).els) v5)) (seS (SX.mk (SP.mk (PV.child 0 (v2.getD v5.toNat PV.top)).int (PV.child (0 + 1) (v2.getD v5.toNat PV.top)).int (PV.child (0 + 1 + 1) (v2.getD v5.toNat PV.top)).int (PV.child (0 + 1 + 1 + 1) (v2.getD v5.toNat PV.top)).els) [.ro 5 v6 v7 v8, .ro 5 v9 v10 v11, .ro 5 v12 v13 v14] (SV.mk (PV.child 0 (PV.child 0 (Jb (v15.getD (0 + (IntKind.i64.wrap (zi v3 - 1)).toNat) PV.top) []))).int (PV.child (0 + 1) (PV.child 0 (Jb (v15.getD (0 + (IntKind.i64.wrap (zi v3 - 1)).toNat) PV.top) []))).int (PV.child (0 + 1) (Jb (v15.getD (0 + (IntKind.i64.wrap (zi v3 - 1)).toNat) PV.top) [])).str (PV.child (0 + 1 + 1) (Jb (v15.getD (0 + (IntKind.i64.wrap (zi v3 - 1)).toNat) PV.top) [])).els (PV.child (0 + 1 + 1 + 1) (Jb (v15.getD (0 + (IntKind.i64.wrap (zi v3 - 1)).toNat) PV.top) [])).int (PV.child (0 + 1 + 1 + 1 + 1) (Jb (v15.getD (0 + (IntKind.i64.wrap (zi v3 - 1)).toNat) PV.top) [])).els) v5)) (PV.child (0 + 1 + 1 + 1) (Jb (v15.getD (0 + (IntKind.i64.wrap (zi v3 - 1)).toNat) PV.top) [])).int (seO (SX.mk (SP.mk (PV.child 0 (v2.getD v5.toNat PV.top)).int (PV.child (0 + 1) (v2.getD v5.toNat PV.top)).int (PV.child (0 + 1 + 1) (v2.getD v5.toNat PV.top)).int (PV.child (0 + 1 + 1 + 1) (v2.getD v5.toNat PV.top)).els) [.ro 5 v6 v7 v8, .ro 5 v9 v10 v11, .ro 5 v12 v13 v14] (SV.mk (PV.child 0 (PV.child 0 (Jb (v15.getD (0 + (IntKind.i64.wrap (zi v3 - 1)).toNat) PV.top) []))).int (PV.child (0 + 1) (PV.child 0 (Jb (v15.getD (0 + (IntKind.i64.wrap (zi v3 - 1)).toNat) PV.top) []))).int (PV.child (0 + 1) (Jb (v15.getD (0 + (IntKind.i64.wrap (zi v3 - 1)).toNat) PV.top) [])).str (PV.child (0 + 1 + 1) (Jb (v15.getD (0 + (IntKind.i64.wrap (zi v3 - 1)).toNat) PV.top) [])).els (PV.child (0 + 1 + 1 + 1) (Jb (v15.getD (0 + (IntKind.i64.wrap (zi v3 - 1)).toNat) PV.top) [])).int (PV.child (0 + 1 + 1 + 1 + 1) (Jb (v15.getD (0 + (IntKind.i64.wrap (zi v3 - 1)).toNat) PV.top) [])).els) v5)) (seH (SX.mk (SP.mk (PV.child 0 (v2.getD v5.toNat PV.top)).int (PV.child (0 + 1) (v2.getD v5.toNat PV.top)).int (PV.child (0 + 1 + 1) (v2.getD v5.toNat PV.top)).int (PV.child (0 + 1 + 1 + 1) (v2.getD v5.toNat PV.top)).els) [.ro 5 v6 v7 v8, .ro 5 v9 v10 v11, .ro 5 v12 v13 v14] (SV.mk (PV.child 0 (PV.child 0 (Jb (v15.getD (0 + (IntKind.i64.wrap (zi v3 - 1)).toNat) PV.top) []))).int (PV.child (0 + 1) (PV.child 0 (Jb (v15.getD (0 + (IntKind.i64.wrap (zi v3 - 1)).toNat) PV.top) []))).int (PV.child (0 + 1) (Jb (v15.getD (0 + (IntKind.i64.wrap (zi v3 - 1)).toNat) PV.top) [])).str (PV.child (0 + 1 + 1) (Jb (v15.getD (0 + (IntKind.i64.wrap (zi v3 - 1)).toNat) PV.top) [])).els (PV.child (0 + 1 + 1 + 1) (Jb (v15.getD (0 + (IntKind.i64.wrap (zi v3 - 1)).toNat) PV.top) [])).int (PV.child (0 + 1 + 1 + 1 + 1) (Jb (v15.getD (0 + (IntKind.i64.wrap (zi v3 - 1)).toNat) PV.top) [])).els) v5)) (seM (SX.mk (SP.mk (PV.child 0 (v2.getD v5.toNat PV.top)).int (PV.child (0 + 1) (v2.getD v5.toNat PV.top)).int (PV.child (0 + 1 + 1) (v2.getD v5.toNat PV.top)).int (PV.child (0 + 1 + 1 + 1) (v2.getD v5.toNat PV.top)).els) [.ro 5 v6 v7 v8, .ro 5 v9 v10 v11, .ro 5 v12 v13 v14] (SV.mk (PV.child 0 (PV.child 0 (Jb (v15.getD (0 + (IntKind.i64.wrap (zi v3 - 1)).toNat) PV.top) []))).int (PV.child (0 + 1) (PV.child 0 (Jb (v15.getD (0 + (IntKind.i64.wrap (zi v3 - 1)).toNat) PV.top) []))).int (PV.child (0 + 1) (Jb (v15.getD (0 + (IntKind.i64.wrap (zi v3 - 1)).toNat) PV.top) [])).str (PV.child (0 + 1 + 1) (Jb (v15.getD (0 + (IntKind.i64.wrap (zi v3 - 1)).toNat) PV.top) [])).els (PV.child (0 + 1 + 1 + 1) (Jb (v15.getD (0 + (IntKind.i64.wrap (zi v3 - 1)).toNat) PV.top) [])).int (PV.child (0 + 1 + 1 + 1 + 1) (Jb (v15.getD (0 + (IntKind.i64.wrap (zi v3 - 1)).toNat) PV.top) [])).els) v5)))) (PV.child (0 + 1 + 1) (Jb (v15.getD (0 + (IntKind.i64.wrap (zi v3 - 1)).toNat) PV.top) [])).nl) (dsF (DX.mk (SV.mk (PV.child 0 (PV.child 0 (Jb (v15.getD (0 + (IntKind.i64.wrap (zi v3 - 1)).toNat) PV.top) []))).int (PV.child (0 + 1) (PV.child 0 (Jb (v15.getD (0 + (IntKind.i64.wrap (zi v3 - 1)).toNat) PV.top) []))).int (PV.child (0 + 1) (Jb (v15.getD (0 + (IntKind.i64.wrap (zi v3 - 1)).toNat) PV.top) [])).str (PV.child (0 + 1 + 1) (Jb (v15.getD (0 + (IntKind.i64.wrap (zi v3 - 1)).toNat) PV.top) [])).els (PV.child (0 + 1 + 1 + 1) (Jb (v15.getD (0 + (IntKind.i64.wrap (zi v3 - 1)).toNat) PV.top) [])).int (PV.child (0 + 1 + 1 + 1 + 1) (Jb (v15.getD (0 + (IntKind.i64.wrap (zi v3 - 1)).toNat) PV.top) [])).els) (EW.mk (seB (SX.mk (SP.mk (PV.child 0 (v2.getD v5.toNat PV.top)).int (PV.child (0 + 1) (v2.getD v5.toNat PV.top)).int (PV.child (0 + 1 + 1) (v2.getD v5.toNat PV.top)).int (PV.child (0 + 1 + 1 + 1) (v2.getD v5.toNat PV.top)).els) [.ro 5 v6 v7 v8, .ro 5 v9 v10 v11, .ro 5 v12 v13 v14] (SV.mk (PV.child 0 (PV.child 0 (Jb (v15.getD (0 + (IntKind.i64.wrap (zi v3 - 1)).toNat) PV.top) []))).int (PV.child (0 + 1) (PV.child 0 (Jb (v15.getD (0 + (IntKind.i64.wrap (zi v3 - 1)).toNat) PV.top) []))).int (PV.child (0 + 1) (Jb (v15.getD (0 + (IntKind.i64.wrap (zi v3 - 1)).toNat) PV.top) [])).str (PV.child (0 + 1 + 1) (Jb (v15.getD (0 + (IntKind.i64.wrap (zi v3 - 1)).toNat) PV.top) [])).els (PV.child (0 + 1 + 1 + 1) (Jb (v15.getD (0 + (IntKind.i64.wrap (zi v3 - 1)).toNat) PV.top) [])).int (PV.child (0 + 1 + 1 + 1 + 1) (Jb (v15.getD (0 + (IntKind.i64.wrap (zi v3 - 1)).toNat) PV.top) [])).els) v5)) (seS (SX.mk (SP.mk (PV.child 0 (v2.getD v5.toNat PV.top)).int (PV.child (0 + 1) (v2.getD v5.toNat PV.top)).int (PV.child (0 + 1 + 1) (v2.getD v5.toNat PV.top)).int (PV.child (0 + 1 + 1 + 1) (v2.getD v5.toNat PV.top)).els) [.ro 5 v6 v7 v8, .ro 5 v9 v10 v11, .ro 5 v12 v13 v14] (SV.mk (PV.child 0 (PV.child 0 (Jb (v15.getD (0 + (IntKind.i64.wrap (zi v3 - 1)).toNat) PV.top) []))).int (PV.child (0 + 1) (PV.child 0 (Jb (v15.getD (0 + (IntKind.i64.wrap (zi v3 - 1)).toNat) PV.top) []))).int (PV.child (0 + 1) (Jb (v15.getD (0 + (IntKind.i64.wrap (zi v3 - 1)).toNat) PV.top) [])).str (PV.child (0 + 1 + 1) (Jb (v15.getD (0 + (IntKind.i64.wrap (zi v3 - 1)).toNat) PV.top) [])).els (PV.child (0 + 1 + 1 + 1) (Jb (v15.getD (0 + (IntKind.i64.wrap (zi v3 - 1)).toNat) PV.top) [])).int (PV.child (0 + 1 + 1 + 1 + 1) (Jb (v15.getD (0 + (IntKind.i64.wrap (zi v3 - 1)).toNat) PV.top) [])).els) v5)) (PV.child (0 + 1 + 1 + 1) (Jb (v15.getD (0 + (IntKind.i64.wrap (zi v3 - 1)).toNat) PV.top) [])).int (seO (SX.mk (SP.mk (PV.child 0 (v2.getD v5.toNat PV.top)).int (PV.child (0 + 1) (v2.getD v5.toNat PV.top)).int (PV.child (0 + 1 + 1) (v2.getD v5.toNat PV.top)).int (PV.child (0 + 1 + 1 + 1) (v2.getD v5.toNat PV.top)).els) [.ro 5 v6 v7 v8, .ro 5 v9 v10 v11, .ro 5 v12 v13 v14] (SV.mk (PV.child 0 (PV.child 0 (Jb (v15.getD (0 + (IntKind.i64.wrap (zi v3 - 1)).toNat) PV.top) []))).int (PV.child (0 + 1) (PV.child 0 (Jb (v15.getD (0 + (IntKind.i64.wrap (zi v3 - 1)).toNat) PV.top) []))).int (PV.child (0 + 1) (Jb (v15.getD (0 + (IntKind.i64.wrap (zi v3 - 1)).toNat) PV.top) [])).str (PV.child (0 + 1 + 1) (Jb (v15.getD (0 + (IntKind.i64.wrap (zi v3 - 1)).toNat) PV.top) [])).els (PV.child (0 + 1 + 1 + 1) (Jb (v15.getD (0 + (IntKind.i64.wrap (zi v3 - 1)).toNat) PV.top) [])).int (PV.child (0 + 1 + 1 + 1 + 1) (Jb (v15.getD (0 + (IntKind.i64.wrap (zi v3 - 1)).toNat) PV.top) [])).els) v5)) (seH (SX.mk (SP.mk (PV.child 0 (v2.getD v5.toNat PV.top)).int (PV.child (0 + 1) (v2.getD v5.toNat PV.top)).int (PV.child (0 + 1 + 1) (v2.getD v5.toNat PV.top)).int (PV.child (0 + 1 + 1 + 1) (v2.getD v5.toNat PV.top)).els) [.ro 5 v6 v7 v8, .ro 5 v9 v10 v11, .ro 5 v12 v13 v14] (SV.mk (PV.child 0 (PV.child 0 (Jb (v15.getD (0 + (IntKind.i64.wrap (zi v3 - 1)).toNat) PV.top) []))).int (PV.child (0 + 1) (PV.child 0 (Jb (v15.getD (0 + (IntKind.i64.wrap (zi v3 - 1)).toNat) PV.top) []))).int (PV.child (0 + 1) (Jb (v15.getD (0 + (IntKind.i64.wrap (zi v3 - 1)).toNat) PV.top) [])).str (PV.child (0 + 1 + 1) (Jb (v15.getD (0 + (IntKind.i64.wrap (zi v3 - 1)).toNat) PV.top) [])).els (PV.child (0 + 1 + 1 + 1) (Jb (v15.getD (0 + (IntKind.i64.wrap (zi v3 - 1)).toNat) PV.top) [])).int (PV.child (0 + 1 + 1 + 1 + 1) (Jb (v15.getD (0 + (IntKind.i64.wrap (zi v3 - 1)).toNat) PV.top) [])).els) v5)) (seM (SX.mk (SP.mk (PV.child 0 (v2.getD v5.toNat PV.top)).int (PV.child (0 + 1) (v2.getD v5.toNat PV.top)).int (PV.child (0 + 1 + 1) (v2.getD v5.toNat PV.top)).int (PV.child (0 + 1 + 1 + 1) (v2.getD v5.toNat PV.top)).els) [.ro 5 v6 v7 v8, .ro 5 v9 v10 v11, .ro 5 v12 v13 v14] (SV.mk (PV.child 0 (PV.child 0 (Jb (v15.getD (0 + (IntKind.i64.wrap (zi v3 - 1)).toNat) PV.top) []))).int (PV.child (0 + 1) (PV.child 0 (Jb (v15.getD (0 + (IntKind.i64.wrap (zi v3 - 1)).toNat) PV.top) []))).int (PV.child (0 + 1) (Jb (v15.getD (0 + (IntKind.i64.wrap (zi v3 - 1)).toNat) PV.top) [])).str (PV.child (0 + 1 + 1) (Jb (v15.getD (0 + (IntKind.i64.wrap (zi v3 - 1)).toNat) PV.top) [])).els (PV.child (0 + 1 + 1 + 1) (Jb (v15.getD (0 + (IntKind.i64.wrap (zi v3 - 1)).toNat) PV.top) [])).int (PV.child (0 + 1 + 1 + 1 + 1) (Jb (v15.getD (0 + (IntKind.i64.wrap (zi v3 - 1)).toNat) PV.top) [])).els) v5)))) (PV.child (0 + 1 + 1) (Jb (v15.getD (0 + (IntKind.i64.wrap (zi v3 - 1)).toNat) PV.top) [])).fl) (dsL (DX.mk (SV.mk (PV.child 0 (PV.child 0 (Jb (v15.getD (0 + (IntKind.i64.wrap (zi v3 - 1)).toNat) PV.top) []))).int (PV.child (0 + 1) (PV.child 0 (Jb (v15.getD (0 + (IntKind.i64.wrap (zi v3 - 1)).toNat) PV.top) []))).int (PV.child (0 + 1) (Jb (v15.getD (0 + (IntKind.i64.wrap (zi v3 - 1)).toNat) PV.top) [])).str (PV.child (0 + 1 + 1) (Jb (v15.getD (0 + (IntKind.i64.wrap (zi v3 - 1)).toNat) PV.top) [])).els (PV.child (0 + 1 + 1 + 1) (Jb (v15.getD (0 + (IntKind.i64.wrap (zi v3 - 1)).toNat) PV.top) [])).int (PV.child (0 + 1 + 1 + 1 + 1) (Jb (v15.getD (0 + (IntKind.i64.wrap (zi v3 - 1)).toNat) PV.top) [])).els) (EW.mk (seB (SX.mk (SP.mk (PV.child 0 (v2.getD v5.toNat PV.top)).int (PV.child (0 + 1) (v2.getD v5.toNat PV.top)).int (PV.child (0 + 1 + 1) (v2.getD v5.toNat PV.top)).int (PV.child (0 + 1 + 1 + 1) (v2.getD v5.toNat PV.top)).els) [.ro 5 v6 v7 v8, .ro 5 v9 v10 v11, .ro 5 v12 v13 v14] (SV.mk (PV.child 0 (PV.child 0 (Jb (v15.getD (0 + (IntKind.i64.wrap (zi v3 - 1)).toNat) PV.top) []))).int (PV.child (0 + 1) (PV.child 0 (Jb (v15.getD (0 + (IntKind.i64.wrap (zi v3 - 1)).toNat) PV.top) []))).int (PV.child (0 + 1) (Jb (v15.getD (0 + (IntKind.i64.wrap (zi v3 - 1)).toNat) PV.top) [])).str (PV.child (0 + 1 + 1) (Jb (v15.getD (0 + (IntKind.i64.wrap (zi v3 - 1)).toNat) PV.top) [])).els (PV.child (0 + 1 + 1 + 1) (Jb (v15.getD (0 + (IntKind.i64.wrap (zi v3 - 1)).toNat) PV.top) [])).int (PV.child (0 + 1 + 1 + 1 + 1) (Jb (v15.getD (0 + (IntKind.i64.wrap (zi v3 - 1)).toNat) PV.top) [])).els) v5)) (seS (SX.mk (SP.mk (PV.child 0 (v2.getD v5.toNat PV.top)).int (PV.child (0 + 1) (v2.getD v5.toNat PV.top)).int (PV.child (0 + 1 + 1) (v2.getD v5.toNat PV.top)).int (PV.child (0 + 1 + 1 + 1) (v2.getD v5.toNat PV.top)).els) [.ro 5 v6 v7 v8, .ro 5 v9 v10 v11, .ro 5 v12 v13 v14] (SV.mk (PV.child 0 (PV.child 0 (Jb (v15.getD (0 + (IntKind.i64.wrap (zi v3 - 1)).toNat) PV.top) []))).int (PV.child (0 + 1) (PV.child 0 (Jb (v15.getD (0 + (IntKind.i64.wrap (zi v3 - 1)).toNat) PV.top) []))).int (PV.child (0 + 1) (Jb (v15.getD (0 + (IntKind.i64.wrap (zi v3 - 1)).toNat) PV.top) [])).str (PV.child (0 + 1 + 1) (Jb (v15.getD (0 + (IntKind.i64.wrap (zi v3 - 1)).toNat) PV.top) [])).els (PV.child (0 + 1 + 1 + 1) (Jb (v15.getD (0 + (IntKind.i64.wrap (zi v3 - 1)).toNat) PV.top) [])).int (PV.child (0 + 1 + 1 + 1 + 1) (Jb (v15.getD (0 + (IntKind.i64.wrap (zi v3 - 1)).toNat) PV.top) [])).els) v5)) (PV.child (0 + 1 + 1 + 1) (Jb (v15.getD (0 + (IntKind.i64.wrap (zi v3 - 1)).toNat) PV.top) [])).int (seO (SX.mk (SP.mk (PV.child 0 (v2.getD v5.toNat PV.top)).int (PV.child (0 + 1) (v2.getD v5.toNat PV.top)).int (PV.child (0 + 1 + 1) (v2.getD v5.toNat PV.top)).int (PV.child (0 + 1 + 1 + 1) (v2.getD v5.toNat PV.top)).els) [.ro 5 v6 v7 v8, .ro 5 v9 v10 v11, .ro 5 v12 v13 v14] (SV.mk (PV.child 0 (PV.child 0 (Jb (v15.getD (0 + (IntKind.i64.wrap (zi v3 - 1)).toNat) PV.top) []))).int (PV.child (0 + 1) (PV.child 0 (Jb (v15.getD (0 + (IntKind.i64.wrap (zi v3 - 1)).toNat) PV.top) []))).int (PV.child (0 + 1) (Jb (v15.getD (0 + (IntKind.i64.wrap (zi v3 - 1)).toNat) PV.top) [])).str (PV.child (0 + 1 + 1) (Jb (v15.getD (0 + (IntKind.i64.wrap (zi v3 - 1)).toNat) PV.top) [])).els (PV.child (0 + 1 + 1 + 1) (Jb (v15.getD (0 + (IntKind.i64.wrap (zi v3 - 1)).toNat) PV.top) [])).int (PV.child (0 + 1 + 1 + 1 + 1) (Jb (v15.getD (0 + (IntKind.i64.wrap (zi v3 - 1)).toNat) PV.top) [])).els) v5)) (seH (SX.mk (SP.mk (PV.child 0 (v2.getD v5.toNat PV.top)).int (PV.child (0 + 1) (v2.getD v5.toNat PV.top)).int (PV.child (0 + 1 + 1) (v2.getD v5.toNat PV.top)).int (PV.child (0 + 1 + 1 + 1) (v2.getD v5.toNat PV.top)).els) [.ro 5 v6 v7 v8, .ro 5 v9 v10 v11, .ro 5 v12 v13 v14] (SV.mk (PV.child 0 (PV.child 0 (Jb (v15.getD (0 + (IntKind.i64.wrap (zi v3 - 1)).toNat) PV.top) []))).int (PV.child (0 + 1) (PV.child 0 (Jb (v15.getD (0 + (IntKind.i64.wrap (zi v3 - 1)).toNat) PV.top) []))).int (PV.child (0 + 1) (Jb (v15.getD (0 + (IntKind.i64.wrap (zi v3 - 1)).toNat) PV.top) [])).str (PV.child (0 + 1 + 1) (Jb (v15.getD (0 + (IntKind.i64.wrap (zi v3 - 1)).toNat) PV.top) [])).els (PV.child (0 + 1 + 1 + 1) (Jb (v15.getD (0 + (IntKind.i64.wrap (zi v3 - 1)).toNat) PV.top) [])).int (PV.child (0 + 1 + 1 + 1 + 1) (Jb (v15.getD (0 + (IntKind.i64.wrap (zi v3 - 1)).toNat) PV.top) [])).els) v5)) (seM (SX.mk (SP.mk (PV.child 0 (v2.getD v5.toNat PV.top)).int (PV.child (0 + 1) (v2.getD v5.toNat PV.top)).int (PV.child (0 + 1 + 1) (v2.getD v5.toNat PV.top)).int (PV.child (0 + 1 + 1 + 1) (v2.getD v5.toNat PV.top)).els) [.ro 5 v6 v7 v8, .ro 5 v9 v10 v11, .ro 5 v12 v13 v14] (SV.mk (PV.child 0 (PV.child 0 (Jb (v15.getD (0 + (IntKind.i64.wrap (zi v3 - 1)).toNat) PV.top) []))).int (PV.child (0 + 1) (PV.child 0 (Jb (v15.getD (0 + (IntKind.i64.wrap (zi v3 - 1)).toNat) PV.top) []))).int (PV.child (0 + 1) (Jb (v15.getD (0 + (IntKind.i64.wrap (zi v3 - 1)).toNat) PV.top) [])).str (PV.child (0 + 1 + 1) (Jb (v15.getD (0 + (IntKind.i64.wrap (zi v3 - 1)).toNat) PV.top) [])).els (PV.child (0 + 1 + 1 + 1) (Jb (v15.getD (0 + (IntKind.i64.wrap (zi v3 - 1)).toNat) PV.top) [])).int (PV.child (0 + 1 + 1 + 1 + 1) (Jb (v15.getD (0 + (IntKind.i64.wrap (zi v3 - 1)).toNat) PV.top) [])).els) v5))))), .sc (.int .i64 (dsV (DX.mk (SV.mk (PV.child 0 (PV.child 0 (Jb (v15.getD (0 + (IntKind.i64.wrap (zi v3 - 1)).toNat) PV.top) []))).int (PV.child (0 + 1) (PV.child 0 (Jb (v15.getD (0 + (IntKind.i64.wrap (zi v3 - 1)).toNat) PV.top) []))).int (PV.child (0 + 1) (Jb (v15.getD (0 + (IntKind.i64.wrap (zi v3 - 1)).toNat) PV.top) [])).str (PV.child (0 + 1 + 1) (Jb (v15.getD (0 + (IntKind.i64.wrap (zi v3 - 1)).toNat) PV.top) [])).els (PV.child (0 + 1 + 1 + 1) (Jb (v15.getD (0 + (IntKind.i64.wrap (zi v3 - 1)).toNat) PV.top) [])).int (PV.child (0 + 1 + 1 + 1 + 1) (Jb (v15.getD (0 + (IntKind.i64.wrap (zi v3 - 1)).toNat) PV.top) [])).els) (EW.mk (seB (SX.mk (SP.mk (PV.child 0 (v2.getD v5.toNat PV.top)).int (PV.child (0 + 1) (v2.getD v5.toNat PV.top)).int (PV.child (0 + 1 + 1) (v2.getD v5.toNat PV.top)).int (PV.child (0 + 1 + 1 + 1) (v2.getD v5.toNat PV.top)).els) [.ro 5 v6 v7 v8, .ro 5 v9 v10 v11, .ro 5 v12 v13 v14] (SV.mk (PV.child 0 (PV.child 0 (Jb (v15.getD (0 + (IntKind.i64.wrap (zi v3 - 1)).toNat) PV.top) []))).int (PV.child (0 + 1) (PV.child 0 (Jb (v15.getD (0 + (IntKind.i64.wrap (zi v3 - 1)).toNat) PV.top) []))).int (PV.child (0 + 1) (Jb (v15.getD (0 + (IntKind.i64.wrap (zi v3 - 1)).toNat) PV.top) [])).str (PV.child (0 + 1 + 1) (Jb (v15.getD (0 + (IntKind.i64.wrap (zi v3 - 1)).toNat) PV.top) [])).els (PV.child (0 + 1 + 1 + 1) (Jb (v15.getD (0 + (IntKind.i64.wrap (zi v3 - 1)).toNat) PV.top) [])).int (PV.child (0 + 1 + 1 + 1 + 1) (Jb (v15.getD (0 + (IntKind.i64.wrap (zi v3 - 1)).toNat) PV.top) [])).els) v5)) (seS (SX.mk (SP.mk (PV.child 0 (v2.getD v5.toNat PV.top)).int (PV.child (0 + 1) (v2.getD v5.toNat PV.top)).int (PV.child (0 + 1 + 1) (v2.getD v5.toNat PV.top)).int (PV.child (0 + 1 + 1 + 1) (v2.getD v5.toNat PV.top)).els) [.ro 5 v6 v7 v8, .ro 5 v9 v10 v11, .ro 5 v12 v13 v14] (SV.mk (PV.child 0 (PV.child 0 (Jb (v15.getD (0 + (IntKind.i64.wrap (zi v3 - 1)).toNat) PV.top) []))).int (PV.child (0 + 1) (PV.child 0 (Jb (v15.getD (0 + (IntKind.i64.wrap (zi v3 - 1)).toNat) PV.top) []))).int (PV.child (0 + 1) (Jb (v15.getD (0 + (IntKind.i64.wrap (zi v3 - 1)).toNat) PV.top) [])).str (PV.child (0 + 1 + 1) (Jb (v15.getD (0 + (IntKind.i64.wrap (zi v3 - 1)).toNat) PV.top) [])).els (PV.child (0 + 1 + 1 + 1) (Jb (v15.getD (0 + (IntKind.i64.wrap (zi v3 - 1)).toNat) PV.top) [])).int (PV.child (0 + 1 + 1 + 1 + 1) (Jb (v15.getD (0 + (IntKind.i64.wrap (zi v3 - 1)).toNat) PV.top) [])).els) v5)) (PV.child (0 + 1 + 1 + 1) (Jb (v15.getD (0 + (IntKind.i64.wrap (zi v3 - 1)).toNat) PV.top) [])).int (seO (SX.mk (SP.mk (PV.child 0 (v2.getD v5.toNat PV.top)).int (PV.child (0 + 1) (v2.getD v5.toNat PV.top)).int (PV.child (0 + 1 + 1) (v2.getD v5.toNat PV.top)).int (PV.child (0 + 1 + 1 + 1) (v2.getD v5.toNat PV.top)).els) [.ro 5 v6 v7 v8, .ro 5 v9 v10 v11, .ro 5 v12 v13 v14] (SV.mk (PV.child 0 (PV.child 0 (Jb (v15.getD (0 + (IntKind.i64.wrap (zi v3 - 1)).toNat) PV.top) []))).int (PV.child (0 + 1) (PV.child 0 (Jb (v15.getD (0 + (IntKind.i64.wrap (zi v3 - 1)).toNat) PV.top) []))).int (PV.child (0 + 1) (Jb (v15.getD (0 + (IntKind.i64.wrap (zi v3 - 1)).toNat) PV.top) [])).str (PV.child (0 + 1 + 1) (Jb (v15.getD (0 + (IntKind.i64.wrap (zi v3 - 1)).toNat) PV.top) [])).els (PV.child (0 + 1 + 1 + 1) (Jb (v15.getD (0 + (IntKind.i64.wrap (zi v3 - 1)).toNat) PV.top) [])).int (PV.child (0 + 1 + 1 + 1 + 1) (Jb (v15.getD (0 + (IntKind.i64.wrap (zi v3 - 1)).toNat) PV.top) [])).els) v5)) (seH (SX.mk (SP.mk (PV.child 0 (v2.getD v5.toNat PV.top)).int (PV.child (0 + 1) (v2.getD v5.toNat PV.top)).int (PV.child (0 + 1 + 1) (v2.getD v5.toNat PV.top)).int (PV.child (0 + 1 + 1 + 1) (v2.getD v5.toNat PV.top)).els) [.ro 5 v6 v7 v8, .ro 5 v9 v10 v11, .ro 5 v12 v13 v14] (SV.mk (PV.child 0 (PV.child 0 (Jb (v15.getD (0 + (IntKind.i64.wrap (zi v3 - 1)).toNat) PV.top) []))).int (PV.child (0 + 1) (PV.child 0 (Jb (v15.getD (0 + (IntKind.i64.wrap (zi v3 - 1)).toNat) PV.top) []))).int (PV.child (0 + 1) (Jb (v15.getD (0 + (IntKind.i64.wrap (zi v3 - 1)).toNat) PV.top) [])).str (PV.child (0 + 1 + 1) (Jb (v15.getD (0 + (IntKind.i64.wrap (zi v3 - 1)).toNat) PV.top) [])).els (PV.child (0 + 1 + 1 + 1) (Jb (v15.getD (0 + (IntKind.i64.wrap (zi v3 - 1)).toNat) PV.top) [])).int (PV.child (0 + 1 + 1 + 1 + 1) (Jb (v15.getD (0 + (IntKind.i64.wrap (zi v3 - 1)).toNat) PV.top) [])).els) v5)) (seM (SX.mk (SP.mk (PV.child 0 (v2.getD v5.toNat PV.top)).int (PV.child (0 + 1) (v2.getD v5.toNat PV.top)).int (PV.child (0 + 1 + 1) (v2.getD v5.toNat PV.top)).int (PV.child (0 + 1 + 1 + 1) (v2.getD v5.toNat PV.top)).els) [.ro 5 v6 v7 v8, .ro 5 v9 v10 v11, .ro 5 v12 v13 v14] (SV.mk (PV.child 0 (PV.child 0 (Jb (v15.getD (0 + (IntKind.i64.wrap (zi v3 - 1)).toNat) PV.top) []))).int (PV.child (0 + 1) (PV.child 0 (Jb (v15.getD (0 + (IntKind.i64.wrap (zi v3 - 1)).toNat) PV.top) []))).int (PV.child (0 + 1) (Jb (v15.getD (0 + (IntKind.i64.wrap (zi v3 - 1)).toNat) PV.top) [])).str (PV.child (0 + 1 + 1) (Jb (v15.getD (0 + (IntKind.i64.wrap (zi v3 - 1)).toNat) PV.top) [])).els (PV.child (0 + 1 + 1 + 1) (Jb (v15.getD (0 + (IntKind.i64.wrap (zi v3 - 1)).toNat) PV.top) [])).int (PV.child (0 + 1 + 1 + 1 + 1) (Jb (v15.getD (0 + (IntKind.i64.wrap (zi v3 - 1)).toNat) PV.top) [])).els) v5)))))), .ar 37 (dsH (DX.mk (SV.mk (PV.child 0 (PV.child 0 (Jb (v15.getD (0 + (IntKind.i64.wrap (zi v3 - 1)).toNat) PV.top) []))).int (PV.child (0 + 1) (PV.child 0 (Jb (v15.getD (0 + (IntKind.i64.wrap (zi v3 - 1)).toNat) PV.top) []))).int (PV.child (0 + 1) (Jb (v15.getD (0 + (IntKind.i64.wrap (zi v3 - 1)).toNat) PV.top) [])).str (PV.child (0 + 1 + 1) (Jb (v15.getD (0 + (IntKind.i64.wrap (zi v3 - 1)).toNat) PV.top) [])).els (PV.child (0 + 1 + 1 + 1) (Jb (v15.getD (0 + (IntKind.i64.wrap (zi v3 - 1)).toNat) PV.top) [])).int (PV.child (0 + 1 + 1 + 1 + 1) (Jb (v15.getD (0 + (IntKind.i64.wrap (zi v3 - 1)).toNat) PV.top) [])).els) (EW.mk (seB (SX.mk (SP.mk (PV.child 0 (v2.getD v5.toNat PV.top)).int (PV.child (0 + 1) (v2.getD v5.toNat PV.top)).int (PV.child (0 + 1 + 1) (v2.getD v5.toNat PV.top)).int (PV.child (0 + 1 + 1 + 1) (v2.getD v5.toNat PV.top)).els) [.ro 5 v6 v7 v8, .ro 5 v9 v10 v11, .ro 5 v12 v13 v14] (SV.mk (PV.child 0 (PV.child 0 (Jb (v15.getD (0 + (IntKind.i64.wrap (zi v3 - 1)).toNat) PV.top) []))).int (PV.child (0 + 1) (PV.child 0 (Jb (v15.getD (0 + (IntKind.i64.wrap (zi v3 - 1)).toNat) PV.top) []))).int (PV.child (0 + 1) (Jb (v15.getD (0 + (IntKind.i64.wrap (zi v3 - 1)).toNat) PV.top) [])).str (PV.child (0 + 1 + 1) (Jb (v15.getD (0 + (IntKind.i64.wrap (zi v3 - 1)).toNat) PV.top) [])).els (PV.child (0 + 1 + 1 + 1) (Jb (v15.getD (0 + (IntKind.i64.wrap (zi v3 - 1)).toNat) PV.top) [])).int (PV.child (0 + 1 + 1 + 1 + 1) (Jb (v15.getD (0 + (IntKind.i64.wrap (zi v3 - 1)).toNat) PV.top) [])).els) v5)) (seS (SX.mk (SP.mk (PV.child 0 (v2.getD v5.toNat PV.top)).int (PV.child (0 + 1) (v2.getD v5.toNat PV.top)).int (PV.child (0 + 1 + 1) (v2.getD v5.toNat PV.top)).int (PV.child (0 + 1 + 1 + 1) (v2.getD v5.toNat PV.top)).els) [.ro 5 v6 v7 v8, .ro 5 v9 v10 v11, .ro 5 v12 v13 v14] (SV.mk (PV.child 0 (PV.child 0 (Jb (v15.getD (0 + (IntKind.i64.wrap (zi v3 - 1)).toNat) PV.top) []))).int (PV.child (0 + 1) (PV.child 0 (Jb (v15.getD (0 + (IntKind.i64.wrap (zi v3 - 1)).toNat) PV.top) []))).int (PV.child (0 + 1) (Jb (v15.getD (0 + (IntKind.i64.wrap (zi v3 - 1)).toNat) PV.top) [])).str (PV.child (0 + 1 + 1) (Jb (v15.getD (0 + (IntKind.i64.wrap (zi v3 - 1)).toNat) PV.top) [])).els (PV.child (0 + 1 + 1 + 1) (Jb (v15.getD (0 + (IntKind.i64.wrap (zi v3 - 1)).toNat) PV.top) [])).int (PV.child (0 + 1 + 1 + 1 + 1) (Jb (v15.getD (0 + (IntKind.i64.wrap (zi v3 - 1)).toNat) PV.top) [])).els) v5)) (PV.child (0 + 1 + 1 + 1) (Jb (v15.getD (0 + (IntKind.i64.wrap (zi v3 - 1)).toNat) PV.top) [])).int (seO (SX.mk (SP.mk (PV.child 0 (v2.getD v5.toNat PV.top)).int (PV.child (0 + 1) (v2.getD v5.toNat PV.top)).int (PV.child (0 + 1 + 1) (v2.getD v5.toNat PV.top)).int (PV.child (0 + 1 + 1 + 1) (v2.getD v5.toNat PV.top)).els) [.ro 5 v6 v7 v8, .ro 5 v9 v10 v11, .ro 5 v12 v13 v14] (SV.mk (PV.child 0 (PV.child 0 (Jb (v15.getD (0 + (IntKind.i64.wrap (zi v3 - 1)).toNat) PV.top) []))).int (PV.child (0 + 1) (PV.child 0 (Jb (v15.getD (0 + (IntKind.i64.wrap (zi v3 - 1)).toNat) PV.top) []))).int (PV.child (0 + 1) (Jb (v15.getD (0 + (IntKind.i64.wrap (zi v3 - 1)).toNat) PV.top) [])).str (PV.child (0 + 1 + 1) (Jb (v15.getD (0 + (IntKind.i64.wrap (zi v3 - 1)).toNat) PV.top) [])).els (PV.child (0 + 1 + 1 + 1) (Jb (v15.getD (0 + (IntKind.i64.wrap (zi v3 - 1)).toNat) PV.top) [])).int (PV.child (0 + 1 + 1 + 1 + 1) (Jb (v15.getD (0 + (IntKind.i64.wrap (zi v3 - 1)).toNat) PV.top) [])).els) v5)) (seH (SX.mk (SP.mk (PV.child 0 (v2.getD v5.toNat PV.top)).int (PV.child (0 + 1) (v2.getD v5.toNat PV.top)).int (PV.child (0 + 1 + 1) (v2.getD v5.toNat PV.top)).int (PV.child (0 + 1 + 1 + 1) (v2.getD v5.toNat PV.top)).els) [.ro 5 v6 v7 v8, .ro 5 v9 v10 v11, .ro 5 v12 v13 v14] (SV.mk (PV.child 0 (PV.child 0 (Jb (v15.getD (0 + (IntKind.i64.wrap (zi v3 - 1)).toNat) PV.top) []))).int (PV.child (0 + 1) (PV.child 0 (Jb (v15.getD (0 + (IntKind.i64.wrap (zi v3 - 1)).toNat) PV.top) []))).int (PV.child (0 + 1) (Jb (v15.getD (0 + (IntKind.i64.wrap (zi v3 - 1)).toNat) PV.top) [])).str (PV.child (0 + 1 + 1) (Jb (v15.getD (0 + (IntKind.i64.wrap (zi v3 - 1)).toNat) PV.top) [])).els (PV.child (0 + 1 + 1 + 1) (Jb (v15.getD (0 + (IntKind.i64.wrap (zi v3 - 1)).toNat) PV.top) [])).int (PV.child (0 + 1 + 1 + 1 + 1) (Jb (v15.getD (0 + (IntKind.i64.wrap (zi v3 - 1)).toNat) PV.top) [])).els) v5)) (seM (SX.mk (SP.mk (PV.child 0 (v2.getD v5.toNat PV.top)).int (PV.child (0 + 1) (v2.getD v5.toNat PV.top)).int (PV.child (0 + 1 + 1) (v2.getD v5.toNat PV.top)).int (PV.child (0 + 1 + 1 + 1) (v2.getD v5.toNat PV.top)).els) [.ro 5 v6 v7 v8, .ro 5 v9 v10 v11, .ro 5 v12 v13 v14] (SV.mk (PV.child 0 (PV.child 0 (Jb (v15.getD (0 + (IntKind.i64.wrap (zi v3 - 1)).toNat) PV.top) []))).int (PV.child (0 + 1) (PV.child 0 (Jb (v15.getD (0 + (IntKind.i64.wrap (zi v3 - 1)).toNat) PV.top) []))).int (PV.child (0 + 1) (Jb (v15.getD (0 + (IntKind.i64.wrap (zi v3 - 1)).toNat) PV.top) [])).str (PV.child (0 + 1 + 1) (Jb (v15.getD (0 + (IntKind.i64.wrap (zi v3 - 1)).toNat) PV.top) [])).els (PV.child (0 + 1 + 1 + 1) (Jb (v15.getD (0 + (IntKind.i64.wrap (zi v3 - 1)).toNat) PV.top) [])).int (PV.child (0 + 1 + 1 + 1 + 1) (Jb (v15.getD (0 + (IntKind.i64.wrap (zi v3 - 1)).toNat) PV.top) [])).els) v5)))))]]) (v16 && false) (List.take v4 v17 ++ [.st 93 [.st 77 [.ro 5 false false (seB (SX.mk (SP.mk (PV.child 0 (v2.getD v5.toNat PV.top)).int (PV.child (0 + 1) (v2.getD v5.toNat PV.top)).int (PV.child (0 + 1 + 1) (v2.getD v5.toNat PV.top)).int (PV.child (0 + 1 + 1 + 1) (v2.getD v5.toNat PV.top)).els) [.ro 5 v6 v7 v8, .ro 5 v9 v10 v11, .ro 5 v12 v13 v14] (SV.mk (PV.child 0 (PV.child 0 (Jb (v15.getD (0 + (IntKind.i64.wrap (zi v3 - 1)).toNat) PV.top) []))).int (PV.child (0 + 1) (PV.child 0 (Jb (v15.getD (0 + (IntKind.i64.wrap (zi v3 - 1)).toNat) PV.top) []))).int (PV.child (0 + 1) (Jb (v15.getD (0 + (IntKind.i64.wrap (zi v3 - 1)).toNat) PV.top) [])).str (PV.child (0 + 1 + 1) (Jb (v15.getD (0 + (IntKind.i64.wrap (zi v3 - 1)).toNat) PV.top) [])).els (PV.child (0 + 1 + 1 + 1) (Jb (v15.getD (0 + (IntKind.i64.wrap (zi v3 - 1)).toNat) PV.top) [])).int (PV.child (0 + 1 + 1 + 1 + 1) (Jb (v15.getD (0 + (IntKind.i64.wrap (zi v3 - 1)).toNat) PV.top) [])).els) v5)), .ar 37 (seS (SX.mk (SP.mk (PV.child 0 (v2.getD v5.toNat PV.top)).int (PV.child (0 + 1) (v2.getD v5.toNat PV.top)).int (PV.child (0 + 1 + 1) (v2.getD v5.toNat PV.top)).int (PV.child (0 + 1 + 1 + 1) (v2.getD v5.toNat PV.top)).els) [.ro 5 v6 v7 v8, .ro 5 v9 v10 v11, .ro 5 v12 v13 v14] (SV.mk (PV.child 0 (PV.child 0 (Jb (v15.getD (0 + (IntKind.i64.wrap (zi v3 - 1)).toNat) PV.top) []))).int (PV.child (0 + 1) (PV.child 0 (Jb (v15.getD (0 + (IntKind.i64.wrap (zi v3 - 1)).toNat) PV.top) []))).int (PV.child (0 + 1) (Jb (v15.getD (0 + (IntKind.i64.wrap (zi v3 - 1)).toNat) PV.top) [])).str (PV.child (0 + 1 + 1) (Jb (v15.getD (0 + (IntKind.i64.wrap (zi v3 - 1)).toNat) PV.top) [])).els (PV.child (0 + 1 + 1 + 1) (Jb (v15.getD (0 + (IntKind.i64.wrap (zi v3 - 1)).toNat) PV.top) [])).int (PV.child (0 + 1 + 1 + 1 + 1) (Jb (v15.getD (0 + (IntKind.i64.wrap (zi v3 - 1)).toNat) PV.top) [])).els) v5))], .sc (.int .i64 (PV.child (0 + 1 + 1 + 1) (Jb (v15.getD (0 + (IntKind.i64.wrap (zi v3 - 1)).toNat) PV.top) [])).int), .ro 99 false false (seO (SX.mk (SP.mk (PV.child 0 (v2.getD v5.toNat PV.top)).int (PV.child (0 + 1) (v2.getD v5.toNat PV.top)).int (PV.child (0 + 1 + 1) (v2.getD v5.toNat PV.top)).int (PV.child (0 + 1 + 1 + 1) (v2.getD v5.toNat PV.top)).els) [.ro 5 v6 v7 v8, .ro 5 v9 v10 v11, .ro 5 v12 v13 v14] (SV.mk (PV.child 0 (PV.child 0 (Jb (v15.getD (0 + (IntKind.i64.wrap (zi v3 - 1)).toNat) PV.top) []))).int (PV.child (0 + 1) (PV.child 0 (Jb (v15.getD (0 + (IntKind.i64.wrap (zi v3 - 1)).toNat) PV.top) []))).int (PV.child (0 + 1) (Jb (v15.getD (0 + (IntKind.i64.wrap (zi v3 - 1)).toNat) PV.top) [])).str (PV.child (0 + 1 + 1) (Jb (v15.getD (0 + (IntKind.i64.wrap (zi v3 - 1)).toNat) PV.top) [])).els (PV.child (0 + 1 + 1 + 1) (Jb (v15.getD (0 + (IntKind.i64.wrap (zi v3 - 1)).toNat) PV.top) [])).int (PV.child (0 + 1 + 1 + 1 + 1) (Jb (v15.getD (0 + (IntKind.i64.wrap (zi v3 - 1)).toNat) PV.top) [])).els) v5)), .ar 37 (seH (SX.mk (SP.mk (PV.child 0 (v2.getD v5.toNat PV.top)).int (PV.child (0 + 1) (v2.getD v5.toNat PV.top)).int (PV.child (0 + 1 + 1) (v2.getD v5.toNat PV.top)).int (PV.child (0 + 1 + 1 + 1) (v2.getD v5.toNat PV.top)).els) [.ro 5 v6 v7 v8, .ro 5 v9 v10 v11, .ro 5 v12 v13 v14] (SV.mk (PV.child 0 (PV.child 0 (Jb (v15.getD (0 + (IntKind.i64.wrap (zi v3 - 1)).toNat) PV.top) []))).int (PV.child (0 + 1) (PV.child 0 (Jb (v15.getD (0 + (IntKind.i64.wrap (zi v3 - 1)).toNat) PV.top) []))).int (PV.child (0 + 1) (Jb (v15.getD (0 + (IntKind.i64.wrap (zi v3 - 1)).toNat) PV.top) [])).str (PV.child (0 + 1 + 1) (Jb (v15.getD (0 + (IntKind.i64.wrap (zi v3 - 1)).toNat) PV.top) [])).els (PV.child (0 + 1 + 1 + 1) (Jb (v15.getD (0 + (IntKind.i64.wrap (zi v3 - 1)).toNat) PV.top) [])).int (PV.child (0 + 1 + 1 + 1 + 1) (Jb (v15.getD (0 + (IntKind.i64.wrap (zi v3 - 1)).toNat) PV.top) [])).els) v5)), .ar 37 (seM (SX.mk (SP.mk (PV.child 0 (v2.getD v5.toNat PV.top)).int (PV.child (0 + 1) (v2.getD v5.toNat PV.top)).int (PV.child (0 + 1 + 1) (v2.getD v5.toNat PV.top)).int (PV.child (0 + 1 + 1 + 1) (v2.getD v5.toNat PV.top)).els) [.ro 5 v6 v7 v8, .ro 5 v9 v10 v11, .ro 5 v12 v13 v14] (SV.mk (PV.child 0 (PV.child 0 (Jb (v15.getD (0 + (IntKind.i64.wrap (zi v3 - 1)).toNat) PV.top) []))).int (PV.child (0 + 1) (PV.child 0 (Jb (v15.getD (0 + (IntKind.i64.wrap (zi v3 - 1)).toNat) PV.top) []))).int (PV.child (0 + 1) (Jb (v15.getD (0 + (IntKind.i64.wrap (zi v3 - 1)).toNat) PV.top) [])).str (PV.child (0 + 1 + 1) (Jb (v15.getD (0 + (IntKind.i64.wrap (zi v3 - 1)).toNat) PV.top) [])).els (PV.child (0 + 1 + 1 + 1) (Jb (v15.getD (0 + (IntKind.i64.wrap (zi v3 - 1)).toNat) PV.top) [])).int (PV.child (0 + 1 + 1 + 1 + 1) (Jb (v15.getD (0 + (IntKind.i64.wrap (zi v3 - 1)).toNat) PV.top) [])).els) v5))]]) else none else none else rc v0 v1 v2 v3 v4 (IntKind.i64.wrap (v5 + 1)) v6 v7 v8 v9 v10 v11 v12 v13 v14 v15 v16 v17 else none else none else none else none else none else none else none else k0 v3 v4 v15 v16 v17
def VB (f : Nat) (k0 : Nat -> Nat -> List
 PV -> Bool -> List PV -> Option Res) : Nat -> Bool -> Bool -> List PV -> Nat -> Nat -> Int -> Bool -> Bool -> List PV -> Bool -> Bool -> List PV -> Bool -> Bool -> List PV -> List PV -> Bool -> List PV -> Option Res
 | 0, _, _, _, _, _, _, _, _, _, _, _, _, _, _, _, _, _, _ => none
 | n + 1, v0, v1, v2, v3, v4, v5, v6, v7, v8, v9, v10, v11, v12, v13, v14, v15, v16, v17 => Gx f (VB f k0 n) k0 v0 v1 v2 v3 v4 v5 v6 v7 v8 v9 v10 v11 v12 v13 v14 v15 v16 v17
theorem Jpy (f : Nat) (k : Kont) (n : Nat) (v0 v1 : Bool) (v2 : List PV) (v3 v4 : Nat) (v5 : Int) (v6 v7 : Bool) (v8 : List PV) (v9 v10 : Bool) (v11 : List PV) (v12 v13 : Bool) (v14 v15 : List PV) (v16 : Bool) (v17 : List PV) : Jl tau 0 Yn (fun s k => ev tau F20 0 0 Jds (Jgg ) s k) (n + 1) (Jd Yn N20 [.ro 106 v0 v1 v2, .ptr 944 [], .ow 41 945 [] 0 v3 none, .ow 93 946 [] 0 v4 none, .sc (.int .i64 v5)] [(944, .box false 31 (PV.st 31 [.ro 5 v6 v7 v8, .ro 5 v9 v10 v11, .ro 5 v12 v13 v14])), (945, .vec false 41 false v15), (946, .vec false 93 v16 v17)]) (Jo tau 0 Zx k) = Gx f (fun v0 v1 v2 v3 v4 v5 v6 v7 v8 v9 v10 v11 v12 v13 v14 v15 v16 v17 => Jl tau 0 Yn (fun s k => ev tau F20 0 0 Jds (Jgg ) s k) n (Jd Yn N20 [.ro 106 v0 v1 v2, .ptr 944 [], .ow 41 945 [] 0 v3 none, .ow 93 946 [] 0 v4 none, .sc (.int .i64 v5)] [(944, .box false 31 (PV.st 31 [.ro 5 v6 v7 v8, .ro 5 v9 v10 v11, .ro 5 v12 v13 v14])), (945, .vec false 41 false v15), (946, .vec false 93 v16 v17)]) (Jo tau 0 Zx k)) (fun x0 x1 x2 x3 x4 => k (Ex.exit 0) (Jd Zx N20 [.ow 41 944 [] 0 x0 none, .ow 93 945 [] 0 x1 none] [(944, .vec false 41 false x2), (945, .vec false 93 x3 x4)])) v0 v1 v2 v3 v4 v5 v6 v7 v8 v9 v10 v11 v12 v13 v14 v15 v16 v17 := by kernel_rfl
theorem JjI (f : Nat) (k : Kont) : ∀ (n : Nat) (v0 v1 : Bool) (v2 : List PV) (v3 v4 : Nat) (v5 : Int) (v6 v7 : Bool) (v8 : List PV) (v9 v10 : Bool) (v11 : List PV) (v12 v13 : Bool) (v14 v15 : List PV) (v16 : Bool) (v17 : List PV), Jl tau 0 Yn (fun s k => ev tau F20 0 0 Jds (Jgg ) s k) n (Jd Yn N20 [.ro 106 v0 v1 v2, .ptr 944 [], .ow 41 945 [] 0 v3 none, .ow 93 946 [] 0 v4 none, .sc (.int .i64 v5)] [(944, .box false 31 (PV.st 31 [.ro 5 v6 v7 v8, .ro 5 v9 v10 v11, .ro 5 v12 v13 v14])), (945, .vec false 41 false v15), (946, .vec false 93 v16 v17)]) (Jo tau 0 Zx k) = VB f (fun x0 x1 x2 x3 x4 => k (Ex.exit 0) (Jd Zx N20 [.ow 41 944 [] 0 x0 none, .ow 93 945 [] 0 x1 none] [(944, .vec false 41 false x2), (945, .vec false 93 x3 x4)])) n v0 v1 v2 v3 v4 v5 v6 v7 v8 v9 v10 v11 v12 v13 v14 v15 v16 v17 | 0, _, _, _, _, _, _, _, _, _, _, _, _, _, _, _, _, _, _ => rfl | n + 1, v0, v1, v2, v3, v4, v5, v6, v7, v8, v9, v10, v11, v12, v13, v14, v15, v16, v17 => (Jpy f k n v0 v1 v2 v3 v4 v5 v6 v7 v8 v9 v10 v11 v12 v13 v14 v15 v16 v17).trans (congrArg (fun r => Gx f r (fun x0 x1 x2 x3 x4 => k (Ex.exit 0) (Jd Zx N20 [.ow 41 944 [] 0 x0 none, .ow 93 945 [] 0 x1 none] [(944, .vec false 41 false x2), (945, .vec false 93 x3 x4)])) v0 v1 v2 v3 v4 v5 v6 v7 v8 v9 v10 v11 v12 v13 v14 v15 v16 v17) (by funext v0 v1 v2 v3 v4 v5 v6 v7 v8 v9 v10 v11 v12 v13 v14 v15 v16 v17; exact JjI f k n v0 v1 v2 v3 v4 v5 v6 v7 v8 v9 v10 v11 v12 v13 v14 v15 v16 v17))
def Jcf (f : Nat) : List PV -> List (Nat × Ent) -> Kont -> Option Res
 | [.ro 106 v0 v1 v2, .ptr 944 [], .ow 41 945 [] 0 v3 none, .ow 93 946 [] 0 v4 none,
 PV.sc
  (Value.int IntKind.i64
   v5)], [(944, .box false 31 (PV.st 31 [.ro 5 v6 v7 v8, .ro 5 v9 v10 v11, .ro 5 v12 v13 v14])), (945, .vec false 41 false v15),
 (946,
  Ent.vec false 93 v16
   v17)], k => VB f (fun x0 x1 x2 x3 x4 => k (Ex.exit
 0) (Jd Zx N20 [.ow 41 944 [] 0 x0 none,
 PV.ow 93 945 [] 0 x1 none] [(944, .vec false 41 false x2), (945, .vec false 93 x3 x4)])) f v0 v1 v2 v3 v4 v5 v6 v7 v8 v9 v10 v11 v12 v13 v14 v15 v16 v17
 | _, _, _ => none
theorem JtT (f : Nat) : Jf Jds Jgg = [] := by kernel_rfl
theorem JtU (f : Nat) : (Item.l Jds Yn N20 (Jcf f)).Ok tau Try.prog 0 := Jz Jp Jm7 Jq (x := Jgg) (nm2 := Zx) (Jm _ _ (by rw [JtT f]; intro q hq; cases hq)) fun vs hp k res hr => by
 unfold Jcf at hr
 split at hr
 · exact ⟨f, 0, (JjI f _ f _ _ _ _ _ _ _ _ _ _ _ _ _ _ _ _ _ _ ).trans hr⟩
 · cases hr
def g20 (f : Nat) (k0_z k0_f : Bool) (k0 : List PV) (k1_z k1_f : Bool) (k1 : List PV) (k2_z k2_f : Bool) (k2 : List PV) (l_z l_f : Bool) (l : List PV) (k : Res -> Option Res) : Option Res := bif okL (apI [] 0).length (apI [] 0) then bif okL (apI (apI [] 0) 3).length (apI (apI [] 0) 3) then bif okL (apI (apI (apI [] 0) 3) 0).length (apI (apI (apI [] 0) 3) 0) then bif Jj IntKind.u8 (List.take (apI (apI (apI (apI [] 0) 3) 0) 1).length (apI (apI (apI (apI [] 0) 3) 0) 1)) && decide ((List.take (apI (apI (apI (apI [] 0) 3) 0) 1).length (apI (apI (apI (apI [] 0) 3) 0) 1)).length <= 140737488355000) then VB f (fun x0_0 x1_0 x2_0 x3_0 x4_0 => k (Res.mk (.tup [.ro 93 (Ent.vec false 93 x3_0 x4_0).nil false (List.take x1_0 x4_0), .ro 41 false false (List.take x0_0 x2_0)]) [] [])) f l_z l_f l (1) (0) (0) k0_z k0_f k0 k1_z k1_f k1 k2_z k2_f k2 ([.st 41 [.st 34 [.sc (.int .i64 0), .sc (.int .i64 3)], .sc (.string (ByteArray.mk (Array.mk []))), .ro 45 false false [.st 45 [.sc (.int .i64 0), .sc (.int .i64 1)]], .sc (.int .i64 0), .ar 37 (pu IntKind.u8 (JT (Jw (List.take (apI (apI (apI (apI [] 0) 3) 0) 1).length (apI (apI (apI (apI [] 0) 3) 0) 1)))))]]) true ([]) else none else none else none else none
theorem e20 (f : Nat) (k0_z k0_f : Bool) (k0 : List PV) (k1_z k1_f : Bool) (k1 : List PV) (k2_z k2_f : Bool) (k2 : List PV) (l_z l_f : Bool) (l : List PV) (k : Res -> Option Res) : JQ tau F20 Try.f20 (Try.f20.body.get!) (Jpx (Jcf f)) [.ro, .ro] 0 [.st 31 [.ro 5 k0_z k0_f k0, .ro 5 k1_z k1_f k1, .ro 5 k2_z k2_f k2], .ro 106 l_z l_f l] [] k = g20 f k0_z k0_f k0 k1_z k1_f k1 k2_z k2_f k2 l_z l_f l k := by kernel_rfl
theorem JAY (f : Nat) : Jf (Try.f20.body.get!) (Jpx (Jcf f)) = [.l Jds Yn N20 (Jcf f)] := by kernel_rfl
theorem JAZ (f : Nat) : ∀ q ∈ Jf (Try.f20.body.get!) (Jpx (Jcf f)), q.Ok tau Try.prog 0 := by
 rw [JAY f]; simp only [List.forall_mem_cons, List.not_mem_nil, false_implies, implies_true, and_true]; exact JtU f
theorem Jyq : Try.prog.funcs[20]? = some Try.f20 := by kernel_rfl
theorem Jyr : Try.f20.body = some (Try.f20.body.get!) := by kernel_rfl
theorem JA0 : Enters Try.prog 20 := enters_of Jyq (by kernel_rfl) Jyr

-- FN wire.Bytes
structure WM where
 (l : List PV) (c : C13) (b : List PV)
theorem JjJ (bs : List Int) : ∀ x ∈ JT bs, 0 <= x /\ x < 256 := by
 intro x hx
 rw [JaV] at hx
 obtain ⟨i, _, rfl⟩ := List.mem_map.1 hx
 exact JaW _
-- FN
def isStt : PV -> Bool
 | .st t [.st t2 [.sc (.int .i64 _), .sc (.int .i64 _)], .sc (.string _), .ro t3 _ _ _, .sc (.int .i64 _), .ar t4 _] => t == 41 && (t2 == 34 && (t3 == 45 && t4 == 37))
 | _ => false
def sv (p : PV) : SV := ⟨((p.child 0).child 0).int, ((p.child 0).child 1).int, (p.child 1).str, (p.child 2).els, (p.child 3).int, (p.child 4).els⟩
theorem Jdt {p : PV} : isStt p = true ↔ ∃ s z f, p = stP s z f := by
 constructor
 · intro h
   unfold isStt at h
   split at h
   · rename_i t t2 a b d t3 z f l v t4 hs
     simp only [Bool.and_eq_true, beq_iff_eq] at h
     obtain ⟨rfl, rfl, rfl, rfl⟩ := h
     exact ⟨⟨a, b, d, l, v, hs⟩, z, f, rfl⟩
   · cases h
 · rintro ⟨s, z, f, rfl⟩; rfl
theorem JtV (s : SV) (z f : Bool) : sv (stP s z f) = s := rfl
def Jgh : PV -> Bool
 | .st t [.sc (.int .i64 _), .sc (.int .i64 _), .sc (.int .i64 _), .ro t2 _ _ _] => t == 106 && t2 == 3
 | _ => false
def sp (p : PV) : SP := ⟨(p.child 0).int, (p.child 1).int, (p.child 2).int, (p.child 3).els⟩
theorem Jm8 {p : PV} : Jgh p = true ↔ ∃ s z f, p = .st 106 [.sc (.int .i64 s.kd), .sc (.int .i64 s.by1), .sc (.int .i64 s.who), .ro 3 z f s.ns] /\ sp p = s := by
 constructor
 · intro h
   unfold Jgh at h
   split at h
   · rename_i t a b c t2 z f l
     simp only [Bool.and_eq_true, beq_iff_eq] at h
     obtain ⟨rfl, rfl⟩ := h
     exact ⟨⟨a, b, c, l⟩, z, f, rfl, rfl⟩
   · cases h
 · rintro ⟨s, z, f, rfl, _⟩; rfl
def Gy (K : List PV) (p : SP) (i : Int) (s : SV) : DX := ⟨s, seW ⟨p, K, s, i⟩⟩
def Jcw (K : List PV) (p : SP) (i : Int) (q : PV) : PV := stP (dsS (Gy K p i (sv q))) (dsZ (Gy K p i (sv q)) (q.child 2).nl) (dsF (Gy K p i (sv q)) (q.child 2).fl)
def bld (K : List PV) : List PV -> Int -> PV -> List (PV × PV)
 | [], _, _ => []
 | p :: ps, i, q =>
  bif QX (Gy K (sp p) i (sv q)) == 0 then (ewP (seW ⟨sp p, K, sv q, i⟩), Jcw K (sp p) i q) :: bld K ps (i + 1) (Jcw K (sp p) i q)
  else bld K ps (i + 1) q
structure BOk (i : Int) (q : PV) : Prop where
 st : isStt q = true
 ok : sOk (sv q) = true
 by1 : byB (sv q).hash = true
 ih : (sv q).ih = 0
 iN : (sv q).iN = 3
 ver : (sv q).ver <= i
theorem JtW (x : NX) : byB (pu .u8 (nxP x)) = true := Jg4.2 (by rw [Jey]; exact JjJ _)
theorem BOk.next {K : List PV} {p : SP} {i : Int} {q : PV} (h : BOk i q) (hp : Zw p = true) (hi : i < 1000) (h0 : 0 <= i) : BOk (i + 1) (Jcw K p i q) where
 st := rfl
 ok := by
  show sOk (dsS (Gy K p i (sv q))) = true
  exact Jpl (x := Gy K p i (sv q)) h.ok (Jm6 (x := ⟨p, K, sv q, i⟩) h.ok hp h.by1) (by have := h.ver; show (sv q).ver < 1000000; omega)
 by1 := by
  show byB (dsH (Gy K p i (sv q))) = true
  rw [JeJ]
  cases QX (Gy K p i (sv q)) == 0 with
  | true => exact JtW _
  | false => exact h.by1
 ih := h.ih
 iN := h.iN
 ver := by
  show dsV (Gy K p i (sv q)) <= i + 1
  have := h.ver
  rw [JeI]
  cases QX (Gy K p i (sv q)) == 0 with
  | true => show (sv q).ver + 1 <= i + 1; omega
  | false => show (sv q).ver <= i + 1; omega
theorem BOk.up {i j : Int} {q : PV} (h : BOk i q) (hj : i <= j) : BOk j q := { h with ver := by have := h.ver; omega }
theorem Jia {K : List PV} : ∀ (l : List PV) (i : Int) (q : PV), (∀ p ∈ l, Zw (sp p) = true) -> 0 <= i -> i + l.length <= 1000 -> BOk i q -> ∀ x ∈ bld K l i q, BOk (i + l.length) x.2
 | [], _, _, _, _, _, _, x, hx => by cases hx
 | p :: ps, i, q, hp, h0, hi, hq, x, hx => by
  simp only [List.length_cons] at hi ⊢
  simp only [bld] at hx
  have hp' : ∀ r ∈ ps, Zw (sp r) = true := fun r hr => hp r (List.mem_cons_of_mem _ hr)
  have hn := hq.next (K := K) (hp p List.mem_cons_self) (by omega) h0
  cases hc : (QX (Gy K (sp p) i (sv q)) == 0) with
  | true =>
   rw [hc, cond_true] at hx
   rcases List.mem_cons.1 hx with rfl | hx
   · exact hn.up (by omega)
   · exact (Jia ps (i + 1) _ hp' (by omega) (by omega) hn x hx).up (by omega)
  | false =>
   rw [hc, cond_false] at hx
   exact (Jia ps (i + 1) _ hp' (by omega) (by omega) (hq.up (by omega)) x hx).up (by omega)
theorem VC {K : List PV} : ∀ (l : List PV) (i : Int) (q : PV), (bld K l i q).length <= l.length
 | [], _, _ => Nat.le_refl _
 | p :: ps, i, q => by
  simp only [bld]
  cases QX (Gy K (sp p) i (sv q)) == 0 with
  | true => simp only [cond_true, List.length_cons]; have := VC ps (i + 1) (Jcw K (sp p) i q) (K := K); omega
  | false => simp only [cond_false, List.length_cons]; have := VC ps (i + 1) q (K := K); omega
-- FN law13.Build
structure BL where
 (K l : List PV)
def h0L : List PV := apI (apI (apI (apI [] 0) 3) 0) 1
def q0 : PV := stP ⟨0, 3, ByteArray.mk (Array.mk []), [adP ⟨0, 1⟩], 0, pu .u8 (JT (Jw (List.take h0L.length h0L)))⟩ false false
def bS : BL -> List PV := hid fun x => q0 :: (bld x.K x.l 0 q0).map Prod.snd
def bE : BL -> List PV := hid fun x => (bld x.K x.l 0 q0).map Prod.fst
theorem Jro (x : BL) : bS x = q0 :: (bld x.K x.l 0 q0).map Prod.snd := by rw [bS, hid_eq]
theorem Jys (x : BL) : bE x = (bld x.K x.l 0 q0).map Prod.fst := by rw [bE, hid_eq]
def lOk : List PV -> Bool := hid fun l => l.all Jgh && (l.all (fun p => Zw (sp p)) && decide (l.length <= 25))
theorem JaZ {l : List PV} : lOk l = true ↔ l.all Jgh = true /\ (∀ p ∈ l, Zw (sp p) = true) /\ l.length <= 25 := by
 rw [lOk, hid_eq]; simp only [Bool.and_eq_true, List.all_eq_true, decide_eq_true_eq]
theorem Jm9 : BOk 0 q0 where
 st := rfl
 ok := by
  refine Yk.2 ⟨Q9.2 ⟨rfl, rfl, by decide⟩, h32_iff.2 ⟨JR _ _, ?_⟩, by decide, by decide, by decide, ?_⟩
  · show (pu .u8 (JT _)).length = 32; rw [JG]; exact Qi _
  · show (inA [0, 2, 1, 7] && true) = true; rw [JiA]; rfl
 by1 := Jg4.2 (JjJ _)
 ih := rfl
 iN := rfl
 ver := Int.le_refl _
theorem Jrp (l : List PV) (z fl : Bool) (hl : lOk l = true) (z0 f0 : Bool) (a0 : List PV) (z1 f1 : Bool) (a1 : List PV) (z2 f2 : Bool) (a2 : List PV) (hK : kO3 [.ro 5 z0 f0 a0, .ro 5 z1 f1 a1, .ro 5 z2 f2 a2] = true) (f : Nat) (k0 : Nat -> Nat -> List PV -> Bool -> List PV -> Option Res) :
  ∀ (d i n : Nat) (S E : List PV) (q : PV), i + d = l.length -> d < n -> BOk i q -> S.length <= i -> E.length <= i ->
   VB f k0 n z fl l (S ++ [q]).length E.length (i : Int) z0 f0 a0 z1 f1 a1 z2 f2 a2 (S ++ [q]) E.isEmpty E =
     k0 (S ++ q :: (bld [.ro 5 z0 f0 a0, .ro 5 z1 f1 a1, .ro 5 z2 f2 a2] (l.drop i) i q).map Prod.snd).length (E ++ (bld [.ro 5 z0 f0 a0, .ro 5 z1 f1 a1, .ro 5 z2 f2 a2] (l.drop i) i q).map Prod.fst).length (S ++ q :: (bld [.ro 5 z0 f0 a0, .ro 5 z1 f1 a1, .ro 5 z2 f2 a2] (l.drop i) i q).map Prod.snd) (E ++ (bld [.ro 5 z0 f0 a0, .ro 5 z1 f1 a1, .ro 5 z2 f2 a2] (l.drop i) i q).map Prod.fst).isEmpty (E ++ (bld [.ro 5 z0 f0 a0, .ro 5 z1 f1 a1, .ro 5 z2 f2 a2] (l.drop i) i q).map Prod.fst)
 | 0, i, n + 1, S, E, q, hi, hn, hq, hS, hE => by
   rw [List.drop_of_length_le (by omega)]
   simp only [VB, Gx, bld, List.map_nil, List.append_nil]
   exact Ji (by simp [zi]; omega)
 | d + 1, i, n + 1, S, E, q, hi, hn, hq, hS, hE => by
   obtain ⟨h1, h2, h3⟩ := JaZ.1 hl
   have g1 : ((i : Int)).toNat = i := by omega
   have w1 : IntKind.i64.wrap ((i : Int) + 1) = ((i + 1 : Nat) : Int) := by rw [wrap_i64 (by omega) (by omega)]; omega
   have w2 : IntKind.i64.wrap (zi (S ++ [q]).length - 1) = (S.length : Int) := by
     have : zi (S ++ [q]).length = (S.length : Int) + 1 := by simp [zi]
     rw [this, wrap_i64 (by omega) (by omega)]; omega
   have g4 : Jb ((S ++ [q]).getD (0 + ((S.length : Int)).toNat) PV.top) [] = q := by
     show (S ++ [q]).getD (0 + ((S.length : Int)).toNat) PV.top = q
     rw [Nat.zero_add, Int.toNat_natCast, List.getD_eq_getElem?_getD]; simp
   have hmem : l.getD i .top ∈ l := by
     rw [List.getD_eq_getElem?_getD, List.getElem?_eq_getElem (by omega)]; exact List.getElem_mem _
   obtain ⟨p, nz, nf, hp, hsp⟩ := Jm8.1 (List.all_eq_true.1 h1 _ hmem)
   have hpo : Zw p = true := by rw [← hsp]; exact h2 _ hmem
   rw [Qf (by omega)]
   have hnx := hq.next (K := [.ro 5 z0 f0 a0, .ro 5 z1 f1 a1, .ro 5 z2 f2 a2]) hpo (by omega) (by omega)
   have hup : BOk ((i + 1 : Nat) : Int) q := hq.up (by omega)
   have hnx : BOk ((i + 1 : Nat) : Int) (Jcw [.ro 5 z0 f0 a0, .ro 5 z1 f1 a1, .ro 5 z2 f2 a2] p i q) := by have := hnx; rwa [show (i : Int) + 1 = ((i + 1 : Nat) : Int) from by omega] at this
   have IH := fun S E q => Jrp l z fl hl z0 f0 a0 z1 f1 a1 z2 f2 a2 hK f k0 d (i + 1) n S E q (by omega) (by omega)
   have hb : bld [.ro 5 z0 f0 a0, .ro 5 z1 f1 a1, .ro 5 z2 f2 a2] (l.getD i .top :: l.drop (i + 1)) i q = bif QX (Gy [.ro 5 z0 f0 a0, .ro 5 z1 f1 a1, .ro 5 z2 f2 a2] p i (sv q)) == 0 then (ewP (seW ⟨p, [.ro 5 z0 f0 a0, .ro 5 z1 f1 a1, .ro 5 z2 f2 a2], sv q, i⟩), Jcw [.ro 5 z0 f0 a0, .ro 5 z1 f1 a1, .ro 5 z2 f2 a2] p i q) :: bld [.ro 5 z0 f0 a0, .ro 5 z1 f1 a1, .ro 5 z2 f2 a2] (l.drop (i + 1)) ((i + 1 : Nat) : Int) (Jcw [.ro 5 z0 f0 a0, .ro 5 z1 f1 a1, .ro 5 z2 f2 a2] p i q)
      else bld [.ro 5 z0 f0 a0, .ro 5 z1 f1 a1, .ro 5 z2 f2 a2] (l.drop (i + 1)) ((i + 1 : Nat) : Int) q := by
     simp only [bld, hsp]; rfl
   rw [hb]
   simp only [VB, Gx, g1, w1, w2, g4, hp]
   generalize hKK : [PV.ro 5 z0 f0 a0, .ro 5 z1 f1 a1, .ro 5 z2 f2 a2] = K at *
   obtain ⟨s, zq, fq, rfl⟩ := Jdt.1 hq.st
   have hs : sOk s = true := hq.ok
   have hby : byB s.hash = true := hq.by1
   have hih : kIn s.ih = true := by rw [show s.ih = 0 from hq.ih, Jew]; rfl
   have heD := Jm6 (x := ⟨p, K, s, i⟩) hs hpo hby
   have hSV : SV.mk (PV.child 0 (PV.child 0 (stP s zq fq))).int (PV.child (0 + 1) (PV.child 0 (stP s zq fq))).int (PV.child (0 + 1) (stP s zq fq)).str (PV.child (0 + 1 + 1) (stP s zq fq)).els (PV.child (0 + 1 + 1 + 1) (stP s zq fq)).int (PV.child (0 + 1 + 1 + 1 + 1) (stP s zq fq)).els = s := rfl
   have hSP : SP.mk (PV.child 0 (PV.st 106 [.sc (.int .i64 p.kd), .sc (.int .i64 p.by1), .sc (.int .i64 p.who), .ro 3 nz nf p.ns])).int (PV.child (0 + 1) (PV.st 106 [.sc (.int .i64 p.kd), .sc (.int .i64 p.by1), .sc (.int .i64 p.who), .ro 3 nz nf p.ns])).int (PV.child (0 + 1 + 1) (PV.st 106 [.sc (.int .i64 p.kd), .sc (.int .i64 p.by1), .sc (.int .i64 p.who), .ro 3 nz nf p.ns])).int (PV.child (0 + 1 + 1 + 1) (PV.st 106 [.sc (.int .i64 p.kd), .sc (.int .i64 p.by1), .sc (.int .i64 p.who), .ro 3 nz nf p.ns])).els = p := rfl
   have c1 : (PV.child 0 (PV.child 0 (stP s zq fq))).int = s.ih := rfl
   have c2 : (PV.child (0 + 1) (PV.child 0 (stP s zq fq))).int = s.iN := rfl
   have c3 : (PV.child (0 + 1 + 1 + 1) (stP s zq fq)).int = s.ver := rfl
   have c4 : (PV.child (0 + 1 + 1) (stP s zq fq)).nl = zq := rfl
   have c5 : (PV.child (0 + 1 + 1) (stP s zq fq)).fl = fq := rfl
   simp only [hSV, hSP]
   simp only [c1, c2, c3, c4, c5]
   have eEW := G7 ⟨p, K, s, i⟩
   simp only at eEW
   simp only [eEW]
   have hen : PV.st 93 [PV.st 77 [.ro 5 false false (seB ⟨p, K, s, i⟩), .ar 37 (seS ⟨p, K, s, i⟩)], .sc (.int .i64 s.ver), .ro 99 false false (seO ⟨p, K, s, i⟩), .ar 37 (seH ⟨p, K, s, i⟩), .ar 37 (seM ⟨p, K, s, i⟩)] = ewP (seW ⟨p, K, s, i⟩) := by rw [← G7]; rfl
   have hst : PV.st 41 [PV.st 34 [.sc (.int .i64 s.ih), .sc (.int .i64 s.iN)], .sc (.string (dsD ⟨s, seW ⟨p, K, s, i⟩⟩)), .ro 45 (dsZ ⟨s, seW ⟨p, K, s, i⟩⟩ zq) (dsF ⟨s, seW ⟨p, K, s, i⟩⟩ fq) (dsL ⟨s, seW ⟨p, K, s, i⟩⟩), .sc (.int .i64 (dsV ⟨s, seW ⟨p, K, s, i⟩⟩)), .ar 37 (dsH ⟨s, seW ⟨p, K, s, i⟩⟩)] = Jcw K p i (stP s zq fq) := rfl
   have hX : Gy K p i s = ⟨s, seW ⟨p, K, s, i⟩⟩ := rfl
   simp only [hen, hst, hX, JtV, JhY]
   have tk1 : List.take (S ++ [stP s zq fq]).length (S ++ [stP s zq fq]) = S ++ [stP s zq fq] := List.take_length
   have tk2 : List.take E.length E = E := List.take_length
   simp only [tk1, tk2]
   have hr2 : (decide (0 <= (S.length : Int)) && decide ((S.length : Int) < zi (S ++ [stP s zq fq]).length) && true) = true := by simp [zi]; omega
   refine (Jc (by simp [zi]; omega)).trans ((Jc ?_).trans ((Jc hr2).trans ((Jc rfl).trans ((Jc ?_).trans ((Jc hr2).trans ((Jc rfl).trans ((Jc ?_).trans ?_)))))))
   · have : (decide (0 <= (i : Int)) && decide ((i : Int) < zi l.length) && true && true) = true := by simp [zi]; omega
     exact this
   · rw [hs, hpo, hK, hih]; rfl
   · rw [hs, heD]; rfl
   cases hc : (QX ⟨s, seW ⟨p, K, s, i⟩⟩ == 0) with
   | false =>
     exact (Ji rfl).trans (IH S E (stP s zq fq) hup (by omega) (by omega))
   | true =>
     refine (Jc rfl).trans ((Jc (by simp [Jk]; omega)).trans ((Jc (by simp [Jk]; omega)).trans ?_))
     have e1 : (S ++ [stP s zq fq]).length + 1 = ((S ++ [stP s zq fq]) ++ [Jcw K p i (stP s zq fq)]).length := by simp
     have e2 : E.length + 1 = (E ++ [ewP (seW ⟨p, K, s, i⟩)]).length := by simp
     have e3 : (E.isEmpty && false) = (E ++ [ewP (seW ⟨p, K, s, i⟩)]).isEmpty := by simp
     rw [e1, e2, e3]
     refine (IH (S ++ [stP s zq fq]) (E ++ [ewP (seW ⟨p, K, s, i⟩)]) (Jcw K p i (stP s zq fq)) hnx (by simp; omega) (by simp; omega)).trans ?_
     simp only [cond_true, List.map_cons, List.append_assoc, List.cons_append, List.nil_append]
def Jib : List PV -> List Ent -> (Res -> Option Res) -> Option Res
 | [.st 31 [.ro 5 z0 f0 k0, .ro 5 z1 f1 k1, .ro 5 z2 f2 k2], .ro 106 z f l], [], k =>
  bif lOk l && kO3 [.ro 5 z0 f0 k0, .ro 5 z1 f1 k1, .ro 5 z2 f2 k2] then k ⟨.tup [.ro 93 (bE ⟨[.ro 5 z0 f0 k0, .ro 5 z1 f1 k1, .ro 5 z2 f2 k2], l⟩).isEmpty false (bE ⟨[.ro 5 z0 f0 k0, .ro 5 z1 f1 k1, .ro 5 z2 f2 k2], l⟩), .ro 41 false false (bS ⟨[.ro 5 z0 f0 k0, .ro 5 z1 f1 k1, .ro 5 z2 f2 k2], l⟩)], [], []⟩ else none
 | _, _, _ => none
def Jyt : Sig := { own := [], run := Jib }
theorem JtX (z0 f0 : Bool) (k0 : List PV) (z1 f1 : Bool) (k1 : List PV) (z2 f2 : Bool) (k2 : List PV) (z f : Bool) (l : List PV) (hl : lOk l = true) (hK : kO3 [.ro 5 z0 f0 k0, .ro 5 z1 f1 k1, .ro 5 z2 f2 k2] = true) (k : Res -> Option Res) :
   g20 50 z0 f0 k0 z1 f1 k1 z2 f2 k2 z f l k = k ⟨.tup [.ro 93 (bE ⟨[.ro 5 z0 f0 k0, .ro 5 z1 f1 k1, .ro 5 z2 f2 k2], l⟩).isEmpty false (bE ⟨[.ro 5 z0 f0 k0, .ro 5 z1 f1 k1, .ro 5 z2 f2 k2], l⟩), .ro 41 false false (bS ⟨[.ro 5 z0 f0 k0, .ro 5 z1 f1 k1, .ro 5 z2 f2 k2], l⟩)], [], []⟩ := by
 obtain ⟨h1, h2, h3⟩ := JaZ.1 hl
 unfold g20
 have hL : (apI (apI (apI (apI [] 0) 3) 0) 1) = h0L := rfl
 have hlen : h0L.length = 32 := by unfold h0L; simp only [XV]; rfl
 have hall : Jj .u8 h0L = true := by unfold h0L; simp only [Vf, Q8, JR, Bool.and_true]; rfl
 have hq : PV.st 41 [PV.st 34 [.sc (.int .i64 0), .sc (.int .i64 3)], .sc (.string (ByteArray.mk (Array.mk []))), .ro 45 false false [PV.st 45 [.sc (.int .i64 0), .sc (.int .i64 1)]], .sc (.int .i64 0), .ar 37 (pu .u8 (JT (Jw (List.take h0L.length h0L))))] = q0 := rfl
 simp only [hL, hq]
 have okl : ∀ l : List PV, l.length <= 1000 -> okL l.length l = true := fun l h => Q5 (by omega)
 refine (Jc (okl _ (by simp only [XV]; simp))).trans ((Jc (okl _ (by simp only [XV]; simp))).trans ((Jc (okl _ (by simp only [XV]; simp))).trans ((Jc ?_).trans ?_)))
 · rw [List.take_length, hall, hlen]; rfl
 refine (Jrp l z f hl z0 f0 k0 z1 f1 k1 z2 f2 k2 hK 50 _ l.length 0 50 [] [] q0 (by omega) (by omega) Jm9 (Nat.le_refl _) (Nat.le_refl _)).trans ?_
 rw [Jys, Jro]
 simp only [List.drop_zero, List.nil_append, List.take_length]
 rfl
theorem Jyu : Jg tau Try.prog 20 Jyt := Jg.mk' fun xs es k res hl hr => by
 change Jib xs es k = some res at hr
 unfold Jib at hr
 split at hr
 · rename_i z0 f0 k0 z1 f1 k1 z2 f2 k2 z f l
   obtain ⟨hc, hr⟩ := JE hr
   rw [Bool.and_eq_true] at hc
   exact Qr Jp Jm7 Jq Jyq Jyr (Jpx (Jcf 50)) [.ro, .ro] 0 0 (JAZ 50) hl rfl ((e20 50 z0 f0 k0 z1 f1 k1 z2 f2 k2 z f l k).trans ((JtX z0 f0 k0 z1 f1 k1 z2 f2 k2 z f l hc.1 hc.2 k).trans hr))
 · cases hr
def F22 : Fns := F0
theorem JtY : Jy tau Try.prog F22 := JD
def Jpz : An := (.seq .leaf (.seq .leaf .leaf))
def g22 (f : Nat) (y0 y1 : Int) (y2 : ByteArray) (y3 y4 : Bool) (y5 : List PV) (y6 : Int) (y7 : List PV) (k : Res -> Option Res) : Option Res := k (Res.mk (.st 39 [.st 34 [.sc (.int .i64 y0), .sc (.int .i64 y1)], .sc (.string y2), .ro 45 y3 y4 y5, .sc (.int .i64 y6), .ar 37 y7]) [] [])
theorem e22 (f : Nat) (y0 y1 : Int) (y2 : ByteArray) (y3 y4 : Bool) (y5 : List PV) (y6 : Int) (y7 : List PV) (k : Res -> Option Res) : JQ tau F22 Try.f22 (Try.f22.body.get!) Jpz [.ro] 0 [.st 41 [.st 34 [.sc (.int .i64 y0), .sc (.int .i64 y1)], .sc (.string y2), .ro 45 y3 y4 y5, .sc (.int .i64 y6), .ar 37 y7]] [] k = g22 f y0 y1 y2 y3 y4 y5 y6 y7 k := by kernel_rfl
theorem JA1 (f : Nat) : Jf (Try.f22.body.get!) Jpz = [] := by kernel_rfl
theorem JA2 (f : Nat) : ∀ q ∈ Jf (Try.f22.body.get!) Jpz, q.Ok tau Try.prog 0 := by
 rw [JA1 f]; intro q hq; cases hq
theorem Jyv : Try.prog.funcs[22]? = some Try.f22 := by kernel_rfl
theorem Jyw : Try.f22.body = some (Try.f22.body.get!) := by kernel_rfl
theorem JA3 : Enters Try.prog 22 := enters_of Jyv (by kernel_rfl) Jyw
def Jna : List PV -> List Ent -> (Res -> Option Res) -> Option Res
 | [.st 41 [.st 34 [.sc (.int .i64 y0), .sc (.int .i64 y1)], .sc (.string y2), .ro 45 y3 y4 y5, .sc (.int .i64 y6), .ar 37 y7]], [], k => g22 0 y0 y1 y2 y3 y4 y5 y6 y7 k
 | _, _, _ => none
def s22 : Sig := { own := [], run := Jna }
theorem JA4 : Jg tau Try.prog 22 s22 := J0 Jp JtY Jq Jyv Jyw Jpz [.ro] 0 [] Jna (JA2 0) fun xs es k res hr => by
 unfold Jna at hr
 split at hr
 · exact ⟨rfl, 0, (e22 0 _ _ _ _ _ _ _ _  _).trans hr⟩
 · cases hr
def F3 : Fns := JH 24 Jpp (JH 23 JxV (JH 22 s22 (JH 21 JxQ (JH 20 Jyt (JH 19 s19 (JH 18 JxX (F0)))))))
theorem Jyx : Jy tau Try.prog F3 := (((((((JD).add JxY JzS).add JAG JAF).add Jyu JA0).add JxS JAB).add JA4 JA3).add JxW Jzx).add JmZ JtK
def an3 : An := (.seq .leaf (.seq (.seq .leaf (.cond (.seq .leaf .leaf) .leaf)) (.seq (.seq .leaf (.cond (.seq .leaf .leaf) .leaf)) (.seq .leaf (.seq .leaf (.seq (.seq .leaf (.cond (.seq .leaf .leaf) .leaf)) (.seq (.seq .leaf (.block none (.seq .leaf (.cond .leaf (.seq .leaf (.cond .leaf (.seq .leaf (.cond .leaf (.seq .leaf (.cond .leaf (.seq .leaf (.cond .leaf (.seq .leaf (.cond (.seq (.seq .leaf (.cond (.seq .leaf .leaf) .leaf)) (.seq .leaf .leaf)) .leaf)))))))))))))) (.seq .leaf .leaf))))))))
noncomputable abbrev Zy (l : List PV) := (bS (BL.mk [.ro 5 false false (kb 0 []), .ro 5 false false (kb 1 []), .ro 5 false false (kb 2 [])] l))
noncomputable abbrev JJ (l : List PV) := ((Zy l).getD (IntKind.i64.wrap (zi (Zy l).length - 1)).toNat PV.top)
noncomputable abbrev Qs (l : List PV) := (SV.mk (PV.child 0 (PV.child 0 (JJ l))).int (PV.child (0 + 1) (PV.child 0 (JJ l))).int (PV.child (0 + 1) (JJ l)).str (PV.child (0 + 1 + 1) (JJ l)).els (PV.child (0 + 1 + 1 + 1) (JJ l)).int (PV.child (0 + 1 + 1 + 1 + 1) (JJ l)).els)
noncomputable abbrev Jki (l : List PV) (n : Int) := (SV.mk (PV.child 0 (PV.child 0 (JJ l))).int (PV.child (0 + 1) (PV.child 0 (JJ l))).int (PV.child (0 + 1) (JJ l)).str (PV.child (0 + 1 + 1) (JJ l)).els (PV.child (0 + 1 + 1 + 1) (JJ l)).int ((PV.child (0 + 1 + 1 + 1 + 1) (JJ l)).els.set (n % 32).toNat (PV.sc (.int .u8 (IntKind.u8.wrap ((Jb (PV.st 39 [.st 34 [.sc (.int .i64 (PV.child 0 (PV.child 0 (JJ l))).int), .sc (.int .i64 (PV.child (0 + 1) (PV.child 0 (JJ l))).int)], .sc (.string (PV.child (0 + 1) (JJ l)).str), .ro 45 (PV.child (0 + 1 + 1) (JJ l)).nl (PV.child (0 + 1 + 1) (JJ l)).fl (PV.child (0 + 1 + 1) (JJ l)).els, .sc (.int .i64 (PV.child (0 + 1 + 1 + 1) (JJ l)).int), .ar 37 (PV.child (0 + 1 + 1 + 1 + 1) (JJ l)).els]) [4, (n % 32).toNat]).int + 1))))))
noncomputable abbrev Jkj (l : List PV) (n : Int) := (SV.mk (PV.child 0 (PV.child 0 (JJ l))).int (PV.child (0 + 1) (PV.child 0 (JJ l))).int (PV.child (0 + 1) (JJ l)).str (List.take (0 + (PV.child (0 + 1 + 1) (JJ l)).els.length) ((PV.child (0 + 1 + 1) (JJ l)).els.set (0 + (n % zi (0 + (PV.child (0 + 1 + 1) (JJ l)).els.length)).toNat) (Ys ((PV.child (0 + 1 + 1) (JJ l)).els.getD (0 + (n % zi (0 + (PV.child (0 + 1 + 1) (JJ l)).els.length)).toNat) PV.top) [1] (PV.sc (.int .i64 (IntKind.i64.wrap ((Jb ((PV.child (0 + 1 + 1) (JJ l)).els.getD (0 + (n % zi (0 + (PV.child (0 + 1 + 1) (JJ l)).els.length)).toNat) PV.top) [1]).int + 9))))))) (PV.child (0 + 1 + 1 + 1) (JJ l)).int (PV.child (0 + 1 + 1 + 1 + 1) (JJ l)).els)
noncomputable abbrev Jkk (l : List PV) := (SV.mk (PV.child 0 (PV.child 0 (JJ l))).int (PV.child (0 + 1) (PV.child 0 (JJ l))).int (PV.child (0 + 1) (JJ l)).str (List.take (0 + (PV.child (0 + 1 + 1) (JJ l)).els.length + 1) (List.take (0 + (PV.child (0 + 1 + 1) (JJ l)).els.length) (PV.child (0 + 1 + 1) (JJ l)).els ++ [.st 45 [.sc (.int .i64 0), .sc (.int .i64 7)]])) (PV.child (0 + 1 + 1 + 1) (JJ l)).int (PV.child (0 + 1 + 1 + 1 + 1) (JJ l)).els)
noncomputable abbrev Jkl (l : List PV) := (SV.mk (PV.child 0 (PV.child 0 (JJ l))).int (PV.child (0 + 1) (PV.child 0 (JJ l))).int ((PV.child (0 + 1) (JJ l)).str ++ ByteArray.mk (Array.mk (u8l [120]))) (PV.child (0 + 1 + 1) (JJ l)).els (PV.child (0 + 1 + 1 + 1) (JJ l)).int (PV.child (0 + 1 + 1 + 1 + 1) (JJ l)).els)
noncomputable abbrev Jkm (l : List PV) := (SV.mk (PV.child 0 (PV.child 0 (JJ l))).int (IntKind.i64.wrap ((PV.child (0 + 1) (PV.child 0 (JJ l))).int + 1)) (PV.child (0 + 1) (JJ l)).str (PV.child (0 + 1 + 1) (JJ l)).els (PV.child (0 + 1 + 1 + 1) (JJ l)).int (PV.child (0 + 1 + 1 + 1 + 1) (JJ l)).els)
noncomputable abbrev Jkn (l : List PV) := (SV.mk (PV.child 0 (PV.child 0 (JJ l))).int (PV.child (0 + 1) (PV.child 0 (JJ l))).int (PV.child (0 + 1) (JJ l)).str (PV.child (0 + 1 + 1) (JJ l)).els (IntKind.i64.wrap ((PV.child (0 + 1 + 1 + 1) (JJ l)).int + 1)) (PV.child (0 + 1 + 1 + 1 + 1) (JJ l)).els)
noncomputable abbrev JpA (l : List PV) := (PV.isSt 41 #[Field.mk "Id" 34 0 false "" "" 0, Field.mk "Doc" 9 2 false "" "" 16, Field.mk "People" 35 3 false "" "" 32, Field.mk "Version" 3 4 false "" "" 56, Field.mk "Hash" 37 5 false "" "" 64].size (JJ l) && (PV.isSt (Field.mk "Id" 34 0 false "" "" 0).type #[Field.mk "Host" 3 0 false "" "" 0, Field.mk "N" 3 1 false "" "" 8].size (PV.child 0 (JJ l)) && (PV.isInt IntKind.i64 (PV.child 0 (PV.child 0 (JJ l))) && (PV.isInt IntKind.i64 (PV.child (0 + 1) (PV.child 0 (JJ l))) && true)) && ((PV.child (0 + 1) (JJ l)).isStr && (PV.isRo 45 (PV.child (0 + 1 + 1) (JJ l)) && (PV.isInt IntKind.i64 (PV.child (0 + 1 + 1 + 1) (JJ l)) && (PV.isAr (Field.mk "Hash" 37 5 false "" "" 64).type (PV.child (0 + 1 + 1 + 1 + 1) (JJ l)) && true))))))
def g3 (f : Nat) (l_z l_f : Bool) (l : List PV) (which n : Int) (k : Res -> Option Res) : Option Res := bif !decide (zi l.length <= 25) then k (Res.mk (.sc (.bool true)) [] []) else bif lOk l && kO3 [.ro 5 false false (kb 0 []), .ro 5 false false (kb 1 []), .ro 5 false false (kb 2 [])] then bif decide (0 <= IntKind.i64.wrap (zi (Zy l).length - 1)) && decide (IntKind.i64.wrap (zi (Zy l).length - 1) < zi (Zy l).length) && (JpA l) && true then bif decide (0 <= IntKind.i64.wrap (zi (Zy l).length - 1)) && decide (IntKind.i64.wrap (zi (Zy l).length - 1) < zi (Zy l).length) && (JpA l) && true then bif wOk (Qs l) && wOk (Qs l) then bif !QC (SW.mk (Qs l) (Qs l)) then k (Res.mk (.sc (.bool false)) [] []) else bif okW 6 then bif which % 6 == 0 then bif wOk (Qs l) && wOk (Jkm l) then bif !QC (SW.mk (Qs l) (Jkm l)) then bif wOk (Jkm l) && wOk (Qs l) then k (Res.mk (.sc (.bool !QC (SW.mk (Jkm l) (Qs l)))) [] []) else none else k (Res.mk (.sc (.bool false)) [] []) else none else bif which % 6 == 1 then bif decide ((PV.child (0 + 1) (JJ l)).str.size + 1 <= 9223372036854775807) && true then bif wOk (Qs l) && wOk (Jkl l) then bif !QC (SW.mk (Qs l) (Jkl l)) then bif wOk (Jkl l) && wOk (Qs l) then k (Res.mk (.sc (.bool !QC (SW.mk (Jkl l) (Qs l)))) [] []) else none else k (Res.mk (.sc (.bool false)) [] []) else none else none else bif which % 6 == 2 then bif Jk (0 + (PV.child (0 + 1 + 1) (JJ l)).els.length) 16 && true then bif Jk (0 + (PV.child (0 + 1 + 1) (JJ l)).els.length + 1) 16 && true then bif wOk (Qs l) && wOk (Jkk l) then bif !QC (SW.mk (Qs l) (Jkk l)) then bif wOk (Jkk l) && wOk (Qs l) then k (Res.mk (.sc (.bool !QC (SW.mk (Jkk l) (Qs l)))) [] []) else none else k (Res.mk (.sc (.bool false)) [] []) else none else none else none else bif which % 6 == 3 then bif wOk (Qs l) && wOk (Jkn l) then bif !QC (SW.mk (Qs l) (Jkn l)) then bif wOk (Jkn l) && wOk (Qs l) then k (Res.mk (.sc (.bool !QC (SW.mk (Jkn l) (Qs l)))) [] []) else none else k (Res.mk (.sc (.bool false)) [] []) else none else bif which % 6 == 4 then bif okW 32 then bif decide (0 <= n % 32) && decide (n % 32 < zi 32) && true then bif PV.isInt IntKind.u8 (Jb (PV.st 39 [.st 34 [.sc (.int .i64 (PV.child 0 (PV.child 0 (JJ l))).int), .sc (.int .i64 (PV.child (0 + 1) (PV.child 0 (JJ l))).int)], .sc (.string (PV.child (0 + 1) (JJ l)).str), .ro 45 (PV.child (0 + 1 + 1) (JJ l)).nl (PV.child (0 + 1 + 1) (JJ l)).fl (PV.child (0 + 1 + 1) (JJ l)).els, .sc (.int .i64 (PV.child (0 + 1 + 1 + 1) (JJ l)).int), .ar 37 (PV.child (0 + 1 + 1 + 1 + 1) (JJ l)).els]) [4, (n % 32).toNat]) && true then bif decide (0 <= n % 32) && decide (n % 32 < zi 32) && true then bif wOk (Qs l) && wOk (Jki l n) then bif !QC (SW.mk (Qs l) (Jki l n)) then bif wOk (Jki l n) && wOk (Qs l) then k (Res.mk (.sc (.bool !QC (SW.mk (Jki l n) (Qs l)))) [] []) else none else k (Res.mk (.sc (.bool false)) [] []) else none else none else none else none else none else bif which % 6 == 5 then bif zi (PV.child (0 + 1 + 1) (JJ l)).els.length == 0 then k (Res.mk (.sc (.bool true)) [] []) else bif Jk (0 + (PV.child (0 + 1 + 1) (JJ l)).els.length) 16 && true then bif okW (zi (0 + (PV.child (0 + 1 + 1) (JJ l)).els.length)) then bif decide (0 <= n % zi (0 + (PV.child (0 + 1 + 1) (JJ l)).els.length)) && decide (n % zi (0 + (PV.child (0 + 1 + 1) (JJ l)).els.length) < zi (0 + (PV.child (0 + 1 + 1) (JJ l)).els.length)) && true then bif PV.isInt IntKind.i64 (Jb ((PV.child (0 + 1 + 1) (JJ l)).els.getD (0 + (n % zi (0 + (PV.child (0 + 1 + 1) (JJ l)).els.length)).toNat) PV.top) [1]) && true then bif decide (0 <= n % zi (0 + (PV.child (0 + 1 + 1) (JJ l)).els.length)) && decide (n % zi (0 + (PV.child (0 + 1 + 1) (JJ l)).els.length) < zi (0 + (PV.child (0 + 1 + 1) (JJ l)).els.length)) && true then bif wOk (Qs l) && wOk (Jkj l n) then bif !QC (SW.mk (Qs l) (Jkj l n)) then bif wOk (Jkj l n) && wOk (Qs l) then k (Res.mk (.sc (.bool !QC (SW.mk (Jkj l n) (Qs l)))) [] []) else none else k (Res.mk (.sc (.bool false)) [] []) else none else none else none else none else none else none else bif wOk (Qs l) && wOk (Qs l) then bif !QC (SW.mk (Qs l) (Qs l)) then bif wOk (Qs l) && wOk (Qs l) then k (Res.mk (.sc (.bool !QC (SW.mk (Qs l) (Qs l)))) [] []) else none else k (Res.mk (.sc (.bool false)) [] []) else none else none else none else none else none else none
theorem e3 (f : Nat) (l_z l_f : Bool) (l : List PV) (which n : Int) (k : Res -> Option Res) : JQ tau F3 Try.f3 (Try.f3.body.get!) an3 [.ro] 0 [.ro 106 l_z l_f l, .sc (.int .i64 which), .sc (.int .i64 n)] [] k = g3 f l_z l_f l which n k := by kernel_rfl
theorem it3 (f : Nat) : Jf (Try.f3.body.get!) an3 = [] := by kernel_rfl
theorem ia3 (f : Nat) : ∀ q ∈ Jf (Try.f3.body.get!) an3, q.Ok tau Try.prog 0 := by
 rw [it3 f]; intro q hq; cases hq
theorem fo3 : Try.prog.funcs[3]? = some Try.f3 := by kernel_rfl
theorem bo3 : Try.f3.body = some (Try.f3.body.get!) := by kernel_rfl
def JtZ : List PV -> List Ent -> (Res -> Option Res) -> Option Res
 | [.ro 106 l_z l_f l, .sc (.int .i64 which), .sc (.int .i64 n)], [], k => g3 0 l_z l_f l which n k
 | _, _, _ => none
def s3 : Sig := { own := [], run := JtZ }
theorem ok3 : Jg tau Try.prog 3 s3 := J0 Jp Jyx Jq fo3 bo3 an3 [.ro] 0 [] JtZ (ia3 0) fun xs es k res hr => by
 unfold JtZ at hr
 split at hr
 · exact ⟨rfl, 0, (e3 0 _ _ _ _ _  _).trans hr⟩
 · cases hr
-- FN
def kk (key : List PV) : List PV := [.ro 5 false false (kb 0 key), .ro 5 false false (kb 1 key), .ro 5 false false (kb 2 key)]
theorem Jt0 {key : List PV} (h : byB key = true) : kO3 (kk key) = true := by
 have hkk : ∀ i, kOk (kb i key) = true := fun i => JxP i (Wt.1 h).1
 exact Jjp.2 ⟨hkk 0, hkk 1, hkk 2⟩
-- FN law13.WaveletSames
theorem JpB {K l : List PV} (hl : lOk l = true) : 0 < (bS ⟨K, l⟩).length /\ (bS ⟨K, l⟩).length <= 26 /\ BOk 25 ((bS ⟨K, l⟩).getD ((bS ⟨K, l⟩).length - 1) .top) := by
 obtain ⟨h1, h2, h3⟩ := JaZ.1 hl
 rw [Jro]
 have hlen := VC (K := K) l 0 q0
 refine ⟨by simp, by simp; omega, ?_⟩
 have hm : ∀ q ∈ q0 :: (bld K l 0 q0).map Prod.snd, BOk 25 q := fun q hq => by
  rcases List.mem_cons.1 hq with rfl | hq
  · exact Jm9.up (by decide)
  · obtain ⟨x, hx, rfl⟩ := List.mem_map.1 hq
    exact (Jia l 0 q0 h2 (Int.le_refl _) (by omega) Jm9 x hx).up (by omega)
 refine hm _ ?_
 rw [List.getD_eq_getElem?_getD, List.getElem?_eq_getElem (by simp)]
 exact List.getElem_mem _
theorem JaE {a b : List PV} (ha : Jj .u8 a = true) (hb : Jj .u8 b = true) : Qa a b = (Jw a == Jw b) := by
 conv => lhs; rw [Qp ha, Qp hb]
 exact GL _ _ _
theorem JeL {l : List PV} (h : Jj .u8 l = true) (i : Nat) (x : Int) : Jj .u8 (l.set i (.sc (.int .u8 x))) = true := by
 induction l generalizing i with
 | nil => exact h
 | cons p ps ih =>
  have e : ∀ (q : PV) (l : List PV), Jj .u8 (q :: l) = (q.isInt .u8 && Jj .u8 l) := fun _ _ => rfl
  rw [e, Bool.and_eq_true] at h
  cases i with
  | zero => rw [List.set_cons_zero, e, h.2]; rfl
  | succ i => rw [List.set_cons_succ, e, ih h.2 i, h.1]; rfl
theorem JpC {l : List PV} (h : Jj .u8 l = true) {i : Nat} (hi : i < l.length) : (l.getD i .top).isInt .u8 = true := by
 induction l generalizing i with
 | nil => simp at hi
 | cons p ps ih =>
  have e : Jj .u8 (p :: ps) = (p.isInt .u8 && Jj .u8 ps) := rfl
  rw [e, Bool.and_eq_true] at h
  cases i with
  | zero => exact h.1
  | succ i => simpa using ih h.2 (by simpa using hi)
theorem G8 (l : List PV) {i : Nat} (h : i < l.length) : (Jw l)[i]? = some (l.getD i .top).int := by
 simp [Jw, List.getD_eq_getElem?_getD, h]
theorem JpD (z f : Bool) (l : List PV) (which n : Int) (h1 : l.all Jgh = true) (h2 : ∀ p ∈ l, Zw (sp p) = true) (k : Res -> Option Res) :
   g3 0 z f l which n k = k ⟨.sc (.bool true), [], []⟩ := by
 unfold g3
 by_cases hl : ¬ l.length <= 25
 · exact Jc (by simp [zi]; omega)
 have hl := Decidable.not_not.1 hl
 have hlo : lOk l = true := JaZ.2 ⟨h1, h2, hl⟩
 have hK : kO3 [.ro 5 false false (kb 0 []), .ro 5 false false (kb 1 []), .ro 5 false false (kb 2 [])] = true := Jt0 rfl
 obtain ⟨L1, L2, hB⟩ := JpB (K := [.ro 5 false false (kb 0 []), .ro 5 false false (kb 1 []), .ro 5 false false (kb 2 [])]) hlo
 have hL9 : Zy l = bS ⟨[.ro 5 false false (kb 0 []), .ro 5 false false (kb 1 []), .ro 5 false false (kb 2 [])], l⟩ := rfl
 rw [← hL9] at L1 L2 hB
 have w1 : IntKind.i64.wrap (zi (Zy l).length - 1) = (((Zy l).length - 1 : Nat) : Int) := by
   rw [wrap_i64 (by simp only [zi]; omega) (by simp only [zi]; omega)]; simp only [zi]; omega
 obtain ⟨s, sz, sf, hs⟩ := Jdt.1 hB.st
 have hq : JJ l = stP s sz sf := by
   unfold JJ; rw [w1, Int.toNat_natCast]; exact hs
 rw [hs] at hB
 have hok : sOk s = true := hB.ok
 have hby : byB s.hash = true := hB.by1
 have hiN : s.iN = 3 := hB.iN
 obtain ⟨s1, s2, s3, s4, s5, s6⟩ := Yk.1 hok
 obtain ⟨p1, p2, p3⟩ := Q9.1 s1
 have e1 : Qs l = s := by unfold Qs; rw [hq]; rfl
 have e8 : JpA l = true := by unfold JpA; rw [hq]; rfl
 have e6 : Jkm l = ⟨s.ih, IntKind.i64.wrap (s.iN + 1), s.doc, s.l, s.ver, s.hash⟩ := by unfold Jkm; rw [hq]; rfl
 have e5 : Jkl l = ⟨s.ih, s.iN, s.doc ++ ByteArray.mk (Array.mk (u8l [120])), s.l, s.ver, s.hash⟩ := by unfold Jkl; rw [hq]; rfl
 have e7 : Jkn l = ⟨s.ih, s.iN, s.doc, s.l, IntKind.i64.wrap (s.ver + 1), s.hash⟩ := by unfold Jkn; rw [hq]; rfl
 have e4 : Jkk l = ⟨s.ih, s.iN, s.doc, s.l ++ [adP ⟨0, 7⟩], s.ver, s.hash⟩ := by
   unfold Jkk; rw [hq]
   show SV.mk s.ih s.iN s.doc (List.take (0 + s.l.length + 1) (List.take (0 + s.l.length) s.l ++ [adP ⟨0, 7⟩])) s.ver s.hash = _
   rw [List.take_of_length_le (l := s.l) (by omega), List.take_of_length_le (by simp)]
 have e2 : Jki l n = ⟨s.ih, s.iN, s.doc, s.l, s.ver, s.hash.set (n % 32).toNat (.sc (.int .u8 (IntKind.u8.wrap ((s.hash.getD (n % 32).toNat .top).int + 1))))⟩ := by unfold Jki; rw [hq]; rfl
 have e3 : Jkj l n = ⟨s.ih, s.iN, s.doc, s.l.set (n % zi s.l.length).toNat (Ys (s.l.getD (n % zi s.l.length).toNat .top) [1] (.sc (.int .i64 (IntKind.i64.wrap ((Jb (s.l.getD (n % zi s.l.length).toNat .top) [1]).int + 9))))), s.ver, s.hash⟩ := by
   unfold Jkj; rw [hq]
   show SV.mk s.ih s.iN s.doc (List.take (0 + s.l.length) (s.l.set (0 + (n % zi (0 + s.l.length)).toNat) (Ys (s.l.getD (0 + (n % zi (0 + s.l.length)).toNat) .top) [1] (.sc (.int .i64 (IntKind.i64.wrap ((Jb (s.l.getD (0 + (n % zi (0 + s.l.length)).toNat) .top) [1]).int + 9))))))) s.ver s.hash = _
   simp only [Nat.zero_add]
   rw [List.take_of_length_le (by simp)]
 have ad : JbP s.l = true := Y1.2 ⟨p1, by omega⟩
 have hw : wOk s = true := WE.2 ⟨ad, s2⟩
 obtain ⟨c1, c2⟩ := h32_iff.1 s2
 have self : QC ⟨s, s⟩ = true := by
   rw [Qj]; simp only [beq_self_eq_true, Jkh, ZM, Jc3, Jgc c1, Bool.and_self]
 have T : ∀ s' : SV, wOk s' = true -> QC ⟨s, s'⟩ = false -> QC ⟨s', s⟩ = false -> (bif wOk s && wOk s' then bif !QC ⟨s, s'⟩ then bif wOk s' && wOk s then k ⟨.sc (.bool !QC ⟨s', s⟩), [], []⟩ else none else k ⟨.sc (.bool false), [], []⟩ else none) = k ⟨.sc (.bool true), [], []⟩ := fun s' a b c =>
   (Jc (by rw [hw, a]; rfl)).trans ((Jc (by rw [b]; rfl)).trans ((Jc (by rw [hw, a]; rfl)).trans (by rw [c]; rfl)))
 rw [w1, e1, e2, e3, e4, e5, e6, e7, e8, hq]
 have hc0 : (PV.child (0 + 1) (stP s sz sf)).str = s.doc := rfl
 have hc1 : (PV.child (0 + 1 + 1) (stP s sz sf)).els = s.l := rfl
 simp only [hc0, hc1]
 have hr : (decide (0 <= (((Zy l).length - 1 : Nat) : Int)) && decide ((((Zy l).length - 1 : Nat) : Int) < zi (Zy l).length) && true && true) = true := by
   rw [decide_eq_true (by omega : (0 : Int) <= (((Zy l).length - 1 : Nat) : Int)), decide_eq_true (by simp only [zi]; omega : (((Zy l).length - 1 : Nat) : Int) < zi (Zy l).length)]; rfl
 refine (Ji (by simp [zi]; omega)).trans ((Jc (by rw [hlo, hK]; rfl)).trans ((Jc hr).trans ((Jc hr).trans ((Jc (by rw [hw]; rfl)).trans ((Ji (by rw [self]; rfl)).trans ((Jc (JjD (by decide) (by decide))).trans ?_))))))
 obtain ⟨m1, m2⟩ := Ym which (m := 6) (by decide)
 have : which % 6 = 0 ∨ which % 6 = 1 ∨ which % 6 = 2 ∨ which % 6 = 3 ∨ which % 6 = 4 ∨ which % 6 = 5 := by omega
 rcases this with hc | hc | hc | hc | hc | hc
 · rw [hc]
   refine (Jc rfl).trans (T _ (WE.2 ⟨ad, s2⟩) ?_ ?_)
   · rw [Qj, hiN]; simp only [show ((3 : Int) == IntKind.i64.wrap (3 + 1)) = false from by decide, Bool.false_and, Bool.and_false]
   · rw [Qj, hiN]; simp only [show (IntKind.i64.wrap (3 + 1) == (3 : Int)) = false from by decide, Bool.false_and, Bool.and_false]
 · rw [hc]
   have hne : s.doc ≠ s.doc ++ ByteArray.mk (Array.mk (u8l [120])) := fun h => by
     have := congrArg ByteArray.size h
     rw [Wh, show (ByteArray.mk (Array.mk (u8l [120]))).size = 1 from rfl] at this; omega
   refine (Ji rfl).trans ((Jc rfl).trans ((Jc (by simp; omega)).trans (T _ (WE.2 ⟨ad, s2⟩) ?_ ?_)))
   · rw [Qj]; simp only [JaS, decide_eq_false hne, Bool.false_and, Bool.and_false]
   · rw [Qj]; simp only [JaS, decide_eq_false (Ne.symm hne), Bool.false_and, Bool.and_false]
 · rw [hc]
   have hln : (s.l ++ [adP ⟨0, 7⟩]).length = s.l.length + 1 := by simp
   refine (Ji rfl).trans ((Ji rfl).trans ((Jc rfl).trans ((Jc (by simp [Jk]; omega)).trans ((Jc (by simp [Jk]; omega)).trans (T _ (WE.2 ⟨Y1.2 ⟨by rw [List.all_append, p1]; rfl, by rw [hln]; omega⟩, s2⟩) ?_ ?_)))))
   · have : WS s.l (s.l ++ [adP ⟨0, 7⟩]) = false := Bool.eq_false_iff.2 fun h => by have := Ga h; omega
     rw [Qj]; simp only [ZM, this, Bool.false_and, Bool.and_false]
   · have : WS (s.l ++ [adP ⟨0, 7⟩]) s.l = false := Bool.eq_false_iff.2 fun h => by have := Ga h; omega
     rw [Qj]; simp only [ZM, this, Bool.false_and, Bool.and_false]
 · rw [hc]
   have wv : IntKind.i64.wrap (s.ver + 1) = s.ver + 1 := wrap_i64 (by omega) (by omega)
   rw [wv]
   refine (Ji rfl).trans ((Ji rfl).trans ((Ji rfl).trans ((Jc rfl).trans (T _ (WE.2 ⟨ad, s2⟩) ?_ ?_))))
   · rw [Qj]; simp only [show (s.ver == s.ver + 1) = false from beq_false_of_ne (by omega), Bool.false_and, Bool.and_false]
   · rw [Qj]; simp only [show (s.ver + 1 == s.ver) = false from beq_false_of_ne (by omega), Bool.false_and, Bool.and_false]
 · rw [hc]
   obtain ⟨i1, i2⟩ := Ym n (m := 32) (by decide)
   have hi : (n % 32).toNat < s.hash.length := by omega
   have hii := JpC c1 hi
   have hx := (Wt.1 hby).2 (s.hash.getD (n % 32).toNat .top).int (List.mem_of_getElem? (G8 s.hash hi))
   have hset : Jw (s.hash.set (n % 32).toNat (.sc (.int .u8 (IntKind.u8.wrap ((s.hash.getD (n % 32).toNat .top).int + 1))))) ≠ Jw s.hash := fun h => by
     have hg : ∀ v : PV, (s.hash.set (n % 32).toNat v).getD (n % 32).toNat .top = v := fun v => by rw [List.getD_eq_getElem?_getD, List.getElem?_set_self hi]; rfl
     have h1 := G8 (s.hash.set (n % 32).toNat (.sc (.int .u8 (IntKind.u8.wrap ((s.hash.getD (n % 32).toNat .top).int + 1))))) (i := (n % 32).toNat) (by rw [List.length_set]; exact hi)
     rw [h, G8 s.hash hi, hg] at h1
     have h1 : (s.hash.getD (n % 32).toNat .top).int = IntKind.u8.wrap ((s.hash.getD (n % 32).toNat .top).int + 1) := Option.some.inj h1
     generalize (s.hash.getD (n % 32).toNat .top).int = x at *
     rcases Int.lt_or_le x 255 with g | g
     · rw [Jm3 (by omega) (by omega)] at h1; omega
     · have : x = 255 := by omega
       subst this; exact absurd h1 (by decide)
   have hs32 : h32 (s.hash.set (n % 32).toNat (.sc (.int .u8 (IntKind.u8.wrap ((s.hash.getD (n % 32).toNat .top).int + 1))))) = true := h32_iff.2 ⟨JeL c1 _ _, by rw [List.length_set]; exact c2⟩
   have hrng : (decide (0 <= n % 32) && decide (n % 32 < zi 32) && true) = true := by simp [zi]; omega
   refine (Ji rfl).trans ((Ji rfl).trans ((Ji rfl).trans ((Ji rfl).trans ((Jc rfl).trans ((Jc (JjD (by decide) (by decide))).trans ((Jc hrng).trans ((Jc ?_).trans ((Jc hrng).trans (T _ (WE.2 ⟨ad, hs32⟩) ?_ ?_)))))))))
   · rw [Bool.and_true]; exact hii
   · rw [Qj]; simp only [JaE c1 (h32_iff.1 hs32).1, show (Jw s.hash == Jw (s.hash.set (n % 32).toNat (.sc (.int .u8 (IntKind.u8.wrap ((s.hash.getD (n % 32).toNat .top).int + 1)))))) = false from beq_false_of_ne (Ne.symm hset), Bool.false_and, Bool.and_false]
   · rw [Qj]; simp only [JaE (h32_iff.1 hs32).1 c1, show (Jw (s.hash.set (n % 32).toNat (.sc (.int .u8 (IntKind.u8.wrap ((s.hash.getD (n % 32).toNat .top).int + 1))))) == Jw s.hash) = false from beq_false_of_ne hset, Bool.false_and, Bool.and_false]
 · rw [hc]
   refine (Ji rfl).trans ((Ji rfl).trans ((Ji rfl).trans ((Ji rfl).trans ((Ji rfl).trans ((Jc rfl).trans ?_)))))
   by_cases h0 : s.l.length = 0
   · exact Jc (by rw [h0]; rfl)
   have hzl : zi s.l.length = (s.l.length : Int) := rfl
   obtain ⟨i1, i2⟩ := Ym n (m := zi s.l.length) (by omega)
   have hi : (n % zi s.l.length).toNat < s.l.length := by omega
   obtain ⟨a, ha⟩ := JbO.1 (WH p1 hi)
   have hu : 0 <= a.u /\ a.u <= 7 := by
     have hm : s.l.getD (n % zi s.l.length).toNat .top ∈ s.l := by rw [List.getD_eq_getElem?_getD, List.getElem?_eq_getElem hi]; exact List.getElem_mem _
     have := Jgf (List.all_eq_true.1 s6 _ hm)
     rw [ha] at this; exact this.2
   simp only [Nat.zero_add, ha]
   have hset : Ys (adP a) [1] (.sc (.int .i64 (IntKind.i64.wrap ((Jb (adP a) [1]).int + 9)))) = adP ⟨a.d, a.u + 9⟩ := by
     show adP ⟨a.d, IntKind.i64.wrap (a.u + 9)⟩ = _
     rw [wrap_i64 (by omega) (by omega)]
   rw [hset]
   have hne : s.l ≠ s.l.set (n % zi s.l.length).toNat (adP ⟨a.d, a.u + 9⟩) := fun h => by
     have h1 : s.l.getD (n % zi s.l.length).toNat .top = (s.l.set (n % zi s.l.length).toNat (adP ⟨a.d, a.u + 9⟩)).getD (n % zi s.l.length).toNat .top := by rw [← h]
     rw [ha, List.getD_eq_getElem?_getD, List.getElem?_set_self hi] at h1
     have h2 : (av (adP a)).u = (av (adP ⟨a.d, a.u + 9⟩)).u := by rw [show adP a = adP ⟨a.d, a.u + 9⟩ from h1]
     have h3 : a.u = a.u + 9 := h2
     omega
   have hall : (s.l.set (n % zi s.l.length).toNat (adP ⟨a.d, a.u + 9⟩)).all XY = true := List.all_eq_true.2 fun q hq => by
     rcases List.mem_or_eq_of_mem_set hq with h | h
     · exact List.all_eq_true.1 p1 q h
     · rw [h]; rfl
   have hr5 : (decide (0 <= n % zi s.l.length) && decide (n % zi s.l.length < zi s.l.length) && true) = true := by rw [decide_eq_true i1, decide_eq_true i2]; rfl
   refine (Ji (beq_false_of_ne (by omega))).trans ((Jc (by simp [Jk]; omega)).trans ((Jc (JjD (by omega) (by omega))).trans ((Jc hr5).trans ((Jc rfl).trans ((Jc hr5).trans (T _ (WE.2 ⟨Y1.2 ⟨hall, by rw [List.length_set]; omega⟩, s2⟩) ?_ ?_))))))
   · have : WS s.l (s.l.set (n % zi s.l.length).toNat (adP ⟨a.d, a.u + 9⟩)) = false := Bool.eq_false_iff.2 fun h => hne ((JbQ p1 hall).1 h)
     rw [Qj]; simp only [ZM, this, Bool.false_and, Bool.and_false]
   · have : WS (s.l.set (n % zi s.l.length).toNat (adP ⟨a.d, a.u + 9⟩)) s.l = false := Bool.eq_false_iff.2 fun h => hne ((JbQ hall p1).1 h).symm
     rw [Qj]; simp only [ZM, this, Bool.false_and, Bool.and_false]
theorem JjK {n : Nat} {p : PV} (h : Ty tau (n + 3) 106 p) : Jgh p = true /\ Zw (sp p) = true := by
 obtain ⟨fs, rfl, hf⟩ := Jkg (n := n + 2) (T := 106) (tys := [3, 3, 3, 55]) (by kernel_rfl) (List.cons_ne_nil _ _) h
 obtain ⟨p1, r1, rfl, h1, hf⟩ := JmT hf
 obtain ⟨p2, p3, p4, rfl, h2, h3, h4⟩ := JxM hf
 obtain ⟨a, rfl, _⟩ := Jcc h1
 obtain ⟨b, rfl, _⟩ := Jcc h2
 obtain ⟨c, rfl, _⟩ := Jcc h3
 obtain ⟨z, ns, rfl, _, h5, h6⟩ := Jpi h4
 have e1 : maxLen <= 9223372036854775807 := by decide
 exact ⟨rfl, Jce.2 ⟨h6, by show ns.length <= _; omega⟩⟩
theorem Jnb {n : Nat} {p : PV} (h : Ty tau (n + 4) 22 p) : ∃ z l, p = .ro 106 z false l /\ l.all Jgh = true /\ (∀ q ∈ l, Zw (sp q) = true) := by
 have u : tau.und 22 = some (.slice 106) := by kernel_rfl
 obtain ⟨z, b, rfl, h1, h2, h3⟩ := Jfl u h
 exact ⟨z, b, rfl, List.all_eq_true.2 fun q hq => (JjK (h3 q hq)).1, fun q hq => (JjK (h3 q hq)).2⟩
def Jnc : List PV -> List Ent -> (Res -> Option Res) -> Option Res
 | [.ro 106 z f l, .sc (.int .i64 which), .sc (.int .i64 n)], [], k => bif l.all Jgh && l.all (fun p => Zw (sp p)) then k ⟨.sc (.bool true), [], []⟩ else none
 | _, _, _ => none
def s3' : Sig := { own := [], run := Jnc }
theorem JA5 : Jg tau Try.prog 3 s3' := ok3.of fun xs es k res hr => by
 change Jnc xs es k = some res at hr
 unfold Jnc at hr
 split at hr
 · rename_i z f l which n
   obtain ⟨hc, hr⟩ := JE hr
   rw [Bool.and_eq_true] at hc
   exact (JpD z f l which n hc.1 (List.all_eq_true.1 hc.2) k).trans hr
 · cases hr
theorem Jko : ∀ pvs, TyL tau 6 [22, 3, 3] pvs -> s3'.run pvs [] some = some ⟨.sc (.bool true), [], []⟩ := by
 intro pvs h
 obtain ⟨p1, p2, p3, rfl, h1, h2, h3⟩ := JxM h
 obtain ⟨z, l, rfl, a1, a2⟩ := Jnb (n := 2) h1
 obtain ⟨w, rfl, _⟩ := Jcc (n := 5) h2
 obtain ⟨n, rfl, _⟩ := Jcc (n := 5) h3
 exact Jc (by rw [a1, List.all_eq_true.2 a2]; rfl)
end
end Go.Proofs.Ytcklhipdldpkhaa.Rx
