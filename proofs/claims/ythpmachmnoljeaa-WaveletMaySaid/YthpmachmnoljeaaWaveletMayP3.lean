/- What the functions of this law compute, and their plain laws. Conditions: none. -/
import Derived.KernelRfl
import Derived.Test.YthpmachmnoljeaaWaveletMayP2
namespace Go.Proofs.Ythpmachmnoljeaa.Rx
noncomputable section
open Go
set_option linter.unusedVariables false
set_option linter.unusedSimpArgs false
set_option maxRecDepth 100000
set_option maxHeartbeats 0
def N37 : Nat := 62
def F37 : Fns := JG 85 Jx5 (JG 84 JyR (JG 83 Js4 (JG 82 s82 (JG 81 s81 (JG 67 s67 (JG 65 s65 (F0)))))))
theorem Jmn : Jy tau Try.prog F37 := (((((((JE).add JyD JyC).add JyH JyG).add Jwe Jwd).add Jwi Jwh).add Jrf Jwl).add JyS JCD).add Jx6 JBh
def Jdr : Code := Qj (Try.f37.body.get!) [1, 1, 1, 0, 1, 0, 0]
def Yo : Nm := [(2, .any), (4, .any), (5, .any), (21, .any)]
def Zt : Nm := [(2, .any), (4, .any), (5, .any)]
def Jgc : An := (.seq .leaf (.seq (.cond .leaf .leaf) (.seq (.block none (.seq .leaf .leaf)) .leaf)))
def JpA (r0 : QC) : An := (.seq .leaf (.seq .leaf (.seq .leaf (.seq (.seq .leaf (.block none (.sum Yo N37 r0))) (.seq .leaf (.seq .leaf (.seq .leaf (.seq .leaf (.seq (.seq .leaf (.cond .leaf .leaf)) (.seq (.seq .leaf (.cond .leaf .leaf)) (.seq (.seq .leaf (.cond (.seq .leaf .leaf) .leaf)) (.seq .leaf .leaf))))))))))))
def Gq (f : Nat) (rc : Int -> Int -> Int -> Int -> Int -> List PV -> Int -> List PV -> Int -> Int -> Bool -> Bool -> List PV -> Int -> Int -> Int -> Int -> Int -> List PV -> Int -> List PV -> Int -> Int -> Option Res) (k0 : Int -> Int -> Int -> Int -> List PV -> Int -> List PV -> Int -> Int -> Bool -> Bool -> List PV -> Int -> Int -> Int -> Int -> Int -> List PV -> Int -> List PV -> Int -> Int -> Option Res) (v0 v1 v2 v3 v4 : Int) (v5 : List PV) (v6 : Int) (v7 : List PV) (v8 v9 : Int) (v10 v11 : Bool) (v12 : List PV) (v13 v14 v15 v16 v17 : Int) (v18 : List PV) (v19 : Int) (v20 : List PV) (v21 v22 : Int) : Option Res := bif decide (v0 < 32) then bif (!v10 || v11) && true && byB v12 then bif decide (0 <= v0) && decide (v0 < zi 32) && true then rc (IntKind.i64.wrap (v0 + 1)) v1 v2 v3 v4 v5 v6 v7 v8 v9 v10 v11 ((Jb 1 (RS.mk v12 v13)).b) ((Jb 1 (RS.mk v12 v13)).e) v14 v15 v16 v17 (v18.set v0.toNat (.sc (.int .u8 (IntKind.u8.wrap (JB 1 (RS.mk v12 v13)))))) v19 v20 v21 v22 else none else none else k0 v1 v2 v3 v4 v5 v6 v7 v8 v9 v10 v11 v12 v13 v14 v15 v16 v17 v18 v19 v20 v21 v22
def Vx (f : Nat) (k0 : Int -> Int -> Int -> Int -> List
 PV -> Int -> List
 PV -> Int -> Int -> Bool -> Bool -> List
 PV -> Int -> Int -> Int -> Int -> Int -> List
 PV -> Int -> List
 PV -> Int -> Int -> Option Res) : Nat -> Int -> Int -> Int -> Int -> Int -> List
 PV -> Int -> List PV -> Int -> Int -> Bool -> Bool -> List PV -> Int -> Int -> Int -> Int -> Int -> List PV -> Int -> List PV -> Int -> Int -> Option Res
 | 0, _, _, _, _, _, _, _, _, _, _, _, _, _, _, _, _, _, _, _, _, _, _, _ => none
 | n + 1, v0, v1, v2, v3, v4, v5, v6, v7, v8, v9, v10, v11, v12, v13, v14, v15, v16, v17, v18, v19, v20, v21, v22 => Gq f (Vx f k0 n) k0 v0 v1 v2 v3 v4 v5 v6 v7 v8 v9 v10 v11 v12 v13 v14 v15 v16 v17 v18 v19 v20 v21 v22
theorem JpB (f : Nat) (k : Kont) (n : Nat) (v0 v1 v2 v3 v4 : Int) (v5 : List PV) (v6 : Int) (v7 : List PV) (v8 v9 : Int) (v10 v11 : Bool) (v12 : List PV) (v13 v14 v15 v16 v17 : Int) (v18 : List PV) (v19 : Int) (v20 : List PV) (v21 v22 : Int) : Jp tau 0 Yo (fun s k => ev tau F37 0 0 Jdr (Jgc ) s k) (n + 1) (Jc Yo N37 [.ptr 1008 [], .ptr 1009 [], .ptr 1010 [], .sc (.int .i64 v0)] [(1008, .box false 53 (PV.st 53 [.st 42 [.sc (.int .i64 v1), .sc (.int .i64 v2)], .sc (.int .i64 v3), .sc (.int .i64 v4), .ar 37 v5, .sc (.int .i64 v6), .ro 113 true true v7, .st 42 [.sc (.int .i64 v8), .sc (.int .i64 v9)]])), (1009, .box false 166 (PV.st 166 [.ro 5 v10 v11 v12, .sc (.int .i64 v13)])), (1010, .box false 53 (PV.st 53 [.st 42 [.sc (.int .i64 v14), .sc (.int .i64 v15)], .sc (.int .i64 v16), .sc (.int .i64 v17), .ar 37 v18, .sc (.int .i64 v19), .ro 113 true true v20, .st 42 [.sc (.int .i64 v21), .sc (.int .i64 v22)]]))]) (Jq tau 0 Zt k) = Gq f (fun v0 v1 v2 v3 v4 v5 v6 v7 v8 v9 v10 v11 v12 v13 v14 v15 v16 v17 v18 v19 v20 v21 v22 => Jp tau 0 Yo (fun s k => ev tau F37 0 0 Jdr (Jgc ) s k) n (Jc Yo N37 [.ptr 1008 [], .ptr 1009 [], .ptr 1010 [], .sc (.int .i64 v0)] [(1008, .box false 53 (PV.st 53 [.st 42 [.sc (.int .i64 v1), .sc (.int .i64 v2)], .sc (.int .i64 v3), .sc (.int .i64 v4), .ar 37 v5, .sc (.int .i64 v6), .ro 113 true true v7, .st 42 [.sc (.int .i64 v8), .sc (.int .i64 v9)]])), (1009, .box false 166 (PV.st 166 [.ro 5 v10 v11 v12, .sc (.int .i64 v13)])), (1010, .box false 53 (PV.st 53 [.st 42 [.sc (.int .i64 v14), .sc (.int .i64 v15)], .sc (.int .i64 v16), .sc (.int .i64 v17), .ar 37 v18, .sc (.int .i64 v19), .ro 113 true true v20, .st 42 [.sc (.int .i64 v21), .sc (.int .i64 v22)]]))]) (Jq tau 0 Zt k)) (fun x0 x1 x2 x3 x4 x5 x6 x7 x8 x9 x10 x11 x12 x13 x14 x15 x16 x17 x18 x19 x20 x21 => k (Ex.exit 0) (Jc Zt N37 [.ptr 1008 [], .ptr 1009 [], .ptr 1010 []] [(1008, .box false 53 (PV.st 53 [.st 42 [.sc (.int .i64 x0), .sc (.int .i64 x1)], .sc (.int .i64 x2), .sc (.int .i64 x3), .ar 37 x4, .sc (.int .i64 x5), .ro 113 true true x6, .st 42 [.sc (.int .i64 x7), .sc (.int .i64 x8)]])), (1009, .box false 166 (PV.st 166 [.ro 5 x9 x10 x11, .sc (.int .i64 x12)])), (1010, .box false 53 (PV.st 53 [.st 42 [.sc (.int .i64 x13), .sc (.int .i64 x14)], .sc (.int .i64 x15), .sc (.int .i64 x16), .ar 37 x17, .sc (.int .i64 x18), .ro 113 true true x19, .st 42 [.sc (.int .i64 x20), .sc (.int .i64 x21)]]))])) v0 v1 v2 v3 v4 v5 v6 v7 v8 v9 v10 v11 v12 v13 v14 v15 v16 v17 v18 v19 v20 v21 v22 := by kernel_rfl
theorem JjE (f : Nat) (k : Kont) : ∀ (n : Nat) (v0 v1 v2 v3 v4 : Int) (v5 : List PV) (v6 : Int) (v7 : List PV) (v8 v9 : Int) (v10 v11 : Bool) (v12 : List PV) (v13 v14 v15 v16 v17 : Int) (v18 : List PV) (v19 : Int) (v20 : List PV) (v21 v22 : Int), Jp tau 0 Yo (fun s k => ev tau F37 0 0 Jdr (Jgc ) s k) n (Jc Yo N37 [.ptr 1008 [], .ptr 1009 [], .ptr 1010 [], .sc (.int .i64 v0)] [(1008, .box false 53 (PV.st 53 [.st 42 [.sc (.int .i64 v1), .sc (.int .i64 v2)], .sc (.int .i64 v3), .sc (.int .i64 v4), .ar 37 v5, .sc (.int .i64 v6), .ro 113 true true v7, .st 42 [.sc (.int .i64 v8), .sc (.int .i64 v9)]])), (1009, .box false 166 (PV.st 166 [.ro 5 v10 v11 v12, .sc (.int .i64 v13)])), (1010, .box false 53 (PV.st 53 [.st 42 [.sc (.int .i64 v14), .sc (.int .i64 v15)], .sc (.int .i64 v16), .sc (.int .i64 v17), .ar 37 v18, .sc (.int .i64 v19), .ro 113 true true v20, .st 42 [.sc (.int .i64 v21), .sc (.int .i64 v22)]]))]) (Jq tau 0 Zt k) = Vx f (fun x0 x1 x2 x3 x4 x5 x6 x7 x8 x9 x10 x11 x12 x13 x14 x15 x16 x17 x18 x19 x20 x21 => k (Ex.exit 0) (Jc Zt N37 [.ptr 1008 [], .ptr 1009 [], .ptr 1010 []] [(1008, .box false 53 (PV.st 53 [.st 42 [.sc (.int .i64 x0), .sc (.int .i64 x1)], .sc (.int .i64 x2), .sc (.int .i64 x3), .ar 37 x4, .sc (.int .i64 x5), .ro 113 true true x6, .st 42 [.sc (.int .i64 x7), .sc (.int .i64 x8)]])), (1009, .box false 166 (PV.st 166 [.ro 5 x9 x10 x11, .sc (.int .i64 x12)])), (1010, .box false 53 (PV.st 53 [.st 42 [.sc (.int .i64 x13), .sc (.int .i64 x14)], .sc (.int .i64 x15), .sc (.int .i64 x16), .ar 37 x17, .sc (.int .i64 x18), .ro 113 true true x19, .st 42 [.sc (.int .i64 x20), .sc (.int .i64 x21)]]))])) n v0 v1 v2 v3 v4 v5 v6 v7 v8 v9 v10 v11 v12 v13 v14 v15 v16 v17 v18 v19 v20 v21 v22 | 0, _, _, _, _, _, _, _, _, _, _, _, _, _, _, _, _, _, _, _, _, _, _, _ => rfl | n + 1, v0, v1, v2, v3, v4, v5, v6, v7, v8, v9, v10, v11, v12, v13, v14, v15, v16, v17, v18, v19, v20, v21, v22 => (JpB f k n v0 v1 v2 v3 v4 v5 v6 v7 v8 v9 v10 v11 v12 v13 v14 v15 v16 v17 v18 v19 v20 v21 v22).trans (congrArg (fun r => Gq f r (fun x0 x1 x2 x3 x4 x5 x6 x7 x8 x9 x10 x11 x12 x13 x14 x15 x16 x17 x18 x19 x20 x21 => k (Ex.exit 0) (Jc Zt N37 [.ptr 1008 [], .ptr 1009 [], .ptr 1010 []] [(1008, .box false 53 (PV.st 53 [.st 42 [.sc (.int .i64 x0), .sc (.int .i64 x1)], .sc (.int .i64 x2), .sc (.int .i64 x3), .ar 37 x4, .sc (.int .i64 x5), .ro 113 true true x6, .st 42 [.sc (.int .i64 x7), .sc (.int .i64 x8)]])), (1009, .box false 166 (PV.st 166 [.ro 5 x9 x10 x11, .sc (.int .i64 x12)])), (1010, .box false 53 (PV.st 53 [.st 42 [.sc (.int .i64 x13), .sc (.int .i64 x14)], .sc (.int .i64 x15), .sc (.int .i64 x16), .ar 37 x17, .sc (.int .i64 x18), .ro 113 true true x19, .st 42 [.sc (.int .i64 x20), .sc (.int .i64 x21)]]))])) v0 v1 v2 v3 v4 v5 v6 v7 v8 v9 v10 v11 v12 v13 v14 v15 v16 v17 v18 v19 v20 v21 v22) (by funext v0 v1 v2 v3 v4 v5 v6 v7 v8 v9 v10 v11 v12 v13 v14 v15 v16 v17 v18 v19 v20 v21 v22; exact JjE f k n v0 v1 v2 v3 v4 v5 v6 v7 v8 v9 v10 v11 v12 v13 v14 v15 v16 v17 v18 v19 v20 v21 v22))
def Jb9 (f : Nat) : List PV -> List (Nat × Ent) -> Kont -> Option Res
 | [.ptr 1008 [], .ptr 1009 [], .ptr 1010 [],
 PV.sc
  (Value.int IntKind.i64
   v0)], [(1008,
  Ent.box false 53
   (PV.st 53
    [.st 42 [.sc (.int .i64 v1), .sc (.int .i64 v2)], .sc (.int .i64 v3), .sc (.int .i64 v4), .ar 37 v5,
     .sc (.int .i64 v6), .ro 113 true true v7, .st 42 [.sc (.int .i64 v8), .sc (.int .i64 v9)]])),
 (1009, .box false 166 (PV.st 166 [.ro 5 v10 v11 v12, .sc (.int .i64 v13)])),
 (1010,
  Ent.box false 53
   (PV.st 53
    [.st 42 [.sc (.int .i64 v14), .sc (.int .i64 v15)], .sc (.int .i64 v16), .sc (.int .i64 v17), .ar 37 v18,
     .sc (.int .i64 v19), .ro 113 true true v20,
     PV.st 42
      [.sc (.int .i64 v21),
       PV.sc
        (Value.int IntKind.i64
         v22)]]))], k => Vx f (fun x0 x1 x2 x3 x4 x5 x6 x7 x8 x9 x10 x11 x12 x13 x14 x15 x16 x17 x18 x19 x20 x21 => k (Ex.exit
 0) (Jc Zt N37 [.ptr 1008 [], .ptr 1009 [],
 PV.ptr 1010
  []] [(1008,
  Ent.box false 53
   (PV.st 53
    [.st 42 [.sc (.int .i64 x0), .sc (.int .i64 x1)], .sc (.int .i64 x2), .sc (.int .i64 x3), .ar 37 x4,
     .sc (.int .i64 x5), .ro 113 true true x6, .st 42 [.sc (.int .i64 x7), .sc (.int .i64 x8)]])),
 (1009, .box false 166 (PV.st 166 [.ro 5 x9 x10 x11, .sc (.int .i64 x12)])),
 (1010,
  Ent.box false 53
   (PV.st 53
    [.st 42 [.sc (.int .i64 x13), .sc (.int .i64 x14)], .sc (.int .i64 x15), .sc (.int .i64 x16), .ar 37 x17,
     .sc (.int .i64 x18), .ro 113 true true x19,
     PV.st 42 [.sc (.int .i64 x20), .sc (.int .i64 x21)]]))])) f v0 v1 v2 v3 v4 v5 v6 v7 v8 v9 v10 v11 v12 v13 v14 v15 v16 v17 v18 v19 v20 v21 v22
 | _, _, _ => none
theorem Jun (f : Nat) : Je Jdr Jgc = [] := by kernel_rfl
theorem Juo (f : Nat) : (Item.l Jdr Yo N37 (Jb9 f)).Ok tau Try.prog 0 := JJ Jr Jmn Js (x := Jgc) (nm2 := Zt) (Jk _ _ (by rw [Jun f]; intro q hq; cases hq)) fun vs hp k res hr => by
 unfold Jb9 at hr
 split at hr
 · exact ⟨f, 0, (JjE f _ f _ _ _ _ _ _ _ _ _ _ _ _ _ _ _ _ _ _ _ _ _ _ _ ).trans hr⟩
 · cases hr
def g37 (f : Nat) (b_z b_f : Bool) (b : List PV) (k : Res -> Option Res) : Option Res := bif slB b_z b then bif (!b_z || b_z) && true && byB b then bif (!b_z || b_z) && true && byB (Jb 8 (RS.mk b 0)).b then bif (!b_z || b_z) && true && byB (Jb 8 (Jb 8 (RS.mk b 0))).b then bif (!b_z || b_z) && true && byB (Jb 8 (Jb 8 (Jb 8 (RS.mk b 0)))).b then Vx f (fun x0_0 x1_0 x2_0 x3_0 QI x5_0 x6_0 x7_0 x8_0 x9_0 x10_0 Jo x12_0 QV x14_0 x15_0 x16_0 x17_0 x18_0 x19_0 x20_0 x21_0 => bif (!x9_0 || x10_0) && true && byB Jo then bif (!x9_0 || x10_0) && byB (Jb 1 (RS.mk Jo x12_0)).b then bif (!x9_0 || x10_0) && true && byB (J2 (Jb 1 (RS.mk Jo x12_0))).b then bif (!x9_0 || x10_0) && true && byB (Jb 8 (J2 (Jb 1 (RS.mk Jo x12_0)))).b then bif (Jb 8 (Jb 8 (J2 (Jb 1 (RS.mk Jo x12_0))))).e == 0 then bif decide (zi (Jb 8 (Jb 8 (J2 (Jb 1 (RS.mk Jo x12_0))))).b.length > 0) then k (Res.mk (.tup [.st 53 [.st 42 [.sc (.int .i64 0), .sc (.int .i64 0)], .sc (.int .i64 0), .sc (.int .i64 0), .ar 37 [.sc (.int .u8 0), .sc (.int .u8 0), .sc (.int .u8 0), .sc (.int .u8 0), .sc (.int .u8 0), .sc (.int .u8 0), .sc (.int .u8 0), .sc (.int .u8 0), .sc (.int .u8 0), .sc (.int .u8 0), .sc (.int .u8 0), .sc (.int .u8 0), .sc (.int .u8 0), .sc (.int .u8 0), .sc (.int .u8 0), .sc (.int .u8 0), .sc (.int .u8 0), .sc (.int .u8 0), .sc (.int .u8 0), .sc (.int .u8 0), .sc (.int .u8 0), .sc (.int .u8 0), .sc (.int .u8 0), .sc (.int .u8 0), .sc (.int .u8 0), .sc (.int .u8 0), .sc (.int .u8 0), .sc (.int .u8 0), .sc (.int .u8 0), .sc (.int .u8 0), .sc (.int .u8 0), .sc (.int .u8 0)], .sc (.int .i64 0), .ro 113 true true [], .st 42 [.sc (.int .i64 0), .sc (.int .i64 0)]], .sc (.int .i64 9)]) [] []) else bif (Jb 8 (Jb 8 (J2 (Jb 1 (RS.mk Jo x12_0))))).e == 0 then bif Jf (JU (Jb 1 (RS.mk Jo x12_0))).size 1 && true then bif slB (Ent.vec false 5 false (Jg (JU (Jb 1 (RS.mk Jo x12_0))))).nil (List.take (JU (Jb 1 (RS.mk Jo x12_0))).size (List.drop 0 (Jg (JU (Jb 1 (RS.mk Jo x12_0)))))) && byB (List.take (JU (Jb 1 (RS.mk Jo x12_0))).size (Jg (JU (Jb 1 (RS.mk Jo x12_0))))) then bif opE (List.take (JU (Jb 1 (RS.mk Jo x12_0))).size (Jg (JU (Jb 1 (RS.mk Jo x12_0))))) == 0 then bif cOk (opL (List.take (JU (Jb 1 (RS.mk Jo x12_0))).size (Jg (JU (Jb 1 (RS.mk Jo x12_0)))))) then bif dCk (DV.mk QV x14_0 x15_0 x16_0 x17_0 (JB 1 (RS.mk Jo x12_0)) (opL (List.take (JU (Jb 1 (RS.mk Jo x12_0))).size (Jg (JU (Jb 1 (RS.mk Jo x12_0)))))) (JB 8 (J2 (Jb 1 (RS.mk Jo x12_0)))) (JB 8 (Jb 8 (J2 (Jb 1 (RS.mk Jo x12_0)))))) != 0 then k (Res.mk (.tup [.st 53 [.st 42 [.sc (.int .i64 0), .sc (.int .i64 0)], .sc (.int .i64 0), .sc (.int .i64 0), .ar 37 [.sc (.int .u8 0), .sc (.int .u8 0), .sc (.int .u8 0), .sc (.int .u8 0), .sc (.int .u8 0), .sc (.int .u8 0), .sc (.int .u8 0), .sc (.int .u8 0), .sc (.int .u8 0), .sc (.int .u8 0), .sc (.int .u8 0), .sc (.int .u8 0), .sc (.int .u8 0), .sc (.int .u8 0), .sc (.int .u8 0), .sc (.int .u8 0), .sc (.int .u8 0), .sc (.int .u8 0), .sc (.int .u8 0), .sc (.int .u8 0), .sc (.int .u8 0), .sc (.int .u8 0), .sc (.int .u8 0), .sc (.int .u8 0), .sc (.int .u8 0), .sc (.int .u8 0), .sc (.int .u8 0), .sc (.int .u8 0), .sc (.int .u8 0), .sc (.int .u8 0), .sc (.int .u8 0), .sc (.int .u8 0)], .sc (.int .i64 0), .ro 113 true true [], .st 42 [.sc (.int .i64 0), .sc (.int .i64 0)]], .sc (.int .i64 (dCk (DV.mk QV x14_0 x15_0 x16_0 x17_0 (JB 1 (RS.mk Jo x12_0)) (opL (List.take (JU (Jb 1 (RS.mk Jo x12_0))).size (Jg (JU (Jb 1 (RS.mk Jo x12_0)))))) (JB 8 (J2 (Jb 1 (RS.mk Jo x12_0)))) (JB 8 (Jb 8 (J2 (Jb 1 (RS.mk Jo x12_0))))))))]) [] []) else k (Res.mk (.tup [.st 53 [.st 42 [.sc (.int .i64 QV), .sc (.int .i64 x14_0)], .sc (.int .i64 x15_0), .sc (.int .i64 x16_0), .ar 37 x17_0, .sc (.int .i64 (JB 1 (RS.mk Jo x12_0))), .ro 113 (opL (List.take (JU (Jb 1 (RS.mk Jo x12_0))).size (Jg (JU (Jb 1 (RS.mk Jo x12_0)))))).isEmpty (opL (List.take (JU (Jb 1 (RS.mk Jo x12_0))).size (Jg (JU (Jb 1 (RS.mk Jo x12_0)))))).isEmpty (opL (List.take (JU (Jb 1 (RS.mk Jo x12_0))).size (Jg (JU (Jb 1 (RS.mk Jo x12_0)))))), .st 42 [.sc (.int .i64 (JB 8 (J2 (Jb 1 (RS.mk Jo x12_0))))), .sc (.int .i64 (JB 8 (Jb 8 (J2 (Jb 1 (RS.mk Jo x12_0))))))]], .sc (.int .i64 0)]) [] []) else none else bif opE (List.take (JU (Jb 1 (RS.mk Jo x12_0))).size (Jg (JU (Jb 1 (RS.mk Jo x12_0))))) != 0 then k (Res.mk (.tup [.st 53 [.st 42 [.sc (.int .i64 0), .sc (.int .i64 0)], .sc (.int .i64 0), .sc (.int .i64 0), .ar 37 [.sc (.int .u8 0), .sc (.int .u8 0), .sc (.int .u8 0), .sc (.int .u8 0), .sc (.int .u8 0), .sc (.int .u8 0), .sc (.int .u8 0), .sc (.int .u8 0), .sc (.int .u8 0), .sc (.int .u8 0), .sc (.int .u8 0), .sc (.int .u8 0), .sc (.int .u8 0), .sc (.int .u8 0), .sc (.int .u8 0), .sc (.int .u8 0), .sc (.int .u8 0), .sc (.int .u8 0), .sc (.int .u8 0), .sc (.int .u8 0), .sc (.int .u8 0), .sc (.int .u8 0), .sc (.int .u8 0), .sc (.int .u8 0), .sc (.int .u8 0), .sc (.int .u8 0), .sc (.int .u8 0), .sc (.int .u8 0), .sc (.int .u8 0), .sc (.int .u8 0), .sc (.int .u8 0), .sc (.int .u8 0)], .sc (.int .i64 0), .ro 113 true true [], .st 42 [.sc (.int .i64 0), .sc (.int .i64 0)]], .sc (.int .i64 (opE (List.take (JU (Jb 1 (RS.mk Jo x12_0))).size (Jg (JU (Jb 1 (RS.mk Jo x12_0)))))))]) [] []) else k (Res.mk (.tup [.st 53 [.st 42 [.sc (.int .i64 QV), .sc (.int .i64 x14_0)], .sc (.int .i64 x15_0), .sc (.int .i64 x16_0), .ar 37 x17_0, .sc (.int .i64 (JB 1 (RS.mk Jo x12_0))), .ro 113 (opL (List.take (JU (Jb 1 (RS.mk Jo x12_0))).size (Jg (JU (Jb 1 (RS.mk Jo x12_0)))))).isEmpty (opL (List.take (JU (Jb 1 (RS.mk Jo x12_0))).size (Jg (JU (Jb 1 (RS.mk Jo x12_0)))))).isEmpty (opL (List.take (JU (Jb 1 (RS.mk Jo x12_0))).size (Jg (JU (Jb 1 (RS.mk Jo x12_0)))))), .st 42 [.sc (.int .i64 (JB 8 (J2 (Jb 1 (RS.mk Jo x12_0))))), .sc (.int .i64 (JB 8 (Jb 8 (J2 (Jb 1 (RS.mk Jo x12_0))))))]], .sc (.int .i64 0)]) [] []) else none else none else bif (Jb 8 (Jb 8 (J2 (Jb 1 (RS.mk Jo x12_0))))).e == 0 then bif cOk x19_0 then bif dCk (DV.mk QV x14_0 x15_0 x16_0 x17_0 (JB 1 (RS.mk Jo x12_0)) x19_0 (JB 8 (J2 (Jb 1 (RS.mk Jo x12_0)))) (JB 8 (Jb 8 (J2 (Jb 1 (RS.mk Jo x12_0)))))) != 0 then k (Res.mk (.tup [.st 53 [.st 42 [.sc (.int .i64 0), .sc (.int .i64 0)], .sc (.int .i64 0), .sc (.int .i64 0), .ar 37 [.sc (.int .u8 0), .sc (.int .u8 0), .sc (.int .u8 0), .sc (.int .u8 0), .sc (.int .u8 0), .sc (.int .u8 0), .sc (.int .u8 0), .sc (.int .u8 0), .sc (.int .u8 0), .sc (.int .u8 0), .sc (.int .u8 0), .sc (.int .u8 0), .sc (.int .u8 0), .sc (.int .u8 0), .sc (.int .u8 0), .sc (.int .u8 0), .sc (.int .u8 0), .sc (.int .u8 0), .sc (.int .u8 0), .sc (.int .u8 0), .sc (.int .u8 0), .sc (.int .u8 0), .sc (.int .u8 0), .sc (.int .u8 0), .sc (.int .u8 0), .sc (.int .u8 0), .sc (.int .u8 0), .sc (.int .u8 0), .sc (.int .u8 0), .sc (.int .u8 0), .sc (.int .u8 0), .sc (.int .u8 0)], .sc (.int .i64 0), .ro 113 true true [], .st 42 [.sc (.int .i64 0), .sc (.int .i64 0)]], .sc (.int .i64 (dCk (DV.mk QV x14_0 x15_0 x16_0 x17_0 (JB 1 (RS.mk Jo x12_0)) x19_0 (JB 8 (J2 (Jb 1 (RS.mk Jo x12_0)))) (JB 8 (Jb 8 (J2 (Jb 1 (RS.mk Jo x12_0))))))))]) [] []) else k (Res.mk (.tup [.st 53 [.st 42 [.sc (.int .i64 QV), .sc (.int .i64 x14_0)], .sc (.int .i64 x15_0), .sc (.int .i64 x16_0), .ar 37 x17_0, .sc (.int .i64 (JB 1 (RS.mk Jo x12_0))), .ro 113 true true x19_0, .st 42 [.sc (.int .i64 (JB 8 (J2 (Jb 1 (RS.mk Jo x12_0))))), .sc (.int .i64 (JB 8 (Jb 8 (J2 (Jb 1 (RS.mk Jo x12_0))))))]], .sc (.int .i64 0)]) [] []) else none else bif (Jb 8 (Jb 8 (J2 (Jb 1 (RS.mk Jo x12_0))))).e != 0 then k (Res.mk (.tup [.st 53 [.st 42 [.sc (.int .i64 0), .sc (.int .i64 0)], .sc (.int .i64 0), .sc (.int .i64 0), .ar 37 [.sc (.int .u8 0), .sc (.int .u8 0), .sc (.int .u8 0), .sc (.int .u8 0), .sc (.int .u8 0), .sc (.int .u8 0), .sc (.int .u8 0), .sc (.int .u8 0), .sc (.int .u8 0), .sc (.int .u8 0), .sc (.int .u8 0), .sc (.int .u8 0), .sc (.int .u8 0), .sc (.int .u8 0), .sc (.int .u8 0), .sc (.int .u8 0), .sc (.int .u8 0), .sc (.int .u8 0), .sc (.int .u8 0), .sc (.int .u8 0), .sc (.int .u8 0), .sc (.int .u8 0), .sc (.int .u8 0), .sc (.int .u8 0), .sc (.int .u8 0), .sc (.int .u8 0), .sc (.int .u8 0), .sc (.int .u8 0), .sc (.int .u8 0), .sc (.int .u8 0), .sc (.int .u8 0), .sc (.int .u8 0)], .sc (.int .i64 0), .ro 113 true true [], .st 42 [.sc (.int .i64 0), .sc (.int .i64 0)]], .sc (.int .i64 (Jb 8 (Jb 8 (J2 (Jb 1 (RS.mk Jo x12_0))))).e)]) [] []) else k (Res.mk (.tup [.st 53 [.st 42 [.sc (.int .i64 QV), .sc (.int .i64 x14_0)], .sc (.int .i64 x15_0), .sc (.int .i64 x16_0), .ar 37 x17_0, .sc (.int .i64 (JB 1 (RS.mk Jo x12_0))), .ro 113 true true x19_0, .st 42 [.sc (.int .i64 (JB 8 (J2 (Jb 1 (RS.mk Jo x12_0))))), .sc (.int .i64 (JB 8 (Jb 8 (J2 (Jb 1 (RS.mk Jo x12_0))))))]], .sc (.int .i64 0)]) [] []) else bif (Jb 8 (Jb 8 (J2 (Jb 1 (RS.mk Jo x12_0))))).e == 0 then bif Jf (JU (Jb 1 (RS.mk Jo x12_0))).size 1 && true then bif slB (Ent.vec false 5 false (Jg (JU (Jb 1 (RS.mk Jo x12_0))))).nil (List.take (JU (Jb 1 (RS.mk Jo x12_0))).size (List.drop 0 (Jg (JU (Jb 1 (RS.mk Jo x12_0)))))) && byB (List.take (JU (Jb 1 (RS.mk Jo x12_0))).size (Jg (JU (Jb 1 (RS.mk Jo x12_0))))) then bif opE (List.take (JU (Jb 1 (RS.mk Jo x12_0))).size (Jg (JU (Jb 1 (RS.mk Jo x12_0))))) == 0 then bif cOk (opL (List.take (JU (Jb 1 (RS.mk Jo x12_0))).size (Jg (JU (Jb 1 (RS.mk Jo x12_0)))))) then bif dCk (DV.mk QV x14_0 x15_0 x16_0 x17_0 (JB 1 (RS.mk Jo x12_0)) (opL (List.take (JU (Jb 1 (RS.mk Jo x12_0))).size (Jg (JU (Jb 1 (RS.mk Jo x12_0)))))) (JB 8 (J2 (Jb 1 (RS.mk Jo x12_0)))) (JB 8 (Jb 8 (J2 (Jb 1 (RS.mk Jo x12_0)))))) != 0 then k (Res.mk (.tup [.st 53 [.st 42 [.sc (.int .i64 0), .sc (.int .i64 0)], .sc (.int .i64 0), .sc (.int .i64 0), .ar 37 [.sc (.int .u8 0), .sc (.int .u8 0), .sc (.int .u8 0), .sc (.int .u8 0), .sc (.int .u8 0), .sc (.int .u8 0), .sc (.int .u8 0), .sc (.int .u8 0), .sc (.int .u8 0), .sc (.int .u8 0), .sc (.int .u8 0), .sc (.int .u8 0), .sc (.int .u8 0), .sc (.int .u8 0), .sc (.int .u8 0), .sc (.int .u8 0), .sc (.int .u8 0), .sc (.int .u8 0), .sc (.int .u8 0), .sc (.int .u8 0), .sc (.int .u8 0), .sc (.int .u8 0), .sc (.int .u8 0), .sc (.int .u8 0), .sc (.int .u8 0), .sc (.int .u8 0), .sc (.int .u8 0), .sc (.int .u8 0), .sc (.int .u8 0), .sc (.int .u8 0), .sc (.int .u8 0), .sc (.int .u8 0)], .sc (.int .i64 0), .ro 113 true true [], .st 42 [.sc (.int .i64 0), .sc (.int .i64 0)]], .sc (.int .i64 (dCk (DV.mk QV x14_0 x15_0 x16_0 x17_0 (JB 1 (RS.mk Jo x12_0)) (opL (List.take (JU (Jb 1 (RS.mk Jo x12_0))).size (Jg (JU (Jb 1 (RS.mk Jo x12_0)))))) (JB 8 (J2 (Jb 1 (RS.mk Jo x12_0)))) (JB 8 (Jb 8 (J2 (Jb 1 (RS.mk Jo x12_0))))))))]) [] []) else k (Res.mk (.tup [.st 53 [.st 42 [.sc (.int .i64 QV), .sc (.int .i64 x14_0)], .sc (.int .i64 x15_0), .sc (.int .i64 x16_0), .ar 37 x17_0, .sc (.int .i64 (JB 1 (RS.mk Jo x12_0))), .ro 113 (opL (List.take (JU (Jb 1 (RS.mk Jo x12_0))).size (Jg (JU (Jb 1 (RS.mk Jo x12_0)))))).isEmpty (opL (List.take (JU (Jb 1 (RS.mk Jo x12_0))).size (Jg (JU (Jb 1 (RS.mk Jo x12_0)))))).isEmpty (opL (List.take (JU (Jb 1 (RS.mk Jo x12_0))).size (Jg (JU (Jb 1 (RS.mk Jo x12_0)))))), .st 42 [.sc (.int .i64 (JB 8 (J2 (Jb 1 (RS.mk Jo x12_0))))), .sc (.int .i64 (JB 8 (Jb 8 (J2 (Jb 1 (RS.mk Jo x12_0))))))]], .sc (.int .i64 0)]) [] []) else none else bif opE (List.take (JU (Jb 1 (RS.mk Jo x12_0))).size (Jg (JU (Jb 1 (RS.mk Jo x12_0))))) != 0 then k (Res.mk (.tup [.st 53 [.st 42 [.sc (.int .i64 0), .sc (.int .i64 0)], .sc (.int .i64 0), .sc (.int .i64 0), .ar 37 [.sc (.int .u8 0), .sc (.int .u8 0), .sc (.int .u8 0), .sc (.int .u8 0), .sc (.int .u8 0), .sc (.int .u8 0), .sc (.int .u8 0), .sc (.int .u8 0), .sc (.int .u8 0), .sc (.int .u8 0), .sc (.int .u8 0), .sc (.int .u8 0), .sc (.int .u8 0), .sc (.int .u8 0), .sc (.int .u8 0), .sc (.int .u8 0), .sc (.int .u8 0), .sc (.int .u8 0), .sc (.int .u8 0), .sc (.int .u8 0), .sc (.int .u8 0), .sc (.int .u8 0), .sc (.int .u8 0), .sc (.int .u8 0), .sc (.int .u8 0), .sc (.int .u8 0), .sc (.int .u8 0), .sc (.int .u8 0), .sc (.int .u8 0), .sc (.int .u8 0), .sc (.int .u8 0), .sc (.int .u8 0)], .sc (.int .i64 0), .ro 113 true true [], .st 42 [.sc (.int .i64 0), .sc (.int .i64 0)]], .sc (.int .i64 (opE (List.take (JU (Jb 1 (RS.mk Jo x12_0))).size (Jg (JU (Jb 1 (RS.mk Jo x12_0)))))))]) [] []) else k (Res.mk (.tup [.st 53 [.st 42 [.sc (.int .i64 QV), .sc (.int .i64 x14_0)], .sc (.int .i64 x15_0), .sc (.int .i64 x16_0), .ar 37 x17_0, .sc (.int .i64 (JB 1 (RS.mk Jo x12_0))), .ro 113 (opL (List.take (JU (Jb 1 (RS.mk Jo x12_0))).size (Jg (JU (Jb 1 (RS.mk Jo x12_0)))))).isEmpty (opL (List.take (JU (Jb 1 (RS.mk Jo x12_0))).size (Jg (JU (Jb 1 (RS.mk Jo x12_0)))))).isEmpty (opL (List.take (JU (Jb 1 (RS.mk Jo x12_0))).size (Jg (JU (Jb 1 (RS.mk Jo x12_0)))))), .st 42 [.sc (.int .i64 (JB 8 (J2 (Jb 1 (RS.mk Jo x12_0))))), .sc (.int .i64 (JB 8 (Jb 8 (J2 (Jb 1 (RS.mk Jo x12_0))))))]], .sc (.int .i64 0)]) [] []) else none else none else bif (Jb 8 (Jb 8 (J2 (Jb 1 (RS.mk Jo x12_0))))).e == 0 then bif cOk x19_0 then bif dCk (DV.mk QV x14_0 x15_0 x16_0 x17_0 (JB 1 (RS.mk Jo x12_0)) x19_0 (JB 8 (J2 (Jb 1 (RS.mk Jo x12_0)))) (JB 8 (Jb 8 (J2 (Jb 1 (RS.mk Jo x12_0)))))) != 0 then k (Res.mk (.tup [.st 53 [.st 42 [.sc (.int .i64 0), .sc (.int .i64 0)], .sc (.int .i64 0), .sc (.int .i64 0), .ar 37 [.sc (.int .u8 0), .sc (.int .u8 0), .sc (.int .u8 0), .sc (.int .u8 0), .sc (.int .u8 0), .sc (.int .u8 0), .sc (.int .u8 0), .sc (.int .u8 0), .sc (.int .u8 0), .sc (.int .u8 0), .sc (.int .u8 0), .sc (.int .u8 0), .sc (.int .u8 0), .sc (.int .u8 0), .sc (.int .u8 0), .sc (.int .u8 0), .sc (.int .u8 0), .sc (.int .u8 0), .sc (.int .u8 0), .sc (.int .u8 0), .sc (.int .u8 0), .sc (.int .u8 0), .sc (.int .u8 0), .sc (.int .u8 0), .sc (.int .u8 0), .sc (.int .u8 0), .sc (.int .u8 0), .sc (.int .u8 0), .sc (.int .u8 0), .sc (.int .u8 0), .sc (.int .u8 0), .sc (.int .u8 0)], .sc (.int .i64 0), .ro 113 true true [], .st 42 [.sc (.int .i64 0), .sc (.int .i64 0)]], .sc (.int .i64 (dCk (DV.mk QV x14_0 x15_0 x16_0 x17_0 (JB 1 (RS.mk Jo x12_0)) x19_0 (JB 8 (J2 (Jb 1 (RS.mk Jo x12_0)))) (JB 8 (Jb 8 (J2 (Jb 1 (RS.mk Jo x12_0))))))))]) [] []) else k (Res.mk (.tup [.st 53 [.st 42 [.sc (.int .i64 QV), .sc (.int .i64 x14_0)], .sc (.int .i64 x15_0), .sc (.int .i64 x16_0), .ar 37 x17_0, .sc (.int .i64 (JB 1 (RS.mk Jo x12_0))), .ro 113 true true x19_0, .st 42 [.sc (.int .i64 (JB 8 (J2 (Jb 1 (RS.mk Jo x12_0))))), .sc (.int .i64 (JB 8 (Jb 8 (J2 (Jb 1 (RS.mk Jo x12_0))))))]], .sc (.int .i64 0)]) [] []) else none else bif (Jb 8 (Jb 8 (J2 (Jb 1 (RS.mk Jo x12_0))))).e != 0 then k (Res.mk (.tup [.st 53 [.st 42 [.sc (.int .i64 0), .sc (.int .i64 0)], .sc (.int .i64 0), .sc (.int .i64 0), .ar 37 [.sc (.int .u8 0), .sc (.int .u8 0), .sc (.int .u8 0), .sc (.int .u8 0), .sc (.int .u8 0), .sc (.int .u8 0), .sc (.int .u8 0), .sc (.int .u8 0), .sc (.int .u8 0), .sc (.int .u8 0), .sc (.int .u8 0), .sc (.int .u8 0), .sc (.int .u8 0), .sc (.int .u8 0), .sc (.int .u8 0), .sc (.int .u8 0), .sc (.int .u8 0), .sc (.int .u8 0), .sc (.int .u8 0), .sc (.int .u8 0), .sc (.int .u8 0), .sc (.int .u8 0), .sc (.int .u8 0), .sc (.int .u8 0), .sc (.int .u8 0), .sc (.int .u8 0), .sc (.int .u8 0), .sc (.int .u8 0), .sc (.int .u8 0), .sc (.int .u8 0), .sc (.int .u8 0), .sc (.int .u8 0)], .sc (.int .i64 0), .ro 113 true true [], .st 42 [.sc (.int .i64 0), .sc (.int .i64 0)]], .sc (.int .i64 (Jb 8 (Jb 8 (J2 (Jb 1 (RS.mk Jo x12_0))))).e)]) [] []) else k (Res.mk (.tup [.st 53 [.st 42 [.sc (.int .i64 QV), .sc (.int .i64 x14_0)], .sc (.int .i64 x15_0), .sc (.int .i64 x16_0), .ar 37 x17_0, .sc (.int .i64 (JB 1 (RS.mk Jo x12_0))), .ro 113 true true x19_0, .st 42 [.sc (.int .i64 (JB 8 (J2 (Jb 1 (RS.mk Jo x12_0))))), .sc (.int .i64 (JB 8 (Jb 8 (J2 (Jb 1 (RS.mk Jo x12_0))))))]], .sc (.int .i64 0)]) [] []) else none else none else none else none) f (0) (0) (0) (0) (0) ([.sc (.int .u8 0), .sc (.int .u8 0), .sc (.int .u8 0), .sc (.int .u8 0), .sc (.int .u8 0), .sc (.int .u8 0), .sc (.int .u8 0), .sc (.int .u8 0), .sc (.int .u8 0), .sc (.int .u8 0), .sc (.int .u8 0), .sc (.int .u8 0), .sc (.int .u8 0), .sc (.int .u8 0), .sc (.int .u8 0), .sc (.int .u8 0), .sc (.int .u8 0), .sc (.int .u8 0), .sc (.int .u8 0), .sc (.int .u8 0), .sc (.int .u8 0), .sc (.int .u8 0), .sc (.int .u8 0), .sc (.int .u8 0), .sc (.int .u8 0), .sc (.int .u8 0), .sc (.int .u8 0), .sc (.int .u8 0), .sc (.int .u8 0), .sc (.int .u8 0), .sc (.int .u8 0), .sc (.int .u8 0)]) (0) ([]) (0) (0) b_z b_z ((Jb 8 (Jb 8 (Jb 8 (Jb 8 (RS.mk b 0))))).b) ((Jb 8 (Jb 8 (Jb 8 (Jb 8 (RS.mk b 0))))).e) (JB 8 (RS.mk b 0)) (JB 8 (Jb 8 (RS.mk b 0))) (JB 8 (Jb 8 (Jb 8 (RS.mk b 0)))) (JB 8 (Jb 8 (Jb 8 (Jb 8 (RS.mk b 0))))) ([.sc (.int .u8 0), .sc (.int .u8 0), .sc (.int .u8 0), .sc (.int .u8 0), .sc (.int .u8 0), .sc (.int .u8 0), .sc (.int .u8 0), .sc (.int .u8 0), .sc (.int .u8 0), .sc (.int .u8 0), .sc (.int .u8 0), .sc (.int .u8 0), .sc (.int .u8 0), .sc (.int .u8 0), .sc (.int .u8 0), .sc (.int .u8 0), .sc (.int .u8 0), .sc (.int .u8 0), .sc (.int .u8 0), .sc (.int .u8 0), .sc (.int .u8 0), .sc (.int .u8 0), .sc (.int .u8 0), .sc (.int .u8 0), .sc (.int .u8 0), .sc (.int .u8 0), .sc (.int .u8 0), .sc (.int .u8 0), .sc (.int .u8 0), .sc (.int .u8 0), .sc (.int .u8 0), .sc (.int .u8 0)]) (0) ([]) (0) (0) else none else none else none else none else none
theorem e37 (f : Nat) (b_z b_f : Bool) (b : List PV) (k : Res -> Option Res) : JM tau F37 Try.f37 (Try.f37.body.get!) (JpA (Jb9 f)) [.ro, .ro] 0 [.ro 5 b_z b_f b] [] k = g37 f b_z b_f b k := by kernel_rfl
theorem JCE (f : Nat) : Je (Try.f37.body.get!) (JpA (Jb9 f)) = [.l Jdr Yo N37 (Jb9 f)] := by kernel_rfl
theorem JCF (f : Nat) : ∀ q ∈ Je (Try.f37.body.get!) (JpA (Jb9 f)), q.Ok tau Try.prog 0 := by
 rw [JCE f]; simp only [List.forall_mem_cons, List.not_mem_nil, false_implies, implies_true, and_true]; exact Juo f
theorem JyT : Try.prog.funcs[37]? = some Try.f37 := by kernel_rfl
theorem JyU : Try.f37.body = some (Try.f37.body.get!) := by kernel_rfl
theorem JCG : Enters Try.prog 37 := enters_of JyT (by kernel_rfl) JyU


-- FN delta.Parse | ref8.Parse
theorem Jup (t : ByteArray) : byB (Jg t) = true := by
 unfold byB Jg
 refine List.all_eq_true.2 fun p hp => ?_
 obtain ⟨x, hx, rfl⟩ := List.mem_map.1 hp
 have := x.toNat_lt
 rw [Bool.and_eq_true, Bool.and_eq_true]
 refine ⟨rfl, decide_eq_true ?_, decide_eq_true ?_⟩
 · exact Int.natCast_nonneg _
 · exact Int.ofNat_lt.2 this
def d4 (b : List PV) : RS := Jb 8 (Jb 8 (Jb 8 (Jb 8 ⟨b, 0⟩)))
def d5 (b : List PV) : RS := hashS (d4 b)
def d7 (b : List PV) : RS := J2 (Jb 1 (d5 b))
def d9 (b : List PV) : RS := Jb 8 (Jb 8 (d7 b))
def dt (b : List PV) : List PV := Jg (JU (Jb 1 (d5 b)))
def dv (b : List PV) : DV := ⟨JB 8 ⟨b, 0⟩, JB 8 (Jb 8 ⟨b, 0⟩), JB 8 (Jb 8 (Jb 8 ⟨b, 0⟩)), JB 8 (Jb 8 (Jb 8 (Jb 8 ⟨b, 0⟩))), pu .u8 (hashV (d4 b)), JB 1 (d5 b), opL (dt b), JB 8 (d7 b), JB 8 (Jb 8 (d7 b))⟩
def dE0 (b : List PV) : Int := bif (d9 b).e == 0 then (bif decide ((d9 b).b.length > 0) then 9 else bif opE (dt b) == 0 then dCk (dv b) else opE (dt b)) else (d9 b).e
def dE : List PV -> Int := hid dE0
def dN (b : List PV) : Nat -> Int
 | 0 => (dv b).ad
 | 1 => (dv b).au
 | 2 => (dv b).id
 | 3 => (dv b).ve
 | 4 => (dv b).kd
 | 5 => (dv b).wd
 | _ => (dv b).wu
def dF : Nat -> List PV -> Int := hid fun i b => bif dE0 b == 0 then dN b i else 0
def dH : List PV -> List Int := hid fun b => bif dE0 b == 0 then hashV (d4 b) else List.replicate 32 0
def dO : List PV -> List PV := hid fun b => bif dE0 b == 0 then opL (dt b) else []
theorem JjF (b : List PV) : dE b = dE0 b := by rw [dE, hid_eq]
theorem Jmo (i : Nat) (b : List PV) : dF i b = bif dE0 b == 0 then dN b i else 0 := by rw [dF, hid_eq]
theorem Jmp (b : List PV) : dH b = bif dE0 b == 0 then hashV (d4 b) else List.replicate 32 0 := by rw [dH, hid_eq]
theorem Jmq (b : List PV) : dO b = bif dE0 b == 0 then opL (dt b) else [] := by rw [dO, hid_eq]
def Jr0 (e : Int) : PV := .tup [.st 53 [.st 42 [.sc (.int .i64 0), .sc (.int .i64 0)], .sc (.int .i64 0), .sc (.int .i64 0), .ar 37 (pu .u8 (List.replicate 32 0)), .sc (.int .i64 0), .ro 113 true true [], .st 42 [.sc (.int .i64 0), .sc (.int .i64 0)]], .sc (.int .i64 e)]
def dP (b : List PV) : PV := .tup [.st 53 [.st 42 [.sc (.int .i64 (dF 0 b)), .sc (.int .i64 (dF 1 b))], .sc (.int .i64 (dF 2 b)), .sc (.int .i64 (dF 3 b)), .ar 37 (pu .u8 (dH b)), .sc (.int .i64 (dF 4 b)), .ro 113 (dO b).isEmpty (dO b).isEmpty (dO b), .st 42 [.sc (.int .i64 (dF 5 b)), .sc (.int .i64 (dF 6 b))]], .sc (.int .i64 (dE b))]
theorem JeL {b : List PV} {e : Int} (h : dE0 b = e) (h0 : (e == 0) = false) : dP b = Jr0 e := by
 simp only [dP, Jr0, Jmo, Jmp, Jmq, JjF, h, h0, cond_false, List.isEmpty_nil]
theorem JyV {b : List PV} (h : dE0 b = 0) : dP b = .tup [.st 53 [.st 42 [.sc (.int .i64 (JB 8 ⟨b, 0⟩)), .sc (.int .i64 (JB 8 (Jb 8 ⟨b, 0⟩)))], .sc (.int .i64 (JB 8 (Jb 8 (Jb 8 ⟨b, 0⟩)))), .sc (.int .i64 (JB 8 (Jb 8 (Jb 8 (Jb 8 ⟨b, 0⟩))))), .ar 37 (pu .u8 (hashV (d4 b))), .sc (.int .i64 (JB 1 (d5 b))), .ro 113 (opL (dt b)).isEmpty (opL (dt b)).isEmpty (opL (dt b)), .st 42 [.sc (.int .i64 (JB 8 (d7 b))), .sc (.int .i64 (JB 8 (Jb 8 (d7 b))))]], .sc (.int .i64 0)] := by
 simp only [dP, Jmo, Jmp, Jmq, JjF, h, beq_self_eq_true, cond_true, dN, dv]
theorem JpC {b : List PV} (h : byB b = true) : cOk (opL b) = true := by
 rw [JeJ]
 cases Gp b == 0 with
 | true => exact JjD (Jmm h) _
 | false => exact Wx.2 ⟨rfl, Nat.zero_le _⟩
theorem Jr1 (f : Nat) (k0 : Int -> Int -> Int -> Int -> List PV -> Int -> List PV -> Int -> Int -> Bool -> Bool -> List PV -> Int -> Int -> Int -> Int -> Int -> List PV -> Int -> List PV -> Int -> Int -> Option Res) (z fl : Bool) (hz : (!z || fl) = true) (x1 x2 x3 x4 : Int) (x5 : List PV) (x6 : Int) (x7 : List PV) (x8 x9 y14 y15 y16 y17 y19 : Int) (y20 : List PV) (y21 y22 : Int) : ∀ (d i n : Nat) (s : RS) (L : List Int), i + d = 32 -> d < n -> byB s.b = true -> L.length = 32 ->
  Vx f k0 n (i : Int) x1 x2 x3 x4 x5 x6 x7 x8 x9 z fl s.b s.e y14 y15 y16 y17 (pu .u8 L) y19 y20 y21 y22 = k0 x1 x2 x3 x4 x5 x6 x7 x8 x9 z fl (G7 d s).b (G7 d s).e y14 y15 y16 y17 (pu .u8 (L.take i ++ G8 d s)) y19 y20 y21 y22
 | 0, i, n + 1, s, L, h, hn, hb, hL => by
   obtain rfl : i = 32 := by omega
   simp only [Vx, Gq, G7, G8, List.append_nil]
   rw [List.take_of_length_le (by omega)]
   exact Jj (by decide)
 | d + 1, i, n + 1, s, L, h, hn, hb, hL => by
   have g1 : ((i : Int)).toNat = i := by omega
   have w1 : IntKind.i64.wrap ((i : Int) + 1) = ((i + 1 : Nat) : Int) := by rw [wrap_i64 (by omega) (by omega)]; omega
   have hm : RS.mk s.b s.e = s := rfl
   simp only [Vx, Gq, g1, w1, hm, W8]
   refine (Ja (by simp; omega)).trans ((Ja (by rw [hb, hz]; rfl)).trans ((Ja (by simp [zi]; omega)).trans ?_))
   have := Jr1 f k0 z fl hz x1 x2 x3 x4 x5 x6 x7 x8 x9 y14 y15 y16 y17 y19 y20 y21 y22 d (i + 1) n (Qd 1 s) (L.set i (IntKind.u8.wrap (JB 1 s))) (by omega) (by omega) (XQ hb 1) (by simpa using hL)
   rw [Xa]
   refine Eq.trans this ?_
   have hset : (L.set i (IntKind.u8.wrap (JB 1 s))).take (i + 1) = L.take i ++ [IntKind.u8.wrap (JB 1 s)] := by
    rw [List.take_add_one, List.take_set_of_le (Nat.le_refl i), List.getElem?_set_self (by omega)]; rfl
   rw [hset, Xm]
   simp only [G7, G8, List.append_assoc, List.cons_append, List.nil_append]
theorem Juq (z f : Bool) (b : List PV) (hz : slB z b = true) (hb : byB b = true) (k : Res -> Option Res) :
  g37 40 z f b k = k ⟨dP b, [], []⟩ := by
 have hE : dE0 b = dE0 b := rfl
 conv at hE => rhs; unfold dE0
 have hzz : (!z || z) = true := by cases z <;> rfl
 have c1 := Qp (s := ⟨b, 0⟩) hb 8
 have c2 := Qp c1 8
 have c3 := Qp c2 8
 have c4 : byB (d4 b).b = true := Qp c3 8
 have c5 : byB (d5 b).b = true := by unfold d5; rw [hashS_eq]; exact Jjf 32 c4
 have c6 := Qp c5 1
 have c7 : byB (d7 b).b = true := Jjg c6
 have c8 := Qp c7 8
 unfold g37
 refine (Ja hz).trans ((Ja (by rw [hb, hzz]; rfl)).trans ((Ja (by rw [c1, hzz]; rfl)).trans ((Ja (by rw [c2, hzz]; rfl)).trans ((Ja (by rw [c3, hzz]; rfl)).trans ?_))))
 refine (Jr1 40 _ z z hzz _ _ _ _ _ _ _ _ _ _ _ _ _ _ _ _ _ 32 0 40 (d4 b) (List.replicate 32 0) (by omega) (by omega) c4 (by simp)).trans ?_
 have hr : G7 32 (d4 b) = d5 b := by unfold d5; rw [hashS_eq]
 have hv : G8 32 (d4 b) = hashV (d4 b) := by rw [hashV_eq]
 have hm : RS.mk (d5 b).b (d5 b).e = d5 b := rfl
 have h7 : J2 (Jb 1 (d5 b)) = d7 b := rfl
 have h9 : Jb 8 (Jb 8 (d7 b)) = d9 b := rfl
 have hsz := JkG c6
 have htk : List.take (JU (Jb 1 (d5 b))).size (dt b) = dt b := List.take_of_length_le (by unfold dt; rw [JaG]; exact Nat.le_refl _)
 have hto : Jg (JU (Jb 1 (d5 b))) = dt b := rfl
 have hbt : byB (dt b) = true := Jup _
 have hlt : (dt b).length <= 65535 := by unfold dt; rw [JaG]; exact hsz
 have hsl : slB (Ent.vec false 5 false (dt b)).nil (dt b) = true := WA.2 ⟨fun h => by simp [Ent.nil] at h, by omega⟩
 have hz9 : decide (zi (d9 b).b.length > 0) = decide ((d9 b).b.length > 0) := by apply decide_eq_decide.2; simp only [zi]; omega
 have hdv : DV.mk (JB 8 ⟨b, 0⟩) (JB 8 (Jb 8 ⟨b, 0⟩)) (JB 8 (Jb 8 (Jb 8 ⟨b, 0⟩))) (JB 8 (Jb 8 (Jb 8 (Jb 8 ⟨b, 0⟩)))) (pu .u8 (hashV (d4 b))) (JB 1 (d5 b)) (opL (dt b)) (JB 8 (d7 b)) (JB 8 (Jb 8 (d7 b))) = dv b := rfl
 simp only [hr, hv, hm, h7, h9, List.take_zero, List.nil_append, List.drop_zero, htk, hto, hz9, hdv, hsl, hbt, hzz, c5, c6, c7, c8, JpC hbt, Bool.true_and, Bool.and_true, cond_true]
 cases he : ((d9 b).e == 0) with
 | false =>
  rw [he, cond_false] at hE
  rw [JeL hE he]
  simp only [cond_false]
  exact Ja (by rw [bne, he]; rfl)
 | true =>
  rw [he, cond_true] at hE
  cases h9 : decide ((d9 b).b.length > 0) with
  | true =>
   rw [h9, cond_true] at hE
   rw [JeL hE (by decide)]
   rfl
  | false =>
   rw [h9, cond_false] at hE
   simp only [cond_true, cond_false]
   refine (Ja (by simp [Jf]; omega)).trans ?_
   cases ho : (opE (dt b) == 0) with
   | false =>
    rw [ho, cond_false] at hE
    try simp only [cond_false]
    rw [JeL hE ho]
    exact Ja (by rw [bne, ho]; rfl)
   | true =>
    rw [ho, cond_true] at hE
    try simp only [cond_true]
    cases hd : (dCk (dv b) == 0) with
    | false =>
     rw [JeL hE hd]
     exact Ja (by rw [bne, hd]; rfl)
    | true =>
     have hd' : dCk (dv b) = 0 := by simpa using hd
     rw [hd'] at hE
     rw [JyV hE]
     exact Jj (by rw [bne, hd]; rfl)
def Jia : List PV -> List Ent -> (Res -> Option Res) -> Option Res
 | [.ro 5 z f b], [], k => bif slB z b && byB b then k ⟨dP b, [], []⟩ else none
 | _, _, _ => none
def JyW : Sig := { own := [], run := Jia }
theorem JyX : Jh tau Try.prog 37 JyW := Jh.mk' fun xs es k res hl hr => by
 change Jia xs es k = some res at hr
 unfold Jia at hr
 split at hr
 · rename_i z f b
   obtain ⟨hc, hr⟩ := JI hr
   rw [Bool.and_eq_true] at hc
   have hg := (Juq z f b hc.1 hc.2 k).trans hr
   exact Qk Jr Jmn Js JyT JyU (JpA (Jb9 40)) [.ro, .ro] 0 0 (JCF 40) hl rfl ((e37 40 z f b k).trans hg)
 · cases hr
def F95 : Fns := F0
theorem Jur : Jy tau Try.prog F95 := JE
def JpD : An := (.seq .leaf (.seq .leaf .leaf))
def g95 (f : Nat) (k : Res -> Option Res) : Option Res := k (Res.mk (.ar 159 [.sc (.int .u32 1116352408), .sc (.int .u32 1899447441), .sc (.int .u32 3049323471), .sc (.int .u32 3921009573), .sc (.int .u32 961987163), .sc (.int .u32 1508970993), .sc (.int .u32 2453635748), .sc (.int .u32 2870763221), .sc (.int .u32 3624381080), .sc (.int .u32 310598401), .sc (.int .u32 607225278), .sc (.int .u32 1426881987), .sc (.int .u32 1925078388), .sc (.int .u32 2162078206), .sc (.int .u32 2614888103), .sc (.int .u32 3248222580), .sc (.int .u32 3835390401), .sc (.int .u32 4022224774), .sc (.int .u32 264347078), .sc (.int .u32 604807628), .sc (.int .u32 770255983), .sc (.int .u32 1249150122), .sc (.int .u32 1555081692), .sc (.int .u32 1996064986), .sc (.int .u32 2554220882), .sc (.int .u32 2821834349), .sc (.int .u32 2952996808), .sc (.int .u32 3210313671), .sc (.int .u32 3336571891), .sc (.int .u32 3584528711), .sc (.int .u32 113926993), .sc (.int .u32 338241895), .sc (.int .u32 666307205), .sc (.int .u32 773529912), .sc (.int .u32 1294757372), .sc (.int .u32 1396182291), .sc (.int .u32 1695183700), .sc (.int .u32 1986661051), .sc (.int .u32 2177026350), .sc (.int .u32 2456956037), .sc (.int .u32 2730485921), .sc (.int .u32 2820302411), .sc (.int .u32 3259730800), .sc (.int .u32 3345764771), .sc (.int .u32 3516065817), .sc (.int .u32 3600352804), .sc (.int .u32 4094571909), .sc (.int .u32 275423344), .sc (.int .u32 430227734), .sc (.int .u32 506948616), .sc (.int .u32 659060556), .sc (.int .u32 883997877), .sc (.int .u32 958139571), .sc (.int .u32 1322822218), .sc (.int .u32 1537002063), .sc (.int .u32 1747873779), .sc (.int .u32 1955562222), .sc (.int .u32 2024104815), .sc (.int .u32 2227730452), .sc (.int .u32 2361852424), .sc (.int .u32 2428436474), .sc (.int .u32 2756734187), .sc (.int .u32 3204031479), .sc (.int .u32 3329325298)]) [] [])
theorem e95 (f : Nat) (k : Res -> Option Res) : JM tau F95 Try.f95 (Try.f95.body.get!) JpD [.ro] 0 [] [] k = g95 f k := by kernel_rfl
theorem JCH (f : Nat) : Je (Try.f95.body.get!) JpD = [] := by kernel_rfl
theorem JCI (f : Nat) : ∀ q ∈ Je (Try.f95.body.get!) JpD, q.Ok tau Try.prog 0 := by
 rw [JCH f]; intro q hq; cases hq
theorem JyY : Try.prog.funcs[95]? = some Try.f95 := by kernel_rfl
theorem JyZ : Try.f95.body = some (Try.f95.body.get!) := by kernel_rfl
theorem JCJ : Enters Try.prog 95 := enters_of JyY (by kernel_rfl) JyZ
def Jmr : List PV -> List Ent -> (Res -> Option Res) -> Option Res
 | [], [], k => g95 0  k
 | _, _, _ => none
def s95 : Sig := { own := [], run := Jmr }
theorem JCK : Jh tau Try.prog 95 s95 := JW Jr Jur Js JyY JyZ JpD [.ro] 0 [] Jmr (JCI 0) fun xs es k res hr => by
 unfold Jmr at hr
 split at hr
 · exact ⟨rfl, 0, (e95 0  _).trans hr⟩
 · cases hr
def N51 : Nat := 278
def F51 : Fns := JG 95 s95 (JG 96 JwD F0)
theorem Yp : Jy tau Try.prog F51 := (JE.add JwE JBD).add JCK JCJ
def Jds : Code := Qj (Try.f51.body.get!) [1, 1, 1, 1, 1, 0, 0, 0]
def Yq : Nm := [(0, .any), (2, .any), (3, .any), (4, .any), (5, .any)]
def Zu : Nm := [(0, .any), (2, .any), (3, .any), (4, .any), (5, .any)]
def Jgd : An := (.seq (.seq .leaf (.cond .leaf .leaf)) (.block none .leaf))
def Jdt : Code := Qj (Try.f51.body.get!) [1, 1, 1, 1, 1, 1, 1, 0, 1, 0, 0]
def Yr : Nm := [(2, .any), (3, .any), (4, .any), (5, .any), (6, .any), (7, .any)]
def Zv : Nm := [(2, .any), (3, .any), (4, .any), (5, .any)]
def Jge : An := (.seq (.seq .leaf (.cond .leaf .leaf)) (.seq (.block none .leaf) .leaf))
def Jdu : Code := Qj (Try.f51.body.get!) [1, 1, 1, 1, 1, 1, 1, 1, 1, 0, 1, 0, 0, 1, 0, 0, 0, 1, 0, 0]
def Ys : Nm := [(2, .any), (3, .any), (4, .any), (5, .any), (8, .any), (9, .any), (10, .any)]
def Zw : Nm := [(2, .any), (3, .any), (4, .any), (5, .any), (8, .any), (9, .any)]
def Jgf : An := (.seq (.seq .leaf (.cond .leaf .leaf)) (.seq (.block none (.seq .leaf .leaf)) .leaf))
def Jdv : Code := Qj (Try.f51.body.get!) [1, 1, 1, 1, 1, 1, 1, 1, 1, 0, 1, 0, 0, 1, 0, 0, 1, 0, 1, 0, 0]
def Yt : Nm := [(2, .any), (3, .any), (4, .any), (5, .any), (8, .any), (9, .any), (12, .any)]
def Zx : Nm := [(2, .any), (3, .any), (4, .any), (5, .any), (8, .any), (9, .any)]
def Jgg : An := (.seq (.seq .leaf (.cond .leaf .leaf)) (.seq (.block none (.seq .leaf .leaf)) .leaf))
def Jdw : Code := Qj (Try.f51.body.get!) [1, 1, 1, 1, 1, 1, 1, 1, 1, 0, 1, 0, 0, 1, 0, 0, 1, 1, 1, 0, 1, 0, 0]
def Yu : Nm := [(2, .any), (3, .any), (4, .any), (5, .any), (8, .any), (9, .any), (15, .any), (16, .any)]
def Zy : Nm := [(2, .any), (3, .any), (4, .any), (5, .any), (8, .any), (9, .any), (15, .any)]
def Jgh : An := (.seq (.seq .leaf (.cond .leaf .leaf)) (.seq (.block none (.seq .leaf (.seq .leaf (.seq .leaf .leaf)))) .leaf))
def Jdx : Code := Qj (Try.f51.body.get!) [1, 1, 1, 1, 1, 1, 1, 1, 1, 0, 1, 0, 0, 1, 0, 0, 1, 1, 1, 1, 1, 0, 0]
def Yv : Nm := [(2, .any), (3, .any), (4, .any), (5, .any), (8, .any), (9, .any), (15, .any), (20, .any)]
def Zz : Nm := [(2, .any), (3, .any), (4, .any), (5, .any), (8, .any), (9, .any)]
def Jgi : An := (.seq (.seq .leaf (.cond .leaf .leaf)) (.seq (.block none .leaf) .leaf))
def Jdy : Code := Qj (Try.f51.body.get!) [1, 1, 1, 1, 1, 1, 1, 1, 1, 0, 1, 0, 0]
def Yw : Nm := [(2, .any), (3, .any), (4, .any), (5, .any), (8, .any), (9, .any)]
def ZA : Nm := [(2, .any), (4, .any)]
def Jgj (r3 : QC) (r4 : QC) (r5 : QC) (r6 : QC) : An := (.seq (.seq .leaf (.cond .leaf .leaf)) (.seq (.block none (.seq (.seq .leaf (.block none (.sum Ys N51 r3))) (.seq (.seq .leaf (.block none (.sum Yt N51 r4))) (.seq .leaf (.seq (.seq .leaf (.block none (.sum Yu N51 r5))) (.seq .leaf (.block none (.sum Yv N51 r6)))))))) .leaf))
def Jdz : Code := Qj (Try.f51.body.get!) [1, 1, 1, 1, 1, 1, 1, 1, 1, 1, 1, 0, 1, 0, 0]
def Yx : Nm := [(2, .any), (4, .any), (21, .any), (22, .any)]
def ZB : Nm := [(2, .any), (21, .any)]
def Jgk : An := (.seq (.seq .leaf (.cond .leaf .leaf)) (.seq (.block none .leaf) .leaf))
def JpE (r0 : QC) (r1 : QC) (r2 : QC) (r7 : QC) : An := (.seq .leaf (.seq .leaf (.seq .leaf (.seq .leaf (.seq .leaf (.seq (.block none (.sum Yq N51 r0)) (.seq .leaf (.seq (.seq .leaf (.block none (.sum Yr N51 r1))) (.seq .leaf (.seq (.seq .leaf (.block none (.sum Yw N51 r2))) (.seq .leaf (.seq (.seq .leaf (.block none (.sum Yx N51 r7))) (.seq .leaf .leaf)))))))))))))
def Gr (f : Nat) (rc : Bool -> Bool -> List PV -> Nat -> List PV -> List PV -> List PV -> List PV -> Option Res) (k0 : Bool -> Bool -> List PV -> Nat -> List PV -> List PV -> List PV -> List PV -> Option Res) (v0 v1 : Bool) (v2 : List PV) (v3 : Nat) (v4 v5 v6 v7 : List PV) : Option Res := bif (zi v3).tmod 64 != 56 then bif Jf (v3 + 1) 1 && true then rc v0 v1 v2 (v3 + 1) v4 v5 v6 (List.take v3 v7 ++ [.sc (.int .u8 0)]) else none else k0 v0 v1 v2 v3 v4 v5 v6 v7
def Vy (f : Nat) (k0 : Bool -> Bool -> List PV -> Nat -> List PV -> List PV -> List PV -> List PV -> Option Res) : Nat -> Bool -> Bool -> List PV -> Nat -> List PV -> List PV -> List PV -> List PV -> Option Res
 | 0, _, _, _, _, _, _, _, _ => none
 | n + 1, v0, v1, v2, v3, v4, v5, v6, v7 => Gr f (Vy f k0 n) k0 v0 v1 v2 v3 v4 v5 v6 v7
theorem JpF (f : Nat) (k : Kont) (n : Nat) (v0 v1 : Bool) (v2 : List PV) (v3 : Nat) (v4 v5 v6 v7 : List PV) : Jp tau 0 Yq (fun s k => ev tau F51 0 0 Jds (Jgd ) s k) (n + 1) (Jc Yq N51 [.ro 5 v0 v1 v2, .ptr 4464 [], .ptr 4465 [], .ptr 4466 [], .ow 5 4467 [] 0 v3 none] [(4464, .box false 37 (PV.ar 37 v4)), (4465, .box false 159 (PV.ar 159 v5)), (4466, .box false 142 (PV.ar 142 v6)), (4467, .vec false 5 false v7)]) (Jq tau 0 Zu k) = Gr f (fun v0 v1 v2 v3 v4 v5 v6 v7 => Jp tau 0 Yq (fun s k => ev tau F51 0 0 Jds (Jgd ) s k) n (Jc Yq N51 [.ro 5 v0 v1 v2, .ptr 4464 [], .ptr 4465 [], .ptr 4466 [], .ow 5 4467 [] 0 v3 none] [(4464, .box false 37 (PV.ar 37 v4)), (4465, .box false 159 (PV.ar 159 v5)), (4466, .box false 142 (PV.ar 142 v6)), (4467, .vec false 5 false v7)]) (Jq tau 0 Zu k)) (fun x0 x1 x2 x3 x4 x5 x6 x7 => k (Ex.exit 0) (Jc Zu N51 [.ro 5 x0 x1 x2, .ptr 4464 [], .ptr 4465 [], .ptr 4466 [], .ow 5 4467 [] 0 x3 none] [(4464, .box false 37 (PV.ar 37 x4)), (4465, .box false 159 (PV.ar 159 x5)), (4466, .box false 142 (PV.ar 142 x6)), (4467, .vec false 5 false x7)])) v0 v1 v2 v3 v4 v5 v6 v7 := by kernel_rfl
theorem JjG (f : Nat) (k : Kont) : ∀ (n : Nat) (v0 v1 : Bool) (v2 : List PV) (v3 : Nat) (v4 v5 v6 v7 : List PV), Jp tau 0 Yq (fun s k => ev tau F51 0 0 Jds (Jgd ) s k) n (Jc Yq N51 [.ro 5 v0 v1 v2, .ptr 4464 [], .ptr 4465 [], .ptr 4466 [], .ow 5 4467 [] 0 v3 none] [(4464, .box false 37 (PV.ar 37 v4)), (4465, .box false 159 (PV.ar 159 v5)), (4466, .box false 142 (PV.ar 142 v6)), (4467, .vec false 5 false v7)]) (Jq tau 0 Zu k) = Vy f (fun x0 x1 x2 x3 x4 x5 x6 x7 => k (Ex.exit 0) (Jc Zu N51 [.ro 5 x0 x1 x2, .ptr 4464 [], .ptr 4465 [], .ptr 4466 [], .ow 5 4467 [] 0 x3 none] [(4464, .box false 37 (PV.ar 37 x4)), (4465, .box false 159 (PV.ar 159 x5)), (4466, .box false 142 (PV.ar 142 x6)), (4467, .vec false 5 false x7)])) n v0 v1 v2 v3 v4 v5 v6 v7 | 0, _, _, _, _, _, _, _, _ => rfl | n + 1, v0, v1, v2, v3, v4, v5, v6, v7 => (JpF f k n v0 v1 v2 v3 v4 v5 v6 v7).trans (congrArg (fun r => Gr f r (fun x0 x1 x2 x3 x4 x5 x6 x7 => k (Ex.exit 0) (Jc Zu N51 [.ro 5 x0 x1 x2, .ptr 4464 [], .ptr 4465 [], .ptr 4466 [], .ow 5 4467 [] 0 x3 none] [(4464, .box false 37 (PV.ar 37 x4)), (4465, .box false 159 (PV.ar 159 x5)), (4466, .box false 142 (PV.ar 142 x6)), (4467, .vec false 5 false x7)])) v0 v1 v2 v3 v4 v5 v6 v7) (by funext v0 v1 v2 v3 v4 v5 v6 v7; exact JjG f k n v0 v1 v2 v3 v4 v5 v6 v7))
def Jca (f : Nat) : List PV -> List (Nat × Ent) -> Kont -> Option Res
 | [.ro 5 v0 v1 v2, .ptr 4464 [], .ptr 4465 [], .ptr 4466 [],
 PV.ow 5 4467 [] 0 v3
  none], [(4464, .box false 37 (PV.ar 37 v4)), (4465, .box false 159 (PV.ar 159 v5)), (4466, .box false 142 (PV.ar 142 v6)),
 (4467,
  Ent.vec false 5 false
   v7)], k => Vy f (fun x0 x1 x2 x3 x4 x5 x6 x7 => k (Ex.exit
 0) (Jc Zu N51 [.ro 5 x0 x1 x2, .ptr 4464 [], .ptr 4465 [], .ptr 4466 [],
 PV.ow 5 4467 [] 0 x3
  none] [(4464, .box false 37 (PV.ar 37 x4)), (4465, .box false 159 (PV.ar 159 x5)), (4466, .box false 142 (PV.ar 142 x6)), (4467, .vec false 5 false x7)])) f v0 v1 v2 v3 v4 v5 v6 v7
 | _, _, _ => none
theorem Jus (f : Nat) : Je Jds Jgd = [] := by kernel_rfl
theorem Jy0 (f : Nat) : (Item.l Jds Yq N51 (Jca f)).Ok tau Try.prog 0 := JJ Jr Yp Js (x := Jgd) (nm2 := Zu) (Jk _ _ (by rw [Jus f]; intro q hq; cases hq)) fun vs hp k res hr => by
 unfold Jca at hr
 split at hr
 · exact ⟨f, 0, (JjG f _ f _ _ _ _ _ _ _ _ ).trans hr⟩
 · cases hr
def Gs (f : Nat) (rc : Nat -> Int -> Int -> List PV -> List PV -> List PV -> List PV -> Option Res) (k0 : Nat -> List PV -> List PV -> List PV -> List PV -> Option Res) (v0 : Nat) (v1 v2 : Int) (v3 v4 v5 v6 : List PV) : Option Res := bif decide (v2 >= 0) then bif decide (0 <= IntKind.u64.wrap (8 * IntKind.u64.wrap v2)) && true then bif Jf (v0 + 1) 1 && true then rc (v0 + 1) v1 (IntKind.i64.wrap (v2 - 1)) v3 v4 v5 (List.take v0 v6 ++ [.sc (.int .u8 (IntKind.u8.wrap (JA IntKind.u64 v1 (IntKind.u64.wrap (8 * IntKind.u64.wrap v2)))))]) else none else none else k0 v0 v3 v4 v5 v6
def Vz (f : Nat) (k0 : Nat -> List PV -> List PV -> List PV -> List PV -> Option Res) : Nat -> Nat -> Int -> Int -> List PV -> List PV -> List PV -> List PV -> Option Res
 | 0, _, _, _, _, _, _, _ => none
 | n + 1, v0, v1, v2, v3, v4, v5, v6 => Gs f (Vz f k0 n) k0 v0 v1 v2 v3 v4 v5 v6
theorem JpG (f : Nat) (k : Kont) (n v0 : Nat) (v1 v2 : Int) (v3 v4 v5 v6 : List PV) : Jp tau 0 Yr (fun s k => ev tau F51 0 0 Jdt (Jge ) s k) (n + 1) (Jc Yr N51 [.ptr 4464 [], .ptr 4465 [], .ptr 4466 [], .ow 5 4467 [] 0 v0 none, .sc (.int .u64 v1), .sc (.int .i64 v2)] [(4464, .box false 37 (PV.ar 37 v3)), (4465, .box false 159 (PV.ar 159 v4)), (4466, .box false 142 (PV.ar 142 v5)), (4467, .vec false 5 false v6)]) (Jq tau 0 Zv k) = Gs f (fun v0 v1 v2 v3 v4 v5 v6 => Jp tau 0 Yr (fun s k => ev tau F51 0 0 Jdt (Jge ) s k) n (Jc Yr N51 [.ptr 4464 [], .ptr 4465 [], .ptr 4466 [], .ow 5 4467 [] 0 v0 none, .sc (.int .u64 v1), .sc (.int .i64 v2)] [(4464, .box false 37 (PV.ar 37 v3)), (4465, .box false 159 (PV.ar 159 v4)), (4466, .box false 142 (PV.ar 142 v5)), (4467, .vec false 5 false v6)]) (Jq tau 0 Zv k)) (fun x0 x1 x2 x3 x4 => k (Ex.exit 2) (Jc Zv N51 [.ptr 4464 [], .ptr 4465 [], .ptr 4466 [], .ow 5 4467 [] 0 x0 none] [(4464, .box false 37 (PV.ar 37 x1)), (4465, .box false 159 (PV.ar 159 x2)), (4466, .box false 142 (PV.ar 142 x3)), (4467, .vec false 5 false x4)])) v0 v1 v2 v3 v4 v5 v6 := by kernel_rfl
theorem JjH (f : Nat) (k : Kont) : ∀ (n v0 : Nat) (v1 v2 : Int) (v3 v4 v5 v6 : List PV), Jp tau 0 Yr (fun s k => ev tau F51 0 0 Jdt (Jge ) s k) n (Jc Yr N51 [.ptr 4464 [], .ptr 4465 [], .ptr 4466 [], .ow 5 4467 [] 0 v0 none, .sc (.int .u64 v1), .sc (.int .i64 v2)] [(4464, .box false 37 (PV.ar 37 v3)), (4465, .box false 159 (PV.ar 159 v4)), (4466, .box false 142 (PV.ar 142 v5)), (4467, .vec false 5 false v6)]) (Jq tau 0 Zv k) = Vz f (fun x0 x1 x2 x3 x4 => k (Ex.exit 2) (Jc Zv N51 [.ptr 4464 [], .ptr 4465 [], .ptr 4466 [], .ow 5 4467 [] 0 x0 none] [(4464, .box false 37 (PV.ar 37 x1)), (4465, .box false 159 (PV.ar 159 x2)), (4466, .box false 142 (PV.ar 142 x3)), (4467, .vec false 5 false x4)])) n v0 v1 v2 v3 v4 v5 v6 | 0, _, _, _, _, _, _, _ => rfl | n + 1, v0, v1, v2, v3, v4, v5, v6 => (JpG f k n v0 v1 v2 v3 v4 v5 v6).trans (congrArg (fun r => Gs f r (fun x0 x1 x2 x3 x4 => k (Ex.exit 2) (Jc Zv N51 [.ptr 4464 [], .ptr 4465 [], .ptr 4466 [], .ow 5 4467 [] 0 x0 none] [(4464, .box false 37 (PV.ar 37 x1)), (4465, .box false 159 (PV.ar 159 x2)), (4466, .box false 142 (PV.ar 142 x3)), (4467, .vec false 5 false x4)])) v0 v1 v2 v3 v4 v5 v6) (by funext v0 v1 v2 v3 v4 v5 v6; exact JjH f k n v0 v1 v2 v3 v4 v5 v6))
def Jcb (f : Nat) : List PV -> List (Nat × Ent) -> Kont -> Option Res
 | [.ptr 4464 [], .ptr 4465 [], .ptr 4466 [], .ow 5 4467 [] 0 v0 none, .sc (.int .u64 v1),
 PV.sc
  (Value.int IntKind.i64
   v2)], [(4464, .box false 37 (PV.ar 37 v3)), (4465, .box false 159 (PV.ar 159 v4)), (4466, .box false 142 (PV.ar 142 v5)),
 (4467,
  Ent.vec false 5 false
   v6)], k => Vz f (fun x0 x1 x2 x3 x4 => k (Ex.exit
 2) (Jc Zv N51 [.ptr 4464 [], .ptr 4465 [], .ptr 4466 [],
 PV.ow 5 4467 [] 0 x0
  none] [(4464, .box false 37 (PV.ar 37 x1)), (4465, .box false 159 (PV.ar 159 x2)), (4466, .box false 142 (PV.ar 142 x3)), (4467, .vec false 5 false x4)])) f v0 v1 v2 v3 v4 v5 v6
 | _, _, _ => none
theorem Jut (f : Nat) : Je Jdt Jge = [] := by kernel_rfl
theorem Jy1 (f : Nat) : (Item.l Jdt Yr N51 (Jcb f)).Ok tau Try.prog 0 := JJ Jr Yp Js (x := Jge) (nm2 := Zv) (Jk _ _ (by rw [Jut f]; intro q hq; cases hq)) fun vs hp k res hr => by
 unfold Jcb at hr
 split at hr
 · exact ⟨f, 0, (JjH f _ f _ _ _ _ _ _ _ ).trans hr⟩
 · cases hr
def Gt (f : Nat) (rc : Nat -> Int -> Int -> List PV -> List PV -> List PV -> List PV -> List PV -> Option Res) (k0 : Nat -> Int -> List PV -> List PV -> List PV -> List PV -> List PV -> Option Res) (v0 : Nat) (v1 v2 : Int) (v3 v4 v5 v6 v7 : List PV) : Option Res := bif decide (v2 < 16) then bif decide (0 <= IntKind.i64.wrap (v1 + IntKind.i64.wrap (4 * v2))) && decide (IntKind.i64.wrap (v1 + IntKind.i64.wrap (4 * v2)) < zi v0) && true then bif PV.isInt IntKind.u8 (Jm (v6.getD (0 + (IntKind.i64.wrap (v1 + IntKind.i64.wrap (4 * v2))).toNat) PV.top) []) && true then bif decide (0 <= IntKind.i64.wrap (IntKind.i64.wrap (v1 + IntKind.i64.wrap (4 * v2)) + 1)) && decide (IntKind.i64.wrap (IntKind.i64.wrap (v1 + IntKind.i64.wrap (4 * v2)) + 1) < zi v0) && true then bif PV.isInt IntKind.u8 (Jm (v6.getD (0 + (IntKind.i64.wrap (IntKind.i64.wrap (v1 + IntKind.i64.wrap (4 * v2)) + 1)).toNat) PV.top) []) && true then bif decide (0 <= IntKind.i64.wrap (IntKind.i64.wrap (v1 + IntKind.i64.wrap (4 * v2)) + 2)) && decide (IntKind.i64.wrap (IntKind.i64.wrap (v1 + IntKind.i64.wrap (4 * v2)) + 2) < zi v0) && true then bif PV.isInt IntKind.u8 (Jm (v6.getD (0 + (IntKind.i64.wrap (IntKind.i64.wrap (v1 + IntKind.i64.wrap (4 * v2)) + 2)).toNat) PV.top) []) && true then bif decide (0 <= IntKind.i64.wrap (IntKind.i64.wrap (v1 + IntKind.i64.wrap (4 * v2)) + 3)) && decide (IntKind.i64.wrap (IntKind.i64.wrap (v1 + IntKind.i64.wrap (4 * v2)) + 3) < zi v0) && true then bif PV.isInt IntKind.u8 (Jm (v6.getD (0 + (IntKind.i64.wrap (IntKind.i64.wrap (v1 + IntKind.i64.wrap (4 * v2)) + 3)).toNat) PV.top) []) && true then bif decide (0 <= v2) && decide (v2 < zi 64) && true then rc v0 v1 (IntKind.i64.wrap (v2 + 1)) v3 v4 v5 v6 (v7.set v2.toNat (.sc (.int .u32 (JF BinOp.or IntKind.u32 (JF BinOp.or IntKind.u32 (JF BinOp.or IntKind.u32 (Xz IntKind.u32 (IntKind.u32.wrap (Jm (v6.getD (0 + (IntKind.i64.wrap (v1 + IntKind.i64.wrap (4 * v2))).toNat) PV.top) []).int) 24) (Xz IntKind.u32 (IntKind.u32.wrap (Jm (v6.getD (0 + (IntKind.i64.wrap (IntKind.i64.wrap (v1 + IntKind.i64.wrap (4 * v2)) + 1)).toNat) PV.top) []).int) 16)) (Xz IntKind.u32 (IntKind.u32.wrap (Jm (v6.getD (0 + (IntKind.i64.wrap (IntKind.i64.wrap (v1 + IntKind.i64.wrap (4 * v2)) + 2)).toNat) PV.top) []).int) 8)) (IntKind.u32.wrap (Jm (v6.getD (0 + (IntKind.i64.wrap (IntKind.i64.wrap (v1 + IntKind.i64.wrap (4 * v2)) + 3)).toNat) PV.top) []).int))))) else none else none else none else none else none else none else none else none else none else k0 v0 v1 v3 v4 v5 v6 v7
def VA (f : Nat) (k0 : Nat -> Int -> List PV -> List PV -> List PV -> List PV -> List PV -> Option Res) : Nat -> Nat -> Int -> Int -> List PV -> List PV -> List PV -> List PV -> List PV -> Option Res
 | 0, _, _, _, _, _, _, _, _ => none
 | n + 1, v0, v1, v2, v3, v4, v5, v6, v7 => Gt f (VA f k0 n) k0 v0 v1 v2 v3 v4 v5 v6 v7
theorem JpH (f : Nat) (k : Kont) (n v0 : Nat) (v1 v2 : Int) (v3 v4 v5 v6 v7 : List PV) : Jp tau 0 Ys (fun s k => ev tau F51 0 0 Jdu (Jgf ) s k) (n + 1) (Jc Ys N51 [.ptr 4464 [], .ptr 4465 [], .ptr 4466 [], .ow 5 4467 [] 0 v0 none, .ptr 4468 [], .sc (.int .i64 v1), .sc (.int .i64 v2)] [(4464, .box false 37 (PV.ar 37 v3)), (4465, .box false 159 (PV.ar 159 v4)), (4466, .box false 142 (PV.ar 142 v5)), (4467, .vec false 5 false v6), (4468, .box false 159 (PV.ar 159 v7))]) (Jq tau 0 Zw k) = Gt f (fun v0 v1 v2 v3 v4 v5 v6 v7 => Jp tau 0 Ys (fun s k => ev tau F51 0 0 Jdu (Jgf ) s k) n (Jc Ys N51 [.ptr 4464 [], .ptr 4465 [], .ptr 4466 [], .ow 5 4467 [] 0 v0 none, .ptr 4468 [], .sc (.int .i64 v1), .sc (.int .i64 v2)] [(4464, .box false 37 (PV.ar 37 v3)), (4465, .box false 159 (PV.ar 159 v4)), (4466, .box false 142 (PV.ar 142 v5)), (4467, .vec false 5 false v6), (4468, .box false 159 (PV.ar 159 v7))]) (Jq tau 0 Zw k)) (fun x0 x1 x2 x3 x4 x5 x6 => k (Ex.exit 6) (Jc Zw N51 [.ptr 4464 [], .ptr 4465 [], .ptr 4466 [], .ow 5 4467 [] 0 x0 none, .ptr 4468 [], .sc (.int .i64 x1)] [(4464, .box false 37 (PV.ar 37 x2)), (4465, .box false 159 (PV.ar 159 x3)), (4466, .box false 142 (PV.ar 142 x4)), (4467, .vec false 5 false x5), (4468, .box false 159 (PV.ar 159 x6))])) v0 v1 v2 v3 v4 v5 v6 v7 := by kernel_rfl
theorem JjI (f : Nat) (k : Kont) : ∀ (n v0 : Nat) (v1 v2 : Int) (v3 v4 v5 v6 v7 : List PV), Jp tau 0 Ys (fun s k => ev tau F51 0 0 Jdu (Jgf ) s k) n (Jc Ys N51 [.ptr 4464 [], .ptr 4465 [], .ptr 4466 [], .ow 5 4467 [] 0 v0 none, .ptr 4468 [], .sc (.int .i64 v1), .sc (.int .i64 v2)] [(4464, .box false 37 (PV.ar 37 v3)), (4465, .box false 159 (PV.ar 159 v4)), (4466, .box false 142 (PV.ar 142 v5)), (4467, .vec false 5 false v6), (4468, .box false 159 (PV.ar 159 v7))]) (Jq tau 0 Zw k) = VA f (fun x0 x1 x2 x3 x4 x5 x6 => k (Ex.exit 6) (Jc Zw N51 [.ptr 4464 [], .ptr 4465 [], .ptr 4466 [], .ow 5 4467 [] 0 x0 none, .ptr 4468 [], .sc (.int .i64 x1)] [(4464, .box false 37 (PV.ar 37 x2)), (4465, .box false 159 (PV.ar 159 x3)), (4466, .box false 142 (PV.ar 142 x4)), (4467, .vec false 5 false x5), (4468, .box false 159 (PV.ar 159 x6))])) n v0 v1 v2 v3 v4 v5 v6 v7 | 0, _, _, _, _, _, _, _, _ => rfl | n + 1, v0, v1, v2, v3, v4, v5, v6, v7 => (JpH f k n v0 v1 v2 v3 v4 v5 v6 v7).trans (congrArg (fun r => Gt f r (fun x0 x1 x2 x3 x4 x5 x6 => k (Ex.exit 6) (Jc Zw N51 [.ptr 4464 [], .ptr 4465 [], .ptr 4466 [], .ow 5 4467 [] 0 x0 none, .ptr 4468 [], .sc (.int .i64 x1)] [(4464, .box false 37 (PV.ar 37 x2)), (4465, .box false 159 (PV.ar 159 x3)), (4466, .box false 142 (PV.ar 142 x4)), (4467, .vec false 5 false x5), (4468, .box false 159 (PV.ar 159 x6))])) v0 v1 v2 v3 v4 v5 v6 v7) (by funext v0 v1 v2 v3 v4 v5 v6 v7; exact JjI f k n v0 v1 v2 v3 v4 v5 v6 v7))
def JaJ (f : Nat) : List PV -> List (Nat × Ent) -> Kont -> Option Res
 | [.ptr 4464 [], .ptr 4465 [], .ptr 4466 [], .ow 5 4467 [] 0 v0 none, .ptr 4468 [], .sc (.int .i64 v1),
 PV.sc
  (Value.int IntKind.i64
   v2)], [(4464, .box false 37 (PV.ar 37 v3)), (4465, .box false 159 (PV.ar 159 v4)), (4466, .box false 142 (PV.ar 142 v5)), (4467, .vec false 5 false v6),
 (4468,
  Ent.box false 159
   (PV.ar 159
    v7))], k => VA f (fun x0 x1 x2 x3 x4 x5 x6 => k (Ex.exit
 6) (Jc Zw N51 [.ptr 4464 [], .ptr 4465 [], .ptr 4466 [], .ow 5 4467 [] 0 x0 none, .ptr 4468 [],
 PV.sc
  (Value.int IntKind.i64
   x1)] [(4464, .box false 37 (PV.ar 37 x2)), (4465, .box false 159 (PV.ar 159 x3)), (4466, .box false 142 (PV.ar 142 x4)), (4467, .vec false 5 false x5),
 (4468, .box false 159 (PV.ar 159 x6))])) f v0 v1 v2 v3 v4 v5 v6 v7
 | _, _, _ => none
theorem Juu (f : Nat) : Je Jdu Jgf = [] := by kernel_rfl
theorem Jy2 (f : Nat) : (Item.l Jdu Ys N51 (JaJ f)).Ok tau Try.prog 0 := JJ Jr Yp Js (x := Jgf) (nm2 := Zw) (Jk _ _ (by rw [Juu f]; intro q hq; cases hq)) fun vs hp k res hr => by
 unfold JaJ at hr
 split at hr
 · exact ⟨f, 0, (JjI f _ f _ _ _ _ _ _ _ _ ).trans hr⟩
 · cases hr
def Gu (f : Nat) (rc : Nat -> Int -> Int -> List PV -> List PV -> List PV -> List PV -> List PV -> Option Res) (k0 : Nat -> Int -> List PV -> List PV -> List PV -> List PV -> List PV -> Option Res) (v0 : Nat) (v1 v2 : Int) (v3 v4 v5 v6 v7 : List PV) : Option Res := bif decide (v2 < 64) then bif decide (0 <= IntKind.i64.wrap (v2 - 15)) && decide (IntKind.i64.wrap (v2 - 15) < zi 64) && true then bif PV.isInt IntKind.u32 (Jm (PV.ar 159 v7) [(IntKind.i64.wrap (v2 - 15)).toNat]) && true then bif decide (0 <= IntKind.i64.wrap (v2 - 2)) && decide (IntKind.i64.wrap (v2 - 2) < zi 64) && true then bif PV.isInt IntKind.u32 (Jm (PV.ar 159 v7) [(IntKind.i64.wrap (v2 - 2)).toNat]) && true then bif decide (0 <= IntKind.i64.wrap (v2 - 7)) && decide (IntKind.i64.wrap (v2 - 7) < zi 64) && true then bif PV.isInt IntKind.u32 (Jm (PV.ar 159 v7) [(IntKind.i64.wrap (v2 - 7)).toNat]) && true then bif decide (0 <= IntKind.i64.wrap (v2 - 16)) && decide (IntKind.i64.wrap (v2 - 16) < zi 64) && true then bif PV.isInt IntKind.u32 (Jm (PV.ar 159 v7) [(IntKind.i64.wrap (v2 - 16)).toNat]) && true then bif decide (0 <= v2) && decide (v2 < zi 64) && true then rc v0 v1 (IntKind.i64.wrap (v2 + 1)) v3 v4 v5 v6 (v7.set v2.toNat (.sc (.int .u32 (IntKind.u32.wrap (IntKind.u32.wrap (IntKind.u32.wrap (JF BinOp.xor IntKind.u32 (JF BinOp.xor IntKind.u32 (rr (Jm (PV.ar 159 v7) [(IntKind.i64.wrap (v2 - 2)).toNat]).int 17) (rr (Jm (PV.ar 159 v7) [(IntKind.i64.wrap (v2 - 2)).toNat]).int 19)) (JA IntKind.u32 (Jm (PV.ar 159 v7) [(IntKind.i64.wrap (v2 - 2)).toNat]).int 10) + (Jm (PV.ar 159 v7) [(IntKind.i64.wrap (v2 - 7)).toNat]).int) + JF BinOp.xor IntKind.u32 (JF BinOp.xor IntKind.u32 (rr (Jm (PV.ar 159 v7) [(IntKind.i64.wrap (v2 - 15)).toNat]).int 7) (rr (Jm (PV.ar 159 v7) [(IntKind.i64.wrap (v2 - 15)).toNat]).int 18)) (JA IntKind.u32 (Jm (PV.ar 159 v7) [(IntKind.i64.wrap (v2 - 15)).toNat]).int 3)) + (Jm (PV.ar 159 v7) [(IntKind.i64.wrap (v2 - 16)).toNat]).int))))) else none else none else none else none else none else none else none else none else none else k0 v0 v1 v3 v4 v5 v6 v7
def VB (f : Nat) (k0 : Nat -> Int -> List PV -> List PV -> List PV -> List PV -> List PV -> Option Res) : Nat -> Nat -> Int -> Int -> List PV -> List PV -> List PV -> List PV -> List PV -> Option Res
 | 0, _, _, _, _, _, _, _, _ => none
 | n + 1, v0, v1, v2, v3, v4, v5, v6, v7 => Gu f (VB f k0 n) k0 v0 v1 v2 v3 v4 v5 v6 v7
theorem JpI (f : Nat) (k : Kont) (n v0 : Nat) (v1 v2 : Int) (v3 v4 v5 v6 v7 : List PV) : Jp tau 0 Yt (fun s k => ev tau F51 0 0 Jdv (Jgg ) s k) (n + 1) (Jc Yt N51 [.ptr 4464 [], .ptr 4465 [], .ptr 4466 [], .ow 5 4467 [] 0 v0 none, .ptr 4468 [], .sc (.int .i64 v1), .sc (.int .i64 v2)] [(4464, .box false 37 (PV.ar 37 v3)), (4465, .box false 159 (PV.ar 159 v4)), (4466, .box false 142 (PV.ar 142 v5)), (4467, .vec false 5 false v6), (4468, .box false 159 (PV.ar 159 v7))]) (Jq tau 0 Zx k) = Gu f (fun v0 v1 v2 v3 v4 v5 v6 v7 => Jp tau 0 Yt (fun s k => ev tau F51 0 0 Jdv (Jgg ) s k) n (Jc Yt N51 [.ptr 4464 [], .ptr 4465 [], .ptr 4466 [], .ow 5 4467 [] 0 v0 none, .ptr 4468 [], .sc (.int .i64 v1), .sc (.int .i64 v2)] [(4464, .box false 37 (PV.ar 37 v3)), (4465, .box false 159 (PV.ar 159 v4)), (4466, .box false 142 (PV.ar 142 v5)), (4467, .vec false 5 false v6), (4468, .box false 159 (PV.ar 159 v7))]) (Jq tau 0 Zx k)) (fun x0 x1 x2 x3 x4 x5 x6 => k (Ex.exit 8) (Jc Zx N51 [.ptr 4464 [], .ptr 4465 [], .ptr 4466 [], .ow 5 4467 [] 0 x0 none, .ptr 4468 [], .sc (.int .i64 x1)] [(4464, .box false 37 (PV.ar 37 x2)), (4465, .box false 159 (PV.ar 159 x3)), (4466, .box false 142 (PV.ar 142 x4)), (4467, .vec false 5 false x5), (4468, .box false 159 (PV.ar 159 x6))])) v0 v1 v2 v3 v4 v5 v6 v7 := by kernel_rfl
theorem JjJ (f : Nat) (k : Kont) : ∀ (n v0 : Nat) (v1 v2 : Int) (v3 v4 v5 v6 v7 : List PV), Jp tau 0 Yt (fun s k => ev tau F51 0 0 Jdv (Jgg ) s k) n (Jc Yt N51 [.ptr 4464 [], .ptr 4465 [], .ptr 4466 [], .ow 5 4467 [] 0 v0 none, .ptr 4468 [], .sc (.int .i64 v1), .sc (.int .i64 v2)] [(4464, .box false 37 (PV.ar 37 v3)), (4465, .box false 159 (PV.ar 159 v4)), (4466, .box false 142 (PV.ar 142 v5)), (4467, .vec false 5 false v6), (4468, .box false 159 (PV.ar 159 v7))]) (Jq tau 0 Zx k) = VB f (fun x0 x1 x2 x3 x4 x5 x6 => k (Ex.exit 8) (Jc Zx N51 [.ptr 4464 [], .ptr 4465 [], .ptr 4466 [], .ow 5 4467 [] 0 x0 none, .ptr 4468 [], .sc (.int .i64 x1)] [(4464, .box false 37 (PV.ar 37 x2)), (4465, .box false 159 (PV.ar 159 x3)), (4466, .box false 142 (PV.ar 142 x4)), (4467, .vec false 5 false x5), (4468, .box false 159 (PV.ar 159 x6))])) n v0 v1 v2 v3 v4 v5 v6 v7 | 0, _, _, _, _, _, _, _, _ => rfl | n + 1, v0, v1, v2, v3, v4, v5, v6, v7 => (JpI f k n v0 v1 v2 v3 v4 v5 v6 v7).trans (congrArg (fun r => Gu f r (fun x0 x1 x2 x3 x4 x5 x6 => k (Ex.exit 8) (Jc Zx N51 [.ptr 4464 [], .ptr 4465 [], .ptr 4466 [], .ow 5 4467 [] 0 x0 none, .ptr 4468 [], .sc (.int .i64 x1)] [(4464, .box false 37 (PV.ar 37 x2)), (4465, .box false 159 (PV.ar 159 x3)), (4466, .box false 142 (PV.ar 142 x4)), (4467, .vec false 5 false x5), (4468, .box false 159 (PV.ar 159 x6))])) v0 v1 v2 v3 v4 v5 v6 v7) (by funext v0 v1 v2 v3 v4 v5 v6 v7; exact JjJ f k n v0 v1 v2 v3 v4 v5 v6 v7))
def JaK (f : Nat) : List PV -> List (Nat × Ent) -> Kont -> Option Res
 | [.ptr 4464 [], .ptr 4465 [], .ptr 4466 [], .ow 5 4467 [] 0 v0 none, .ptr 4468 [], .sc (.int .i64 v1),
 PV.sc
  (Value.int IntKind.i64
   v2)], [(4464, .box false 37 (PV.ar 37 v3)), (4465, .box false 159 (PV.ar 159 v4)), (4466, .box false 142 (PV.ar 142 v5)), (4467, .vec false 5 false v6),
 (4468,
  Ent.box false 159
   (PV.ar 159
    v7))], k => VB f (fun x0 x1 x2 x3 x4 x5 x6 => k (Ex.exit
 8) (Jc Zx N51 [.ptr 4464 [], .ptr 4465 [], .ptr 4466 [], .ow 5 4467 [] 0 x0 none, .ptr 4468 [],
 PV.sc
  (Value.int IntKind.i64
   x1)] [(4464, .box false 37 (PV.ar 37 x2)), (4465, .box false 159 (PV.ar 159 x3)), (4466, .box false 142 (PV.ar 142 x4)), (4467, .vec false 5 false x5),
 (4468, .box false 159 (PV.ar 159 x6))])) f v0 v1 v2 v3 v4 v5 v6 v7
 | _, _, _ => none
theorem Juv (f : Nat) : Je Jdv Jgg = [] := by kernel_rfl
theorem Jy3 (f : Nat) : (Item.l Jdv Yt N51 (JaK f)).Ok tau Try.prog 0 := JJ Jr Yp Js (x := Jgg) (nm2 := Zx) (Jk _ _ (by rw [Juv f]; intro q hq; cases hq)) fun vs hp k res hr => by
 unfold JaK at hr
 split at hr
 · exact ⟨f, 0, (JjJ f _ f _ _ _ _ _ _ _ _ ).trans hr⟩
 · cases hr
def Gv (f : Nat) (rc : Nat -> Int -> Int -> List PV -> List PV -> List PV -> List PV -> List PV -> List PV -> Option Res) (k0 : Nat -> Int -> List PV -> List PV -> List PV -> List PV -> List PV -> List PV -> Option Res) (v0 : Nat) (v1 v2 : Int) (v3 v4 v5 v6 v7 v8 : List PV) : Option Res := bif decide (v2 < 64) then bif PV.isInt IntKind.u32 (Jm (PV.ar 142 v8) [4]) && true then bif PV.isInt IntKind.u32 (Jm (PV.ar 142 v8) [7]) && true then bif PV.isInt IntKind.u32 (Jm (PV.ar 142 v8) [5]) && true then bif PV.isInt IntKind.u32 (Jm (PV.ar 142 v8) [6]) && true then bif decide (0 <= v2) && decide (v2 < zi 64) && true then bif PV.isInt IntKind.u32 (Jm (PV.ar 159 v4) [v2.toNat]) && true then bif decide (0 <= v2) && decide (v2 < zi 64) && true then bif PV.isInt IntKind.u32 (Jm (PV.ar 159 v7) [v2.toNat]) && true then bif PV.isInt IntKind.u32 (Jm (PV.ar 142 v8) [0]) && true then bif PV.isInt IntKind.u32 (Jm (PV.ar 142 v8) [0]) && true then bif PV.isInt IntKind.u32 (Jm (PV.ar 142 v8) [0]) && true then bif PV.isInt IntKind.u32 (Jm (PV.ar 142 v8) [0]) && true then bif PV.isInt IntKind.u32 (Jm (PV.ar 142 v8) [1]) && true then bif PV.isInt IntKind.u32 (Jm (PV.ar 142 v8) [0]) && true then bif PV.isInt IntKind.u32 (Jm (PV.ar 142 v8) [2]) && true then bif PV.isInt IntKind.u32 (Jm (PV.ar 142 v8) [1]) && true then bif PV.isInt IntKind.u32 (Jm (PV.ar 142 v8) [2]) && true then bif PV.isInt IntKind.u32 (Jm (PV.ar 142 v8) [0]) && true then bif PV.isInt IntKind.u32 (Jm (PV.ar 142 v8) [1]) && true then bif PV.isInt IntKind.u32 (Jm (PV.ar 142 v8) [2]) && true then bif PV.isInt IntKind.u32 (Jm (PV.ar 142 v8) [3]) && true then bif PV.isInt IntKind.u32 (Jm (PV.ar 142 v8) [4]) && true then bif PV.isInt IntKind.u32 (Jm (PV.ar 142 v8) [5]) && true then bif PV.isInt IntKind.u32 (Jm (PV.ar 142 v8) [6]) && true then rc v0 v1 (IntKind.i64.wrap (v2 + 1)) v3 v4 v5 v6 v7 ([.sc (.int .u32 (IntKind.u32.wrap (IntKind.u32.wrap (IntKind.u32.wrap (IntKind.u32.wrap (IntKind.u32.wrap ((Jm (PV.ar 142 v8) [7]).int + JF BinOp.xor IntKind.u32 (JF BinOp.xor IntKind.u32 (rr (Jm (PV.ar 142 v8) [4]).int 6) (rr (Jm (PV.ar 142 v8) [4]).int 11)) (rr (Jm (PV.ar 142 v8) [4]).int 25)) + JF BinOp.xor IntKind.u32 (JF BinOp.and IntKind.u32 (Jm (PV.ar 142 v8) [4]).int (Jm (PV.ar 142 v8) [5]).int) (JF BinOp.and IntKind.u32 (JF BinOp.xor IntKind.u32 (Int.ofNat (2 ^ IntKind.u32.bits - Nat.succ 0)) (Jm (PV.ar 142 v8) [4]).int) (Jm (PV.ar 142 v8) [6]).int)) + (Jm (PV.ar 159 v4) [v2.toNat]).int) + (Jm (PV.ar 159 v7) [v2.toNat]).int) + IntKind.u32.wrap (JF BinOp.xor IntKind.u32 (JF BinOp.xor IntKind.u32 (rr (Jm (PV.ar 142 v8) [0]).int 2) (rr (Jm (PV.ar 142 v8) [0]).int 13)) (rr (Jm (PV.ar 142 v8) [0]).int 22) + JF BinOp.xor IntKind.u32 (JF BinOp.xor IntKind.u32 (JF BinOp.and IntKind.u32 (Jm (PV.ar 142 v8) [0]).int (Jm (PV.ar 142 v8) [1]).int) (JF BinOp.and IntKind.u32 (Jm (PV.ar 142 v8) [0]).int (Jm (PV.ar 142 v8) [2]).int)) (JF BinOp.and IntKind.u32 (Jm (PV.ar 142 v8) [1]).int (Jm (PV.ar 142 v8) [2]).int))))), .sc (.int .u32 (Jm (PV.ar 142 v8) [0]).int), .sc (.int .u32 (Jm (PV.ar 142 v8) [1]).int), .sc (.int .u32 (Jm (PV.ar 142 v8) [2]).int), .sc (.int .u32 (IntKind.u32.wrap ((Jm (PV.ar 142 v8) [3]).int + IntKind.u32.wrap (IntKind.u32.wrap (IntKind.u32.wrap (IntKind.u32.wrap ((Jm (PV.ar 142 v8) [7]).int + JF BinOp.xor IntKind.u32 (JF BinOp.xor IntKind.u32 (rr (Jm (PV.ar 142 v8) [4]).int 6) (rr (Jm (PV.ar 142 v8) [4]).int 11)) (rr (Jm (PV.ar 142 v8) [4]).int 25)) + JF BinOp.xor IntKind.u32 (JF BinOp.and IntKind.u32 (Jm (PV.ar 142 v8) [4]).int (Jm (PV.ar 142 v8) [5]).int) (JF BinOp.and IntKind.u32 (JF BinOp.xor IntKind.u32 (Int.ofNat (2 ^ IntKind.u32.bits - Nat.succ 0)) (Jm (PV.ar 142 v8) [4]).int) (Jm (PV.ar 142 v8) [6]).int)) + (Jm (PV.ar 159 v4) [v2.toNat]).int) + (Jm (PV.ar 159 v7) [v2.toNat]).int)))), .sc (.int .u32 (Jm (PV.ar 142 v8) [4]).int), .sc (.int .u32 (Jm (PV.ar 142 v8) [5]).int), .sc (.int .u32 (Jm (PV.ar 142 v8) [6]).int)]) else none else none else none else none else none else none else none else none else none else none else none else none else none else none else none else none else none else none else none else none else none else none else none else none else k0 v0 v1 v3 v4 v5 v6 v7 v8
def VC (f : Nat) (k0 : Nat -> Int -> List
 PV -> List PV -> List PV -> List PV -> List PV -> List PV -> Option Res) : Nat -> Nat -> Int -> Int -> List PV -> List PV -> List PV -> List PV -> List PV -> List PV -> Option Res
 | 0, _, _, _, _, _, _, _, _, _ => none
 | n + 1, v0, v1, v2, v3, v4, v5, v6, v7, v8 => Gv f (VC f k0 n) k0 v0 v1 v2 v3 v4 v5 v6 v7 v8
theorem JpJ (f : Nat) (k : Kont) (n v0 : Nat) (v1 v2 : Int) (v3 v4 v5 v6 v7 v8 : List PV) : Jp tau 0 Yu (fun s k => ev tau F51 0 0 Jdw (Jgh ) s k) (n + 1) (Jc Yu N51 [.ptr 4464 [], .ptr 4465 [], .ptr 4466 [], .ow 5 4467 [] 0 v0 none, .ptr 4468 [], .sc (.int .i64 v1), .ptr 4469 [], .sc (.int .i64 v2)] [(4464, .box false 37 (PV.ar 37 v3)), (4465, .box false 159 (PV.ar 159 v4)), (4466, .box false 142 (PV.ar 142 v5)), (4467, .vec false 5 false v6), (4468, .box false 159 (PV.ar 159 v7)), (4469, .box false 142 (PV.ar 142 v8))]) (Jq tau 0 Zy k) = Gv f (fun v0 v1 v2 v3 v4 v5 v6 v7 v8 => Jp tau 0 Yu (fun s k => ev tau F51 0 0 Jdw (Jgh ) s k) n (Jc Yu N51 [.ptr 4464 [], .ptr 4465 [], .ptr 4466 [], .ow 5 4467 [] 0 v0 none, .ptr 4468 [], .sc (.int .i64 v1), .ptr 4469 [], .sc (.int .i64 v2)] [(4464, .box false 37 (PV.ar 37 v3)), (4465, .box false 159 (PV.ar 159 v4)), (4466, .box false 142 (PV.ar 142 v5)), (4467, .vec false 5 false v6), (4468, .box false 159 (PV.ar 159 v7)), (4469, .box false 142 (PV.ar 142 v8))]) (Jq tau 0 Zy k)) (fun x0 x1 x2 x3 x4 x5 x6 x7 => k (Ex.exit 10) (Jc Zy N51 [.ptr 4464 [], .ptr 4465 [], .ptr 4466 [], .ow 5 4467 [] 0 x0 none, .ptr 4468 [], .sc (.int .i64 x1), .ptr 4469 []] [(4464, .box false 37 (PV.ar 37 x2)), (4465, .box false 159 (PV.ar 159 x3)), (4466, .box false 142 (PV.ar 142 x4)), (4467, .vec false 5 false x5), (4468, .box false 159 (PV.ar 159 x6)), (4469, .box false 142 (PV.ar 142 x7))])) v0 v1 v2 v3 v4 v5 v6 v7 v8 := by kernel_rfl
theorem JjK (f : Nat) (k : Kont) : ∀ (n v0 : Nat) (v1 v2 : Int) (v3 v4 v5 v6 v7 v8 : List PV), Jp tau 0 Yu (fun s k => ev tau F51 0 0 Jdw (Jgh ) s k) n (Jc Yu N51 [.ptr 4464 [], .ptr 4465 [], .ptr 4466 [], .ow 5 4467 [] 0 v0 none, .ptr 4468 [], .sc (.int .i64 v1), .ptr 4469 [], .sc (.int .i64 v2)] [(4464, .box false 37 (PV.ar 37 v3)), (4465, .box false 159 (PV.ar 159 v4)), (4466, .box false 142 (PV.ar 142 v5)), (4467, .vec false 5 false v6), (4468, .box false 159 (PV.ar 159 v7)), (4469, .box false 142 (PV.ar 142 v8))]) (Jq tau 0 Zy k) = VC f (fun x0 x1 x2 x3 x4 x5 x6 x7 => k (Ex.exit 10) (Jc Zy N51 [.ptr 4464 [], .ptr 4465 [], .ptr 4466 [], .ow 5 4467 [] 0 x0 none, .ptr 4468 [], .sc (.int .i64 x1), .ptr 4469 []] [(4464, .box false 37 (PV.ar 37 x2)), (4465, .box false 159 (PV.ar 159 x3)), (4466, .box false 142 (PV.ar 142 x4)), (4467, .vec false 5 false x5), (4468, .box false 159 (PV.ar 159 x6)), (4469, .box false 142 (PV.ar 142 x7))])) n v0 v1 v2 v3 v4 v5 v6 v7 v8 | 0, _, _, _, _, _, _, _, _, _ => rfl | n + 1, v0, v1, v2, v3, v4, v5, v6, v7, v8 => (JpJ f k n v0 v1 v2 v3 v4 v5 v6 v7 v8).trans (congrArg (fun r => Gv f r (fun x0 x1 x2 x3 x4 x5 x6 x7 => k (Ex.exit 10) (Jc Zy N51 [.ptr 4464 [], .ptr 4465 [], .ptr 4466 [], .ow 5 4467 [] 0 x0 none, .ptr 4468 [], .sc (.int .i64 x1), .ptr 4469 []] [(4464, .box false 37 (PV.ar 37 x2)), (4465, .box false 159 (PV.ar 159 x3)), (4466, .box false 142 (PV.ar 142 x4)), (4467, .vec false 5 false x5), (4468, .box false 159 (PV.ar 159 x6)), (4469, .box false 142 (PV.ar 142 x7))])) v0 v1 v2 v3 v4 v5 v6 v7 v8) (by funext v0 v1 v2 v3 v4 v5 v6 v7 v8; exact JjK f k n v0 v1 v2 v3 v4 v5 v6 v7 v8))
def JaL (f : Nat) : List PV -> List (Nat × Ent) -> Kont -> Option Res
 | [.ptr 4464 [], .ptr 4465 [], .ptr 4466 [], .ow 5 4467 [] 0 v0 none, .ptr 4468 [], .sc (.int .i64 v1), .ptr 4469 [],
 PV.sc
  (Value.int IntKind.i64
   v2)], [(4464, .box false 37 (PV.ar 37 v3)), (4465, .box false 159 (PV.ar 159 v4)), (4466, .box false 142 (PV.ar 142 v5)), (4467, .vec false 5 false v6),
 (4468, .box false 159 (PV.ar 159 v7)),
 (4469,
  Ent.box false 142
   (PV.ar 142
    v8))], k => VC f (fun x0 x1 x2 x3 x4 x5 x6 x7 => k (Ex.exit
 10) (Jc Zy N51 [.ptr 4464 [], .ptr 4465 [], .ptr 4466 [], .ow 5 4467 [] 0 x0 none, .ptr 4468 [], .sc (.int .i64 x1),
 PV.ptr 4469
  []] [(4464, .box false 37 (PV.ar 37 x2)), (4465, .box false 159 (PV.ar 159 x3)), (4466, .box false 142 (PV.ar 142 x4)), (4467, .vec false 5 false x5),
 (4468, .box false 159 (PV.ar 159 x6)), (4469, .box false 142 (PV.ar 142 x7))])) f v0 v1 v2 v3 v4 v5 v6 v7 v8
 | _, _, _ => none
theorem Juw (f : Nat) : Je Jdw Jgh = [] := by kernel_rfl
theorem Jy4 (f : Nat) : (Item.l Jdw Yu N51 (JaL f)).Ok tau Try.prog 0 := JJ Jr Yp Js (x := Jgh) (nm2 := Zy) (Jk _ _ (by rw [Juw f]; intro q hq; cases hq)) fun vs hp k res hr => by
 unfold JaL at hr
 split at hr
 · exact ⟨f, 0, (JjK f _ f _ _ _ _ _ _ _ _ _ ).trans hr⟩
 · cases hr
def Gw (f : Nat) (rc : Nat -> Int -> Int -> List PV -> List PV -> List PV -> List PV -> List PV -> List PV -> Option Res) (k0 : Nat -> Int -> List PV -> List PV -> List PV -> List PV -> List PV -> Option Res) (v0 : Nat) (v1 v2 : Int) (v3 v4 v5 v6 v7 v8 : List PV) : Option Res := bif decide (v2 < 8) then bif decide (0 <= v2) && decide (v2 < zi 8) && true then bif PV.isInt IntKind.u32 (Jm (PV.ar 142 v5) [v2.toNat]) && true then bif decide (0 <= v2) && decide (v2 < zi 8) && true then bif PV.isInt IntKind.u32 (Jm (PV.ar 142 v8) [v2.toNat]) && true then bif decide (0 <= v2) && decide (v2 < zi 8) && true then rc v0 v1 (IntKind.i64.wrap (v2 + 1)) v3 v4 (v5.set v2.toNat (.sc (.int .u32 (IntKind.u32.wrap ((Jm (PV.ar 142 v5) [v2.toNat]).int + (Jm (PV.ar 142 v8) [v2.toNat]).int))))) v6 v7 v8 else none else none else none else none else none else k0 v0 v1 v3 v4 v5 v6 v7
def VD (f : Nat) (k0 : Nat -> Int -> List PV -> List PV -> List PV -> List PV -> List PV -> Option Res) : Nat -> Nat -> Int -> Int -> List PV -> List PV -> List PV -> List PV -> List PV -> List PV -> Option Res
 | 0, _, _, _, _, _, _, _, _, _ => none
 | n + 1, v0, v1, v2, v3, v4, v5, v6, v7, v8 => Gw f (VD f k0 n) k0 v0 v1 v2 v3 v4 v5 v6 v7 v8
theorem JpK (f : Nat) (k : Kont) (n v0 : Nat) (v1 v2 : Int) (v3 v4 v5 v6 v7 v8 : List PV) : Jp tau 0 Yv (fun s k => ev tau F51 0 0 Jdx (Jgi ) s k) (n + 1) (Jc Yv N51 [.ptr 4464 [], .ptr 4465 [], .ptr 4466 [], .ow 5 4467 [] 0 v0 none, .ptr 4468 [], .sc (.int .i64 v1), .ptr 4469 [], .sc (.int .i64 v2)] [(4464, .box false 37 (PV.ar 37 v3)), (4465, .box false 159 (PV.ar 159 v4)), (4466, .box false 142 (PV.ar 142 v5)), (4467, .vec false 5 false v6), (4468, .box false 159 (PV.ar 159 v7)), (4469, .box false 142 (PV.ar 142 v8))]) (Jq tau 0 Zz k) = Gw f (fun v0 v1 v2 v3 v4 v5 v6 v7 v8 => Jp tau 0 Yv (fun s k => ev tau F51 0 0 Jdx (Jgi ) s k) n (Jc Yv N51 [.ptr 4464 [], .ptr 4465 [], .ptr 4466 [], .ow 5 4467 [] 0 v0 none, .ptr 4468 [], .sc (.int .i64 v1), .ptr 4469 [], .sc (.int .i64 v2)] [(4464, .box false 37 (PV.ar 37 v3)), (4465, .box false 159 (PV.ar 159 v4)), (4466, .box false 142 (PV.ar 142 v5)), (4467, .vec false 5 false v6), (4468, .box false 159 (PV.ar 159 v7)), (4469, .box false 142 (PV.ar 142 v8))]) (Jq tau 0 Zz k)) (fun x0 x1 x2 x3 x4 x5 x6 => k (Ex.exit 12) (Jc Zz N51 [.ptr 4464 [], .ptr 4465 [], .ptr 4466 [], .ow 5 4467 [] 0 x0 none, .ptr 4468 [], .sc (.int .i64 x1)] [(4464, .box false 37 (PV.ar 37 x2)), (4465, .box false 159 (PV.ar 159 x3)), (4466, .box false 142 (PV.ar 142 x4)), (4467, .vec false 5 false x5), (4468, .box false 159 (PV.ar 159 x6))])) v0 v1 v2 v3 v4 v5 v6 v7 v8 := by kernel_rfl
theorem JjL (f : Nat) (k : Kont) : ∀ (n v0 : Nat) (v1 v2 : Int) (v3 v4 v5 v6 v7 v8 : List PV), Jp tau 0 Yv (fun s k => ev tau F51 0 0 Jdx (Jgi ) s k) n (Jc Yv N51 [.ptr 4464 [], .ptr 4465 [], .ptr 4466 [], .ow 5 4467 [] 0 v0 none, .ptr 4468 [], .sc (.int .i64 v1), .ptr 4469 [], .sc (.int .i64 v2)] [(4464, .box false 37 (PV.ar 37 v3)), (4465, .box false 159 (PV.ar 159 v4)), (4466, .box false 142 (PV.ar 142 v5)), (4467, .vec false 5 false v6), (4468, .box false 159 (PV.ar 159 v7)), (4469, .box false 142 (PV.ar 142 v8))]) (Jq tau 0 Zz k) = VD f (fun x0 x1 x2 x3 x4 x5 x6 => k (Ex.exit 12) (Jc Zz N51 [.ptr 4464 [], .ptr 4465 [], .ptr 4466 [], .ow 5 4467 [] 0 x0 none, .ptr 4468 [], .sc (.int .i64 x1)] [(4464, .box false 37 (PV.ar 37 x2)), (4465, .box false 159 (PV.ar 159 x3)), (4466, .box false 142 (PV.ar 142 x4)), (4467, .vec false 5 false x5), (4468, .box false 159 (PV.ar 159 x6))])) n v0 v1 v2 v3 v4 v5 v6 v7 v8 | 0, _, _, _, _, _, _, _, _, _ => rfl | n + 1, v0, v1, v2, v3, v4, v5, v6, v7, v8 => (JpK f k n v0 v1 v2 v3 v4 v5 v6 v7 v8).trans (congrArg (fun r => Gw f r (fun x0 x1 x2 x3 x4 x5 x6 => k (Ex.exit 12) (Jc Zz N51 [.ptr 4464 [], .ptr 4465 [], .ptr 4466 [], .ow 5 4467 [] 0 x0 none, .ptr 4468 [], .sc (.int .i64 x1)] [(4464, .box false 37 (PV.ar 37 x2)), (4465, .box false 159 (PV.ar 159 x3)), (4466, .box false 142 (PV.ar 142 x4)), (4467, .vec false 5 false x5), (4468, .box false 159 (PV.ar 159 x6))])) v0 v1 v2 v3 v4 v5 v6 v7 v8) (by funext v0 v1 v2 v3 v4 v5 v6 v7 v8; exact JjL f k n v0 v1 v2 v3 v4 v5 v6 v7 v8))
def JaM (f : Nat) : List PV -> List (Nat × Ent) -> Kont -> Option Res
 | [.ptr 4464 [], .ptr 4465 [], .ptr 4466 [], .ow 5 4467 [] 0 v0 none, .ptr 4468 [], .sc (.int .i64 v1), .ptr 4469 [],
 PV.sc
  (Value.int IntKind.i64
   v2)], [(4464, .box false 37 (PV.ar 37 v3)), (4465, .box false 159 (PV.ar 159 v4)), (4466, .box false 142 (PV.ar 142 v5)), (4467, .vec false 5 false v6),
 (4468, .box false 159 (PV.ar 159 v7)),
 (4469,
  Ent.box false 142
   (PV.ar 142
    v8))], k => VD f (fun x0 x1 x2 x3 x4 x5 x6 => k (Ex.exit
 12) (Jc Zz N51 [.ptr 4464 [], .ptr 4465 [], .ptr 4466 [], .ow 5 4467 [] 0 x0 none, .ptr 4468 [],
 PV.sc
  (Value.int IntKind.i64
   x1)] [(4464, .box false 37 (PV.ar 37 x2)), (4465, .box false 159 (PV.ar 159 x3)), (4466, .box false 142 (PV.ar 142 x4)), (4467, .vec false 5 false x5),
 (4468, .box false 159 (PV.ar 159 x6))])) f v0 v1 v2 v3 v4 v5 v6 v7 v8
 | _, _, _ => none
theorem Jux (f : Nat) : Je Jdx Jgi = [] := by kernel_rfl
theorem Jy5 (f : Nat) : (Item.l Jdx Yv N51 (JaM f)).Ok tau Try.prog 0 := JJ Jr Yp Js (x := Jgi) (nm2 := Zz) (Jk _ _ (by rw [Jux f]; intro q hq; cases hq)) fun vs hp k res hr => by
 unfold JaM at hr
 split at hr
 · exact ⟨f, 0, (JjL f _ f _ _ _ _ _ _ _ _ _ ).trans hr⟩
 · cases hr
def Gx (f : Nat) (rc : Nat -> Int -> List PV -> List PV -> List PV -> List PV -> List PV -> Option Res) (k0 : List PV -> List PV -> Option Res) (v0 : Nat) (v1 : Int) (v2 v3 v4 v5 v6 : List PV) : Option Res := bif decide (v1 < zi v0) then VA f (fun x0_2 x1_2 x2_2 x3_2 VP x5_2 x6_2 => VB f (fun x0_3 x1_3 x2_3 x3_3 JgH x5_3 x6_3 => VC f (fun x0_4 x1_4 x2_4 x3_4 x4_4 x5_4 x6_4 x7_4 => VD f (fun x0_5 x1_5 x2_5 x3_5 x4_5 x5_5 x6_5 => rc x0_5 (IntKind.i64.wrap (x1_5 + 64)) x2_5 x3_5 x4_5 x5_5 x6_5) f x0_4 x1_4 (0) x2_4 x3_4 x4_4 x5_4 x6_4 x7_4) f x0_3 x1_3 (0) x2_3 x3_3 JgH x5_3 x6_3 JgH) f x0_2 x1_2 (16) x2_2 x3_2 VP x5_2 x6_2) f v0 v1 (0) v2 v3 v4 v5 v6 else k0 v2 v4
def VE (f : Nat) (k0 : List PV -> List PV -> Option Res) : Nat -> Nat -> Int -> List PV -> List PV -> List PV -> List PV -> List PV -> Option Res
 | 0, _, _, _, _, _, _, _ => none
 | n + 1, v0, v1, v2, v3, v4, v5, v6 => Gx f (VE f k0 n) k0 v0 v1 v2 v3 v4 v5 v6
theorem JpL (f : Nat) (k : Kont) (n v0 : Nat) (v1 : Int) (v2 v3 v4 v5 v6 : List PV) : Jp tau 0 Yw (fun s k => ev tau F51 0 0 Jdy (Jgj (JaJ f) (JaK f) (JaL f) (JaM f)) s k) (n + 1) (Jc Yw N51 [.ptr 4464 [], .ptr 4465 [], .ptr 4466 [], .ow 5 4467 [] 0 v0 none, .ptr 4468 [], .sc (.int .i64 v1)] [(4464, .box false 37 (PV.ar 37 v2)), (4465, .box false 159 (PV.ar 159 v3)), (4466, .box false 142 (PV.ar 142 v4)), (4467, .vec false 5 false v5), (4468, .box false 159 (PV.ar 159 v6))]) (Jq tau 0 ZA k) = Gx f (fun v0 v1 v2 v3 v4 v5 v6 => Jp tau 0 Yw (fun s k => ev tau F51 0 0 Jdy (Jgj (JaJ f) (JaK f) (JaL f) (JaM f)) s k) n (Jc Yw N51 [.ptr 4464 [], .ptr 4465 [], .ptr 4466 [], .ow 5 4467 [] 0 v0 none, .ptr 4468 [], .sc (.int .i64 v1)] [(4464, .box false 37 (PV.ar 37 v2)), (4465, .box false 159 (PV.ar 159 v3)), (4466, .box false 142 (PV.ar 142 v4)), (4467, .vec false 5 false v5), (4468, .box false 159 (PV.ar 159 v6))]) (Jq tau 0 ZA k)) (fun x0 x1 => k (Ex.exit 4) (Jc ZA N51 [.ptr 4464 [], .ptr 4465 []] [(4464, .box false 37 (PV.ar 37 x0)), (4465, .box false 142 (PV.ar 142 x1))])) v0 v1 v2 v3 v4 v5 v6 := by kernel_rfl
theorem JjM (f : Nat) (k : Kont) : ∀ (n v0 : Nat) (v1 : Int) (v2 v3 v4 v5 v6 : List PV), Jp tau 0 Yw (fun s k => ev tau F51 0 0 Jdy (Jgj (JaJ f) (JaK f) (JaL f) (JaM f)) s k) n (Jc Yw N51 [.ptr 4464 [], .ptr 4465 [], .ptr 4466 [], .ow 5 4467 [] 0 v0 none, .ptr 4468 [], .sc (.int .i64 v1)] [(4464, .box false 37 (PV.ar 37 v2)), (4465, .box false 159 (PV.ar 159 v3)), (4466, .box false 142 (PV.ar 142 v4)), (4467, .vec false 5 false v5), (4468, .box false 159 (PV.ar 159 v6))]) (Jq tau 0 ZA k) = VE f (fun x0 x1 => k (Ex.exit 4) (Jc ZA N51 [.ptr 4464 [], .ptr 4465 []] [(4464, .box false 37 (PV.ar 37 x0)), (4465, .box false 142 (PV.ar 142 x1))])) n v0 v1 v2 v3 v4 v5 v6 | 0, _, _, _, _, _, _, _ => rfl | n + 1, v0, v1, v2, v3, v4, v5, v6 => (JpL f k n v0 v1 v2 v3 v4 v5 v6).trans (congrArg (fun r => Gx f r (fun x0 x1 => k (Ex.exit 4) (Jc ZA N51 [.ptr 4464 [], .ptr 4465 []] [(4464, .box false 37 (PV.ar 37 x0)), (4465, .box false 142 (PV.ar 142 x1))])) v0 v1 v2 v3 v4 v5 v6) (by funext v0 v1 v2 v3 v4 v5 v6; exact JjM f k n v0 v1 v2 v3 v4 v5 v6))
def Jcc (f : Nat) : List PV -> List (Nat × Ent) -> Kont -> Option Res
 | [.ptr 4464 [], .ptr 4465 [], .ptr 4466 [], .ow 5 4467 [] 0 v0 none, .ptr 4468 [],
 PV.sc
  (Value.int IntKind.i64
   v1)], [(4464, .box false 37 (PV.ar 37 v2)), (4465, .box false 159 (PV.ar 159 v3)), (4466, .box false 142 (PV.ar 142 v4)), (4467, .vec false 5 false v5),
 (4468,
  Ent.box false 159
   (PV.ar 159
    v6))], k => VE f (fun x0 x1 => k (Ex.exit
 4) (Jc ZA N51 [.ptr 4464 [], .ptr 4465 []] [(4464, .box false 37 (PV.ar 37 x0)), (4465, .box false 142 (PV.ar 142 x1))])) f v0 v1 v2 v3 v4 v5 v6
 | _, _, _ => none
theorem Juy (f : Nat) : Je Jdy (Jgj (JaJ f) (JaK f) (JaL f) (JaM f)) = [.l Jdu Ys N51 (JaJ f), .l Jdv Yt N51 (JaK f), .l Jdw Yu N51 (JaL f), .l Jdx Yv N51 (JaM f)] := by kernel_rfl
theorem Jy6 (f : Nat) : (Item.l Jdy Yw N51 (Jcc f)).Ok tau Try.prog 0 := JJ Jr Yp Js (x := (Jgj (JaJ f) (JaK f) (JaL f) (JaM f))) (nm2 := ZA) (Jk _ _ (by rw [Juy f]; simp only [List.forall_mem_cons, List.not_mem_nil, false_implies, implies_true, and_true]; exact ⟨Jy2 f, Jy3 f, Jy4 f, Jy5 f⟩)) fun vs hp k res hr => by
 unfold Jcc at hr
 split at hr
 · exact ⟨f, 0, (JjM f _ f _ _ _ _ _ _ _ ).trans hr⟩
 · cases hr
def Gy (f : Nat) (rc : Int -> List PV -> List PV -> List PV -> Option Res) (k0 : List PV -> List PV -> Option Res) (v0 : Int) (v1 v2 v3 : List PV) : Option Res := bif decide (v0 < 8) then bif decide (0 <= v0) && decide (v0 < zi 8) && true then bif PV.isInt IntKind.u32 (Jm (PV.ar 142 v2) [v0.toNat]) && true then bif decide (0 <= v0) && decide (v0 < zi 8) && true then bif PV.isInt IntKind.u32 (Jm (PV.ar 142 v2) [v0.toNat]) && true then bif decide (0 <= v0) && decide (v0 < zi 8) && true then bif PV.isInt IntKind.u32 (Jm (PV.ar 142 v2) [v0.toNat]) && true then bif decide (0 <= v0) && decide (v0 < zi 8) && true then bif PV.isInt IntKind.u32 (Jm (PV.ar 142 v2) [v0.toNat]) && true then bif decide (0 <= IntKind.i64.wrap (4 * v0)) && decide (IntKind.i64.wrap (4 * v0) < zi 32) && true then bif decide (0 <= IntKind.i64.wrap (IntKind.i64.wrap (4 * v0) + 1)) && decide (IntKind.i64.wrap (IntKind.i64.wrap (4 * v0) + 1) < zi 32) && true then bif decide (0 <= IntKind.i64.wrap (IntKind.i64.wrap (4 * v0) + 2)) && decide (IntKind.i64.wrap (IntKind.i64.wrap (4 * v0) + 2) < zi 32) && true then bif decide (0 <= IntKind.i64.wrap (IntKind.i64.wrap (4 * v0) + 3)) && decide (IntKind.i64.wrap (IntKind.i64.wrap (4 * v0) + 3) < zi 32) && true then rc (IntKind.i64.wrap (v0 + 1)) v1 v2 ((((v3.set (IntKind.i64.wrap (4 * v0)).toNat (.sc (.int .u8 (IntKind.u8.wrap (JA IntKind.u32 (Jm (PV.ar 142 v2) [v0.toNat]).int 24))))).set (IntKind.i64.wrap (IntKind.i64.wrap (4 * v0) + 1)).toNat (.sc (.int .u8 (IntKind.u8.wrap (JA IntKind.u32 (Jm (PV.ar 142 v2) [v0.toNat]).int 16))))).set (IntKind.i64.wrap (IntKind.i64.wrap (4 * v0) + 2)).toNat (.sc (.int .u8 (IntKind.u8.wrap (JA IntKind.u32 (Jm (PV.ar 142 v2) [v0.toNat]).int 8))))).set (IntKind.i64.wrap (IntKind.i64.wrap (4 * v0) + 3)).toNat (.sc (.int .u8 (IntKind.u8.wrap (Jm (PV.ar 142 v2) [v0.toNat]).int)))) else none else none else none else none else none else none else none else none else none else none else none else none else k0 v1 v3
def VF (f : Nat) (k0 : List PV -> List PV -> Option Res) : Nat -> Int -> List PV -> List PV -> List PV -> Option Res
 | 0, _, _, _, _ => none
 | n + 1, v0, v1, v2, v3 => Gy f (VF f k0 n) k0 v0 v1 v2 v3
theorem JpM (f : Nat) (k : Kont) (n : Nat) (v0 : Int) (v1 v2 v3 : List PV) : Jp tau 0 Yx (fun s k => ev tau F51 0 0 Jdz (Jgk ) s k) (n + 1) (Jc Yx N51 [.ptr 4464 [], .ptr 4465 [], .ptr 4466 [], .sc (.int .i64 v0)] [(4464, .box false 37 (PV.ar 37 v1)), (4465, .box false 142 (PV.ar 142 v2)), (4466, .box false 37 (PV.ar 37 v3))]) (Jq tau 0 ZB k) = Gy f (fun v0 v1 v2 v3 => Jp tau 0 Yx (fun s k => ev tau F51 0 0 Jdz (Jgk ) s k) n (Jc Yx N51 [.ptr 4464 [], .ptr 4465 [], .ptr 4466 [], .sc (.int .i64 v0)] [(4464, .box false 37 (PV.ar 37 v1)), (4465, .box false 142 (PV.ar 142 v2)), (4466, .box false 37 (PV.ar 37 v3))]) (Jq tau 0 ZB k)) (fun x0 x1 => k (Ex.exit 14) (Jc ZB N51 [.ptr 4464 [], .ptr 4465 []] [(4464, .box false 37 (PV.ar 37 x0)), (4465, .box false 37 (PV.ar 37 x1))])) v0 v1 v2 v3 := by kernel_rfl
theorem JjN (f : Nat) (k : Kont) : ∀ (n : Nat) (v0 : Int) (v1 v2 v3 : List PV), Jp tau 0 Yx (fun s k => ev tau F51 0 0 Jdz (Jgk ) s k) n (Jc Yx N51 [.ptr 4464 [], .ptr 4465 [], .ptr 4466 [], .sc (.int .i64 v0)] [(4464, .box false 37 (PV.ar 37 v1)), (4465, .box false 142 (PV.ar 142 v2)), (4466, .box false 37 (PV.ar 37 v3))]) (Jq tau 0 ZB k) = VF f (fun x0 x1 => k (Ex.exit 14) (Jc ZB N51 [.ptr 4464 [], .ptr 4465 []] [(4464, .box false 37 (PV.ar 37 x0)), (4465, .box false 37 (PV.ar 37 x1))])) n v0 v1 v2 v3 | 0, _, _, _, _ => rfl | n + 1, v0, v1, v2, v3 => (JpM f k n v0 v1 v2 v3).trans (congrArg (fun r => Gy f r (fun x0 x1 => k (Ex.exit 14) (Jc ZB N51 [.ptr 4464 [], .ptr 4465 []] [(4464, .box false 37 (PV.ar 37 x0)), (4465, .box false 37 (PV.ar 37 x1))])) v0 v1 v2 v3) (by funext v0 v1 v2 v3; exact JjN f k n v0 v1 v2 v3))
def Jcd (f : Nat) : List PV -> List (Nat × Ent) -> Kont -> Option Res
 | [.ptr 4464 [], .ptr 4465 [], .ptr 4466 [],
 PV.sc
  (Value.int IntKind.i64
   v0)], [(4464, .box false 37 (PV.ar 37 v1)), (4465, .box false 142 (PV.ar 142 v2)),
 (4466,
  Ent.box false 37
   (PV.ar 37
    v3))], k => VF f (fun x0 x1 => k (Ex.exit
 14) (Jc ZB N51 [.ptr 4464 [], .ptr 4465 []] [(4464, .box false 37 (PV.ar 37 x0)), (4465, .box false 37 (PV.ar 37 x1))])) f v0 v1 v2 v3
 | _, _, _ => none
theorem Juz (f : Nat) : Je Jdz Jgk = [] := by kernel_rfl
theorem Jy7 (f : Nat) : (Item.l Jdz Yx N51 (Jcd f)).Ok tau Try.prog 0 := JJ Jr Yp Js (x := Jgk) (nm2 := ZB) (Jk _ _ (by rw [Juz f]; intro q hq; cases hq)) fun vs hp k res hr => by
 unfold Jcd at hr
 split at hr
 · exact ⟨f, 0, (JjN f _ f _ _ _ _ ).trans hr⟩
 · cases hr
def g51 (f : Nat) (nl fl : Bool) (b : List PV) (k : Res -> Option Res) : Option Res := bif Jf (0 + b.length) 1 && true then bif Jf (0 + b.length + 1) 1 && true then Vy f (fun x0_0 x1_0 x2_0 x3_0 QI x5_0 x6_0 x7_0 => Vz f (fun x0_1 x1_1 x2_1 x3_1 Wf => VE f (fun x0_6 x1_6 => VF f (fun x0_7 x1_7 => k (Res.mk (.ar 37 x1_7) [] [])) f (0) x0_6 x1_6 ([.sc (.int .u8 0), .sc (.int .u8 0), .sc (.int .u8 0), .sc (.int .u8 0), .sc (.int .u8 0), .sc (.int .u8 0), .sc (.int .u8 0), .sc (.int .u8 0), .sc (.int .u8 0), .sc (.int .u8 0), .sc (.int .u8 0), .sc (.int .u8 0), .sc (.int .u8 0), .sc (.int .u8 0), .sc (.int .u8 0), .sc (.int .u8 0), .sc (.int .u8 0), .sc (.int .u8 0), .sc (.int .u8 0), .sc (.int .u8 0), .sc (.int .u8 0), .sc (.int .u8 0), .sc (.int .u8 0), .sc (.int .u8 0), .sc (.int .u8 0), .sc (.int .u8 0), .sc (.int .u8 0), .sc (.int .u8 0), .sc (.int .u8 0), .sc (.int .u8 0), .sc (.int .u8 0), .sc (.int .u8 0)])) f x0_1 (0) x1_1 x2_1 x3_1 Wf ([.sc (.int .u32 0), .sc (.int .u32 0), .sc (.int .u32 0), .sc (.int .u32 0), .sc (.int .u32 0), .sc (.int .u32 0), .sc (.int .u32 0), .sc (.int .u32 0), .sc (.int .u32 0), .sc (.int .u32 0), .sc (.int .u32 0), .sc (.int .u32 0), .sc (.int .u32 0), .sc (.int .u32 0), .sc (.int .u32 0), .sc (.int .u32 0), .sc (.int .u32 0), .sc (.int .u32 0), .sc (.int .u32 0), .sc (.int .u32 0), .sc (.int .u32 0), .sc (.int .u32 0), .sc (.int .u32 0), .sc (.int .u32 0), .sc (.int .u32 0), .sc (.int .u32 0), .sc (.int .u32 0), .sc (.int .u32 0), .sc (.int .u32 0), .sc (.int .u32 0), .sc (.int .u32 0), .sc (.int .u32 0), .sc (.int .u32 0), .sc (.int .u32 0), .sc (.int .u32 0), .sc (.int .u32 0), .sc (.int .u32 0), .sc (.int .u32 0), .sc (.int .u32 0), .sc (.int .u32 0), .sc (.int .u32 0), .sc (.int .u32 0), .sc (.int .u32 0), .sc (.int .u32 0), .sc (.int .u32 0), .sc (.int .u32 0), .sc (.int .u32 0), .sc (.int .u32 0), .sc (.int .u32 0), .sc (.int .u32 0), .sc (.int .u32 0), .sc (.int .u32 0), .sc (.int .u32 0), .sc (.int .u32 0), .sc (.int .u32 0), .sc (.int .u32 0), .sc (.int .u32 0), .sc (.int .u32 0), .sc (.int .u32 0), .sc (.int .u32 0), .sc (.int .u32 0), .sc (.int .u32 0), .sc (.int .u32 0), .sc (.int .u32 0)])) f x3_0 (IntKind.u64.wrap (IntKind.u64.wrap (zi x2_0.length) * 8)) (7) QI x5_0 x6_0 x7_0) f nl fl b (0 + b.length + 1) ([.sc (.int .u8 0), .sc (.int .u8 0), .sc (.int .u8 0), .sc (.int .u8 0), .sc (.int .u8 0), .sc (.int .u8 0), .sc (.int .u8 0), .sc (.int .u8 0), .sc (.int .u8 0), .sc (.int .u8 0), .sc (.int .u8 0), .sc (.int .u8 0), .sc (.int .u8 0), .sc (.int .u8 0), .sc (.int .u8 0), .sc (.int .u8 0), .sc (.int .u8 0), .sc (.int .u8 0), .sc (.int .u8 0), .sc (.int .u8 0), .sc (.int .u8 0), .sc (.int .u8 0), .sc (.int .u8 0), .sc (.int .u8 0), .sc (.int .u8 0), .sc (.int .u8 0), .sc (.int .u8 0), .sc (.int .u8 0), .sc (.int .u8 0), .sc (.int .u8 0), .sc (.int .u8 0), .sc (.int .u8 0)]) ([.sc (.int .u32 1116352408), .sc (.int .u32 1899447441), .sc (.int .u32 3049323471), .sc (.int .u32 3921009573), .sc (.int .u32 961987163), .sc (.int .u32 1508970993), .sc (.int .u32 2453635748), .sc (.int .u32 2870763221), .sc (.int .u32 3624381080), .sc (.int .u32 310598401), .sc (.int .u32 607225278), .sc (.int .u32 1426881987), .sc (.int .u32 1925078388), .sc (.int .u32 2162078206), .sc (.int .u32 2614888103), .sc (.int .u32 3248222580), .sc (.int .u32 3835390401), .sc (.int .u32 4022224774), .sc (.int .u32 264347078), .sc (.int .u32 604807628), .sc (.int .u32 770255983), .sc (.int .u32 1249150122), .sc (.int .u32 1555081692), .sc (.int .u32 1996064986), .sc (.int .u32 2554220882), .sc (.int .u32 2821834349), .sc (.int .u32 2952996808), .sc (.int .u32 3210313671), .sc (.int .u32 3336571891), .sc (.int .u32 3584528711), .sc (.int .u32 113926993), .sc (.int .u32 338241895), .sc (.int .u32 666307205), .sc (.int .u32 773529912), .sc (.int .u32 1294757372), .sc (.int .u32 1396182291), .sc (.int .u32 1695183700), .sc (.int .u32 1986661051), .sc (.int .u32 2177026350), .sc (.int .u32 2456956037), .sc (.int .u32 2730485921), .sc (.int .u32 2820302411), .sc (.int .u32 3259730800), .sc (.int .u32 3345764771), .sc (.int .u32 3516065817), .sc (.int .u32 3600352804), .sc (.int .u32 4094571909), .sc (.int .u32 275423344), .sc (.int .u32 430227734), .sc (.int .u32 506948616), .sc (.int .u32 659060556), .sc (.int .u32 883997877), .sc (.int .u32 958139571), .sc (.int .u32 1322822218), .sc (.int .u32 1537002063), .sc (.int .u32 1747873779), .sc (.int .u32 1955562222), .sc (.int .u32 2024104815), .sc (.int .u32 2227730452), .sc (.int .u32 2361852424), .sc (.int .u32 2428436474), .sc (.int .u32 2756734187), .sc (.int .u32 3204031479), .sc (.int .u32 3329325298)]) ([.sc (.int .u32 1779033703), .sc (.int .u32 3144134277), .sc (.int .u32 1013904242), .sc (.int .u32 2773480762), .sc (.int .u32 1359893119), .sc (.int .u32 2600822924), .sc (.int .u32 528734635), .sc (.int .u32 1541459225)]) (List.take (0 + b.length) ([] ++ b) ++ [.sc (.int .u8 128)]) else none else none
theorem e51 (f : Nat) (nl fl : Bool) (b : List PV) (k : Res -> Option Res) : JM tau F51 Try.f51 (Try.f51.body.get!) (JpE (Jca f) (Jcb f) (Jcc f) (Jcd f)) [] 0 [.ro 5 nl fl b] [] k = g51 f nl fl b k := by kernel_rfl
theorem JCL (f : Nat) : Je (Try.f51.body.get!) (JpE (Jca f) (Jcb f) (Jcc f) (Jcd f)) = [.l Jds Yq N51 (Jca f), .l Jdt Yr N51 (Jcb f), .l Jdy Yw N51 (Jcc f), .l Jdz Yx N51 (Jcd f)] := by kernel_rfl
theorem JCM (f : Nat) : ∀ q ∈ Je (Try.f51.body.get!) (JpE (Jca f) (Jcb f) (Jcc f) (Jcd f)), q.Ok tau Try.prog 0 := by
 rw [JCL f]; simp only [List.forall_mem_cons, List.not_mem_nil, false_implies, implies_true, and_true]; exact ⟨Jy0 f, Jy1 f, Jy6 f, Jy7 f⟩
theorem Jy8 : Try.prog.funcs[51]? = some Try.f51 := by kernel_rfl
theorem Jy9 : Try.f51.body = some (Try.f51.body.get!) := by kernel_rfl
theorem JuA : Enters Try.prog 51 := enters_of Jy8 (by kernel_rfl) Jy9
-- FN ref2.Sum
theorem Jms (v : PV) : Jm v [] = v := rfl
theorem Xd {R : List Int} (h : R.length = 8) (j : Nat) (hj : j < 8) : (pu .u32 R).getD j .top = .sc (.int .u32 (R.getD j 0)) := Y0 (by omega)
theorem Jr2 (f : Nat) (a b : Bool) (c x y w : List PV) (k0 : Bool -> Bool -> List PV -> Nat -> List PV -> List PV -> List PV -> List PV -> Option Res) : ∀ (d n : Nat) (L : List Int), zs L.length = d -> d < n -> L.length + d <= 140737488355200 ->
  Vy f k0 n a b c L.length x y w (pu .u8 L) = k0 a b c (L.length + d) x y w (pu .u8 (L ++ List.replicate d 0))
 | 0, n + 1, L, hd, hn, hL => by
   simp only [Vy, Gr, JbU]
   refine (Jj (by simp [zs] at hd ⊢; omega)).trans ?_
   simp
 | d + 1, n + 1, L, hd, hn, hL => by
   have hlt : d + 1 < 64 := by rw [← hd]; unfold zs; omega
   have c3 : Jf (L.length + 1) 1 = true := by simp [Jf]; omega
   simp only [Vy, Gr, JbU, c3, Bool.and_true, cond_true, Xk]
   refine (Ja (by simp [zs] at hd ⊢; omega)).trans ?_
   rw [List.take_of_length_le (Nat.le_refl _)]
   have := Jr2 f a b c x y w k0 d n (L ++ [0]) (by simp [zs] at hd ⊢; omega) (by omega) (by simp; omega)
   simp only [List.length_append, List.length_cons, List.length_nil, Nat.zero_add, JQ] at this
   refine this.trans ?_
   rw [show L.length + 1 + d = L.length + (d + 1) from by omega, List.replicate_succ]
   simp
def JpN (N : Int) (i : Nat) : Int := IntKind.u8.wrap (JA .u64 N (56 - 8 * (i : Int)))
theorem Jr3 (f : Nat) (N : Int) (x y w : List PV) (k0 : Nat -> List PV -> List PV -> List PV -> List PV -> Option Res) (L : List Int) (hL : L.length <= 140737488355300) : ∀ (d i n : Nat), i + d = 8 -> d < n ->
  Vz f k0 n (L.length + i) N (7 - (i : Int)) x y w (pu .u8 (L ++ (List.range i).map (JpN N))) = k0 (L.length + 8) x y w (pu .u8 (L ++ (List.range 8).map (JpN N)))
 | 0, i, n + 1, h, hn => by
   obtain rfl : i = 8 := by omega
   simp only [Vz, Gs]
   exact Jj (by decide)
 | d + 1, i, n + 1, h, hn => by
   have h1 : IntKind.i64.wrap (7 - (i : Int) - 1) = 7 - ((i + 1 : Nat) : Int) := by rw [wrap_i64 (by omega) (by omega)]; omega
   have h8 : IntKind.u64.wrap (7 - (i : Int)) = 7 - (i : Int) := by rw [QU]; omega
   have h9 : IntKind.u64.wrap (8 * (7 - (i : Int))) = 56 - 8 * (i : Int) := by rw [QU]; omega
   have c1 : decide (7 - (i : Int) >= 0) = true := by simp; omega
   have c2 : decide (0 <= 56 - 8 * (i : Int)) = true := by simp; omega
   have c3 : Jf (L.length + i + 1) 1 = true := by simp [Jf]; omega
   have hlen : (L ++ (List.range i).map (JpN N)).length = L.length + i := by simp
   simp only [Vz, Gs, h1, h8, h9, c1, c2, c3, Bool.and_true, cond_true, Xk]
   rw [List.take_of_length_le (by omega)]
   have := Jr3 f N x y w k0 L hL d (i + 1) n (by omega) (by omega)
   rw [List.range_succ, List.map_append, ← List.append_assoc, JQ] at this
   exact this
theorem Jbe (P : List Int) (q j : Nat) (hj : j < 64) : ((P.drop (64 * q)).take 64).getD j 0 = P.getD (64 * q + j) 0 := by
 simp [List.getD_eq_getElem?_getD, hj, List.getElem?_drop]
theorem Jr4 (P : List Int) (q : Nat) (hq : 64 * q + 64 <= P.length) (hP : P.length <= 140737488356000) (T : List Int) (hT : T.length = 64) (f : Nat) (x y w : List PV) (k0 : Nat -> Int -> List PV -> List PV -> List PV -> List PV -> List PV -> Option Res) : ∀ (d i n : Nat), i + d = 16 -> d < n ->
  VA f k0 n P.length ((64 * q : Nat) : Int) (i : Int) x y w (pu .u8 P) (pu .u32 (Qu (word ((P.drop (64 * q)).take 64)) T i)) = k0 P.length ((64 * q : Nat) : Int) x y w (pu .u8 P) (pu .u32 (Qu (word ((P.drop (64 * q)).take 64)) T 16))
 | 0, i, n + 1, h, hn => by
   obtain rfl : i = 16 := by omega
   simp only [VA, Gt]
   exact Jj (by decide)
 | d + 1, i, n + 1, h, hn => by
   have h4 : IntKind.i64.wrap (4 * (i : Int)) = ((4 * i : Nat) : Int) := by rw [wrap_i64 (by omega) (by omega)]; omega
   have h40 : IntKind.i64.wrap (((64 * q : Nat) : Int) + ((4 * i : Nat) : Int)) = ((64 * q + 4 * i : Nat) : Int) := by rw [wrap_i64 (by omega) (by omega)]; omega
   have h41 : IntKind.i64.wrap (((64 * q + 4 * i : Nat) : Int) + 1) = ((64 * q + (4 * i + 1) : Nat) : Int) := by rw [wrap_i64 (by omega) (by omega)]; omega
   have h42 : IntKind.i64.wrap (((64 * q + 4 * i : Nat) : Int) + 2) = ((64 * q + (4 * i + 2) : Nat) : Int) := by rw [wrap_i64 (by omega) (by omega)]; omega
   have h43 : IntKind.i64.wrap (((64 * q + 4 * i : Nat) : Int) + 3) = ((64 * q + (4 * i + 3) : Nat) : Int) := by rw [wrap_i64 (by omega) (by omega)]; omega
   have h5 : IntKind.i64.wrap ((i : Int) + 1) = ((i + 1 : Nat) : Int) := by rw [wrap_i64 (by omega) (by omega)]; omega
   simp only [VA, Gt, h4, h40, h41, h42, h43, h5, Int.toNat_natCast, Nat.zero_add, Jms, zi]
   rw [J4 (by omega), J4 (by omega), J4 (by omega), J4 (by omega), Qt (by omega), Qt (by omega), Qt (by omega), Qt (by omega), W8]
   refine (Ja (by simp; omega)).trans ?_
   refine (Ja (by simp only [Bool.and_true, Bool.and_eq_true, decide_eq_true_eq]; omega)).trans ?_
   refine (Ja rfl).trans ?_
   refine (Ja (by simp only [Bool.and_true, Bool.and_eq_true, decide_eq_true_eq]; omega)).trans ?_
   refine (Ja rfl).trans ?_
   refine (Ja (by simp only [Bool.and_true, Bool.and_eq_true, decide_eq_true_eq]; omega)).trans ?_
   refine (Ja rfl).trans ?_
   refine (Ja (by simp only [Bool.and_true, Bool.and_eq_true, decide_eq_true_eq]; omega)).trans ?_
   refine (Ja rfl).trans ?_
   refine (Ja (by simp only [Bool.and_true, Bool.and_eq_true, decide_eq_true_eq]; omega)).trans ?_
   have := Jr4 P q hq hP T hT f x y w k0 d (i + 1) n (by omega) (by omega)
   rw [← Qr _ T i (by omega), word, Jbe P q _ (by omega), Jbe P q _ (by omega), Jbe P q _ (by omega), Jbe P q _ (by omega)] at this
   exact this
def Vb (bs T : List Int) (i : Nat) : List Int := Qy bs i ++ T.drop (16 + i)
theorem JeM (bs T : List Int) (hT : T.length = 64) (i : Nat) (h : i <= 48) : (Vb bs T i).length = 64 := by simp [Vb, J7, hT]; omega
theorem ZX (bs T : List Int) (i j : Nat) (h : j < 16 + i) : (Vb bs T i).getD j 0 = (Qy bs i).getD j 0 := by
 simp only [Vb, List.getD_eq_getElem?_getD]
 rw [List.getElem?_append_left (by rw [J7]; exact h)]
theorem JkJ (bs T : List Int) (hT : T.length = 64) (i : Nat) (h : i < 48) (x : Int) : (Vb bs T i).set (i + 16) x = (Qy bs i ++ [x]) ++ T.drop (16 + (i + 1)) := by
 rw [Vb, List.set_append_right _ _ (by rw [J7]; omega), J7, List.drop_eq_getElem_cons (by omega), show i + 16 - (16 + i) = 0 from by omega, List.set_cons_zero]
 simp [Nat.add_assoc]
theorem JpO (w16 w15 w7 w2 : Int) : ww (ww (ww (sg1 w2 + w7) + sg0 w15) + w16) = Js7 w16 w15 w7 w2 := by
 simp only [Js7, ww, JfH]; omega
theorem Jr5 (bs T : List Int) (hT : T.length = 64) (f : Nat) (l : Nat) (p : Int) (x y w e : List PV) (k0 : Nat -> Int -> List PV -> List PV -> List PV -> List PV -> List PV -> Option Res) : ∀ (d i n : Nat), i + d = 48 -> d < n ->
  VB f k0 n l p ((i + 16 : Nat) : Int) x y w e (pu .u32 (Vb bs T i)) = k0 l p x y w e (pu .u32 (Qa bs))
 | 0, i, n + 1, h, hn => by
   obtain rfl : i = 48 := by omega
   simp only [VB, Gu]
   refine (Jj (by decide)).trans ?_
   rw [Vb, List.drop_of_length_le (by omega), List.append_nil]; rfl
 | d + 1, i, n + 1, h, hn => by
   have h15 : IntKind.i64.wrap (((i + 16 : Nat) : Int) - 15) = ((i + 1 : Nat) : Int) := by rw [wrap_i64 (by omega) (by omega)]; omega
   have h2 : IntKind.i64.wrap (((i + 16 : Nat) : Int) - 2) = ((i + 14 : Nat) : Int) := by rw [wrap_i64 (by omega) (by omega)]; omega
   have h16 : IntKind.i64.wrap (((i + 16 : Nat) : Int) - 16) = ((i : Nat) : Int) := by rw [wrap_i64 (by omega) (by omega)]; omega
   have h7 : IntKind.i64.wrap (((i + 16 : Nat) : Int) - 7) = ((i + 9 : Nat) : Int) := by rw [wrap_i64 (by omega) (by omega)]; omega
   have h1 : IntKind.i64.wrap (((i + 16 : Nat) : Int) + 1) = ((i + 1 + 16 : Nat) : Int) := by rw [wrap_i64 (by omega) (by omega)]; omega
   have hl := JeM bs T hT i (by omega)
   simp only [VB, Gu, h15, h2, h16, h7, h1, Int.toNat_natCast, zi, Xl]
   rw [J4 (by omega), J4 (by omega), J4 (by omega), J4 (by omega), Qt (by omega), Qt (by omega), Qt (by omega), Qt (by omega), W8]
   refine (Ja (by simp; omega)).trans ?_
   refine (Ja (by simp; omega)).trans ?_
   refine (Ja rfl).trans ?_
   refine (Ja (by simp; omega)).trans ?_
   refine (Ja rfl).trans ?_
   refine (Ja (by simp; omega)).trans ?_
   refine (Ja rfl).trans ?_
   refine (Ja (by simp; omega)).trans ?_
   refine (Ja rfl).trans ?_
   refine (Ja (by simp; omega)).trans ?_
   have := Jr5 bs T hT f l p x y w e k0 d (i + 1) n (by omega) (by omega)
   rw [ZX bs T i i (by omega), ZX bs T i (i + 1) (by omega), ZX bs T i (i + 9) (by omega), ZX bs T i (i + 14) (by omega), JkJ bs T hT i (by omega)]
   have hn := JpO ((Qy bs i).getD i 0) ((Qy bs i).getD (i + 1) 0) ((Qy bs i).getD (i + 9) 0) ((Qy bs i).getD (i + 14) 0)
   rw [Vb, Qy, ← hn] at this
   exact this
theorem Jr6 (W s : List Int) (hW : W.length = 64) (hs : s.length = 8) (f : Nat) (l : Nat) (p : Int) (x w e : List PV) (k0 : Nat -> Int -> List PV -> List PV -> List PV -> List PV -> List PV -> List PV -> Option Res) : ∀ (d i n : Nat), i + d = 64 -> d < n ->
  VC f k0 n l p (i : Int) x (pu .u32 kks) w e (pu .u32 W) (pu .u32 (G6 W s i)) = k0 l p x (pu .u32 kks) w e (pu .u32 W) (pu .u32 (G6 W s 64))
 | 0, i, n + 1, h, hn => by
   obtain rfl : i = 64 := by omega
   simp only [VC, Gv]
   exact Jj (by decide)
 | d + 1, i, n + 1, h, hn => by
   have hl := Xs W s hs i
   have h1 : IntKind.i64.wrap ((i : Int) + 1) = ((i + 1 : Nat) : Int) := by rw [wrap_i64 (by omega) (by omega)]; omega
   have hk : (pu .u32 kks).getD i .top = .sc (.int .u32 (kks.getD i 0)) := Y0 (by show i < 64; omega)
   have hw : (pu .u32 W).getD i .top = .sc (.int .u32 (W.getD i 0)) := Y0 (by omega)
   have c1 : decide ((i : Int) < 64) = true := by simp; omega
   have c2 : decide (0 <= (i : Int)) = true := by simp
   have c3 : decide ((i : Int) < zi 64) = true := by simp; omega
   simp only [VC, Gv, Xl, Int.toNat_natCast, h1, hk, hw, c1, c2, c3, Xd hl 0 (by omega), Xd hl 1 (by omega), Xd hl 2 (by omega), Xd hl 3 (by omega), Xd hl 4 (by omega), Xd hl 5 (by omega), Xd hl 6 (by omega), Xd hl 7 (by omega), PV.isInt, PV.int, decide_true, Bool.and_true, cond_true]
   exact Jr6 W s hW hs f l p x w e k0 d (i + 1) n (by omega) (by omega)
theorem Jr7 (t s : List Int) (ht : t.length = 8) (hs : s.length = 8) (f : Nat) (l : Nat) (p : Int) (x y e u : List PV) (k0 : Nat -> Int -> List PV -> List PV -> List PV -> List PV -> List PV -> Option Res) : ∀ (d i n : Nat), i + d = 8 -> d < n ->
  VD f k0 n l p (i : Int) x y (pu .u32 (Qu (fun j => ww (t.getD j 0 + s.getD j 0)) s i)) e u (pu .u32 t) = k0 l p x y (pu .u32 ((List.range 8).map fun j => ww (t.getD j 0 + s.getD j 0))) e u
 | 0, i, n + 1, h, hn => by
   obtain rfl : i = 8 := by omega
   simp only [VD, Gw]
   refine (Jj (by decide)).trans ?_
   have := Wc (fun j => ww (t.getD j 0 + s.getD j 0)) s
   rw [hs] at this; rw [this]
 | d + 1, i, n + 1, h, hn => by
   have hl : (Qu (fun j => ww (t.getD j 0 + s.getD j 0)) s i).length = 8 := by rw [V6 _ _ _ (by omega), hs]
   have h1 : IntKind.i64.wrap ((i : Int) + 1) = ((i + 1 : Nat) : Int) := by rw [wrap_i64 (by omega) (by omega)]; omega
   have c1 : decide ((i : Int) < 8) = true := by simp; omega
   have c2 : decide (0 <= (i : Int)) = true := by simp
   have c3 : decide ((i : Int) < zi 8) = true := by simp; omega
   have g1 : ((i : Int)).toNat = i := by omega
   simp only [VD, Gw, Xl, g1, h1, c1, c2, c3, Xd hl i (by omega), Xd ht i (by omega), Jc7 _ s i (by omega), PV.isInt, PV.int, decide_true, Bool.and_true, cond_true, W8]
   have := Jr7 t s ht hs f l p x y e u k0 d (i + 1) n (by omega) (by omega)
   rw [← Qr _ s i (by omega), Int.add_comm (t.getD i 0)] at this
   exact this
theorem Jza (s : List Int) (i : Nat) : YN s (4 * i) = IntKind.u8.wrap (JA .u32 (s.getD i 0) 24) := by
 rw [YN, show 4 * i / 4 = i from by omega, show 4 * i % 4 = 0 from by omega]; rfl
theorem Jzb (s : List Int) (i : Nat) : YN s (4 * i + 1) = IntKind.u8.wrap (JA .u32 (s.getD i 0) 16) := by
 rw [YN, show (4 * i + 1) / 4 = i from by omega, show (4 * i + 1) % 4 = 1 from by omega]; rfl
theorem Jzc (s : List Int) (i : Nat) : YN s (4 * i + 2) = IntKind.u8.wrap (JA .u32 (s.getD i 0) 8) := by
 rw [YN, show (4 * i + 2) / 4 = i from by omega, show (4 * i + 2) % 4 = 2 from by omega]; rfl
theorem Jzd (s : List Int) (i : Nat) : YN s (4 * i + 3) = IntKind.u8.wrap (s.getD i 0) := by
 rw [YN, show (4 * i + 3) / 4 = i from by omega, show (4 * i + 3) % 4 = 3 from by omega]
 have : JA .u32 (s.getD i 0) (24 - 8 * ((3 : Nat) : Int)) = s.getD i 0 := by
  have h0 : (24 - 8 * ((3 : Nat) : Int)) = 0 := by decide
  rw [h0]; simp [JA]
 rw [this]
theorem Jr8 (s : List Int) (hs : s.length = 8) (f : Nat) (k0 : List PV -> List PV -> Option Res) (a : List PV) (t : List Int) (ht : t.length = 32) : ∀ (d i n : Nat), i + d = 8 -> d < n ->
  VF f k0 n (i : Int) a (pu .u32 s) (pu .u8 (Qu (YN s) t (4 * i))) = k0 a (pu .u8 (JlX s))
 | 0, i, n + 1, h, hn => by
   obtain rfl : i = 8 := by omega
   simp only [VF, Gy]
   refine (Jj (by decide)).trans ?_
   have := Wc (YN s) t
   rw [ht] at this; rw [show 4 * 8 = 32 from rfl, this]; rfl
 | d + 1, i, n + 1, h, hn => by
   have h1 : IntKind.i64.wrap ((i : Int) + 1) = ((i + 1 : Nat) : Int) := by rw [wrap_i64 (by omega) (by omega)]; omega
   have h4 : IntKind.i64.wrap (4 * (i : Int)) = ((4 * i : Nat) : Int) := by rw [wrap_i64 (by omega) (by omega)]; omega
   have h41 : IntKind.i64.wrap (((4 * i : Nat) : Int) + 1) = ((4 * i + 1 : Nat) : Int) := by rw [wrap_i64 (by omega) (by omega)]; omega
   have h42 : IntKind.i64.wrap (((4 * i : Nat) : Int) + 2) = ((4 * i + 2 : Nat) : Int) := by rw [wrap_i64 (by omega) (by omega)]; omega
   have h43 : IntKind.i64.wrap (((4 * i : Nat) : Int) + 3) = ((4 * i + 3 : Nat) : Int) := by rw [wrap_i64 (by omega) (by omega)]; omega
   have c1 : decide ((i : Int) < 8) = true := by simp; omega
   have c2 : decide (0 <= (i : Int)) = true := by simp
   have c3 : decide ((i : Int) < zi 8) = true := by simp; omega
   have b0 : (decide (0 <= ((4 * i : Nat) : Int)) && decide (((4 * i : Nat) : Int) < zi 32) && true) = true := by simp; omega
   have b1 : (decide (0 <= ((4 * i + 1 : Nat) : Int)) && decide (((4 * i + 1 : Nat) : Int) < zi 32) && true) = true := by simp; omega
   have b2 : (decide (0 <= ((4 * i + 2 : Nat) : Int)) && decide (((4 * i + 2 : Nat) : Int) < zi 32) && true) = true := by simp; omega
   have b3 : (decide (0 <= ((4 * i + 3 : Nat) : Int)) && decide (((4 * i + 3 : Nat) : Int) < zi 32) && true) = true := by simp; omega
   have g1 : ((i : Int)).toNat = i := by omega
   have g2 : (((4 * i : Nat) : Int)).toNat = 4 * i := by omega
   have g3 : (((4 * i + 1 : Nat) : Int)).toNat = 4 * i + 1 := by omega
   have g4 : (((4 * i + 2 : Nat) : Int)).toNat = 4 * i + 2 := by omega
   have g5 : (((4 * i + 3 : Nat) : Int)).toNat = 4 * i + 3 := by omega
   simp only [VF, Gy, h1, h4, h41, h42, h43, b0, b1, b2, b3, g1, g2, g3, g4, g5, Xl, c1, c2, c3, Xd hs i (by omega), PV.isInt, PV.int, decide_true, Bool.and_true, cond_true, W8]
   have := Jr8 s hs f k0 a t ht d (i + 1) n (by omega) (by omega)
   rw [show 4 * (i + 1) = 4 * i + 3 + 1 from by omega, ← Qr (YN s) t (4 * i + 3) (by omega), ← Qr (YN s) t (4 * i + 2) (by omega), ← Qr (YN s) t (4 * i + 1) (by omega), ← Qr (YN s) t (4 * i) (by omega), Jza, Jzb, Jzc, Jzd] at this
   exact this
theorem Jr9 (P : List Int) (m : Nat) (hP : P.length = 64 * m) (hb : P.length <= 140737488356000) (f : Nat) (hf : 100 <= f) (x : List PV) (k0 : List PV -> List PV -> Option Res) : ∀ (d i n : Nat) (T : List Int), i + d = m -> d < n -> T.length = 64 ->
  VE f k0 n P.length ((64 * i : Nat) : Int) x (pu .u32 kks) (pu .u32 (Xb iv P i)) (pu .u8 P) (pu .u32 T) = k0 x (pu .u32 (Xb iv P m))
 | 0, i, n + 1, T, h, hn, hT => by
   obtain rfl : i = m := by omega
   simp only [VE, Gx]
   exact Jj (by simp [zi]; omega)
 | d + 1, i, n + 1, T, h, hn, hT => by
   have hfl := WD iv P rfl i
   simp only [VE, Gx]
   refine (Ja (by simp [zi]; omega)).trans ?_
   have e3 := fun kk => Jr4 P i (by omega) hb T hT f x (pu .u32 kks) (pu .u32 (Xb iv P i)) kk 16 0 f (by omega) (by omega)
   have e4 := fun kk => Jr5 ((P.drop (64 * i)).take 64) T hT f P.length ((64 * i : Nat) : Int) x (pu .u32 kks) (pu .u32 (Xb iv P i)) (pu .u8 P) kk 48 0 f (by omega) (by omega)
   have hW : (Qa ((P.drop (64 * i)).take 64)).length = 64 := J7 _ 48
   have e5 := fun kk => Jr6 (Qa ((P.drop (64 * i)).take 64)) (Xb iv P i) hW hfl f P.length ((64 * i : Nat) : Int) x (pu .u32 (Xb iv P i)) (pu .u8 P) kk 64 0 f (by omega) (by omega)
   have e6 := fun kk => Jr7 (G6 (Qa ((P.drop (64 * i)).take 64)) (Xb iv P i) 64) (Xb iv P i) (Xs _ _ hfl 64) hfl f P.length ((64 * i : Nat) : Int) x (pu .u32 kks) (pu .u8 P) (pu .u32 (Qa ((P.drop (64 * i)).take 64))) kk 8 0 f (by omega) (by omega)
   have h0 : Qu (word ((P.drop (64 * i)).take 64)) T 16 = Vb ((P.drop (64 * i)).take 64) T 0 := rfl
   rw [QO] at e6
   simp only [QO] at e3
   refine (e3 _).trans ?_
   rw [h0]
   refine (e4 _).trans ?_
   refine (e5 _).trans ?_
   refine (e6 _).trans ?_
   have h1 : IntKind.i64.wrap (((64 * i : Nat) : Int) + 64) = ((64 * (i + 1) : Nat) : Int) := by rw [wrap_i64 (by omega) (by omega)]; omega
   rw [h1]
   exact Jr9 P m hP hb f hf x k0 d (i + 1) n (Qa ((P.drop (64 * i)).take 64)) (by omega) (by omega) hW
theorem JuB (bs : List Int) (hb : bs.length <= 140737488355000) (nl fl : Bool) (k : Res -> Option Res) : g51 ((QA bs).length / 64 + 100) nl fl (pu .u8 bs) k = k ⟨.ar 37 (pu .u8 (JL bs)), [], []⟩ := by
 rw [Jbc]
 have hlen : (QA bs).length = bs.length + 1 + zs (bs.length + 1) + 8 := by simp [QA, JoL]; omega
 have hz : zs (bs.length + 1) < 64 := by unfold zs; omega
 have h64 : (QA bs).length = 64 * ((QA bs).length / 64) := JaE bs
 generalize hf : (QA bs).length / 64 + 100 = f
 refine (Ja (by simp [Jf]; omega)).trans ?_
 refine (Ja (by simp [Jf]; omega)).trans ?_
 have hL : List.take (0 + (pu .u8 bs).length) ([] ++ pu .u8 bs) ++ [PV.sc (Value.int IntKind.u8 128)] = pu .u8 (bs ++ [128]) := by
  rw [List.take_of_length_le (by simp)]; simp
 rw [hL]
 have e0 := fun kk x y w => Jr2 f nl fl (pu .u8 bs) x y w kk (zs (bs.length + 1)) f (bs ++ [128]) (by simp) (by omega) (by simp; omega)
 simp only [List.length_append, List.length_cons, List.length_nil, Nat.zero_add] at e0
 have hl1 : 0 + (pu .u8 bs).length + 1 = bs.length + 1 := by simp
 rw [hl1]
 refine (e0 _ _ _ _).trans ?_
 have e1 := fun kk x y w => Jr3 f (IntKind.u64.wrap (IntKind.u64.wrap (zi (pu .u8 bs).length) * 8)) x y w kk (bs ++ [128] ++ List.replicate (zs (bs.length + 1)) 0) (by simp; omega) 8 0 f (by omega) (by omega)
 have hl2 : (bs ++ [128] ++ List.replicate (zs (bs.length + 1)) 0).length = bs.length + 1 + zs (bs.length + 1) := by simp; omega
 rw [hl2] at e1
 simp only [List.range_zero, List.map_nil, List.append_nil, Nat.add_zero] at e1
 refine (e1 _ _ _ _).trans ?_
 have hPd : bs ++ [128] ++ List.replicate (zs (bs.length + 1)) 0 ++ (List.range 8).map (JpN (IntKind.u64.wrap (IntKind.u64.wrap (zi (pu .u8 bs).length) * 8))) = QA bs := by
  rw [JD]; rfl
 rw [hPd, ← hlen]
 have e2 := fun kk x => Jr9 (QA bs) ((QA bs).length / 64) h64 (by omega) f (by omega) x kk ((QA bs).length / 64) 0 f (List.replicate 64 0) (by omega) (by omega) (by simp)
 refine (e2 _ _).trans ?_
 have hfl := WD iv (QA bs) rfl ((QA bs).length / 64)
 have e7 := fun kk a => Jr8 (Xb iv (QA bs) ((QA bs).length / 64)) hfl f kk a (List.replicate 32 0) (by simp) 8 0 f (by omega) (by omega)
 simp only [Nat.mul_zero, QO] at e7
 exact e7 _ _
def Jib : List PV -> List Ent -> (Res -> Option Res) -> Option Res
 | [.ro 5 nl fl b], [], k => bif Jl .u8 b && decide (b.length <= 140737488355000) then k ⟨.ar 37 (pu .u8 (JL (Ju b))), [], []⟩ else none
 | _, _, _ => none
def JpP : Sig := { own := [], run := Jib }
theorem Jmt : Jh tau Try.prog 51 JpP := Jek Jr Yp Js Jy8 Jy9 (fun n => JpE (Jca n) (Jcb n) (Jcc n) (Jcd n)) [] 0 [] Jib (fun n => JCM n) fun xs es k res hr => by
 unfold Jib at hr
 split at hr
 · rename_i nl fl l
   obtain ⟨hc, hr⟩ := JI hr
   simp only [Bool.and_eq_true, decide_eq_true_eq] at hc
   refine ⟨rfl, (QA (Ju l)).length / 64 + 100, 0, (e51 _ _ _ _ _).trans ?_⟩
   have he := Ql hc.1
   have := JuB (Ju l) (by simpa using hc.2) nl fl k
   rw [← he] at this
   rw [this]; exact hr
 · cases hr
def N31 : Nat := 53
def F31 : Fns := JG 51 JpP (F0)
theorem Jmu : Jy tau Try.prog F31 := (JE).add Jmt JuA
def JdA : Code := Qj (Try.f31.body.get!) [1, 1, 1, 1, 0, 1, 0, 0]
def Yy : Nm := [(1, .any), (4, .any), (5, .any), (7, .any), (8, .any), (9, .any)]
def ZC : Nm := [(1, .any), (4, .any), (7, .any), (8, .any)]
def Jgl : An := (.seq (.seq .leaf (.cond .leaf .leaf)) (.seq (.block none .leaf) .leaf))
def JpQ (r0 : QC) : An := (.seq .leaf (.seq .leaf (.seq (.seq .leaf (.cond (.seq .leaf .leaf) .leaf)) (.seq .leaf (.seq (.seq .leaf (.block none (.sum Yy N31 r0))) (.seq .leaf (.seq .leaf .leaf)))))))
def Gz (f : Nat) (rc : Bool -> Bool -> List PV -> Int -> List PV -> List PV -> List PV -> List PV -> Option Res) (k0 : Bool -> Bool -> List PV -> List PV -> List PV -> List PV -> Option Res) (v0 v1 : Bool) (v2 : List PV) (v3 : Int) (v4 v5 v6 v7 : List PV) : Option Res := bif decide (v3 < 64) then bif decide (0 <= v3) && decide (v3 < zi 64) && true then bif PV.isInt IntKind.u8 (Jm (v5.getD (0 + v3.toNat) PV.top) []) && true then bif decide (0 <= v3) && decide (v3 < zi 64) && true then bif PV.isInt IntKind.u8 (Jm (v5.getD (0 + v3.toNat) PV.top) []) && true then bif decide (0 <= v3) && decide (v3 < zi 64) && true then bif decide (0 <= v3) && decide (v3 < zi 64) && true then rc v0 v1 v2 (IntKind.i64.wrap (v3 + 1)) v4 v5 (v6.set (0 + v3.toNat) (.sc (.int .u8 (JF BinOp.xor IntKind.u8 (Jm (v5.getD (0 + v3.toNat) PV.top) []).int 54)))) (v7.set (0 + v3.toNat) (.sc (.int .u8 (JF BinOp.xor IntKind.u8 (Jm (v5.getD (0 + v3.toNat) PV.top) []).int 92)))) else none else none else none else none else none else none else k0 v0 v1 v2 v4 v6 v7
def Xe (f : Nat) (k0 : Bool -> Bool -> List PV -> List PV -> List PV -> List PV -> Option Res) : Nat -> Bool -> Bool -> List PV -> Int -> List PV -> List PV -> List PV -> List PV -> Option Res
 | 0, _, _, _, _, _, _, _, _ => none
 | n + 1, v0, v1, v2, v3, v4, v5, v6, v7 => Gz f (Xe f k0 n) k0 v0 v1 v2 v3 v4 v5 v6 v7
theorem JpR (f : Nat) (k : Kont) (n : Nat) (v0 v1 : Bool) (v2 : List PV) (v3 : Int) (v4 v5 v6 v7 : List PV) : Jp tau 0 Yy (fun s k => ev tau F31 0 0 JdA (Jgl ) s k) (n + 1) (Jc Yy N31 [.ro 5 v0 v1 v2, .ptr 864 [], .ow 5 865 [] 0 64 (some 64), .ow 5 866 [] 0 64 (some 64), .ow 5 867 [] 0 64 (some 64), .sc (.int .i64 v3)] [(864, .box false 37 (PV.ar 37 v4)), (865, .vec false 5 false v5), (866, .vec false 5 false v6), (867, .vec false 5 false v7)]) (Jq tau 0 ZC k) = Gz f (fun v0 v1 v2 v3 v4 v5 v6 v7 => Jp tau 0 Yy (fun s k => ev tau F31 0 0 JdA (Jgl ) s k) n (Jc Yy N31 [.ro 5 v0 v1 v2, .ptr 864 [], .ow 5 865 [] 0 64 (some 64), .ow 5 866 [] 0 64 (some 64), .ow 5 867 [] 0 64 (some 64), .sc (.int .i64 v3)] [(864, .box false 37 (PV.ar 37 v4)), (865, .vec false 5 false v5), (866, .vec false 5 false v6), (867, .vec false 5 false v7)]) (Jq tau 0 ZC k)) (fun x0 x1 x2 x3 x4 x5 => k (Ex.exit 0) (Jc ZC N31 [.ro 5 x0 x1 x2, .ptr 864 [], .ow 5 865 [] 0 64 (some 64), .ow 5 866 [] 0 64 (some 64)] [(864, .box false 37 (PV.ar 37 x3)), (865, .vec false 5 false x4), (866, .vec false 5 false x5)])) v0 v1 v2 v3 v4 v5 v6 v7 := by kernel_rfl
theorem JjO (f : Nat) (k : Kont) : ∀ (n : Nat) (v0 v1 : Bool) (v2 : List PV) (v3 : Int) (v4 v5 v6 v7 : List PV), Jp tau 0 Yy (fun s k => ev tau F31 0 0 JdA (Jgl ) s k) n (Jc Yy N31 [.ro 5 v0 v1 v2, .ptr 864 [], .ow 5 865 [] 0 64 (some 64), .ow 5 866 [] 0 64 (some 64), .ow 5 867 [] 0 64 (some 64), .sc (.int .i64 v3)] [(864, .box false 37 (PV.ar 37 v4)), (865, .vec false 5 false v5), (866, .vec false 5 false v6), (867, .vec false 5 false v7)]) (Jq tau 0 ZC k) = Xe f (fun x0 x1 x2 x3 x4 x5 => k (Ex.exit 0) (Jc ZC N31 [.ro 5 x0 x1 x2, .ptr 864 [], .ow 5 865 [] 0 64 (some 64), .ow 5 866 [] 0 64 (some 64)] [(864, .box false 37 (PV.ar 37 x3)), (865, .vec false 5 false x4), (866, .vec false 5 false x5)])) n v0 v1 v2 v3 v4 v5 v6 v7 | 0, _, _, _, _, _, _, _, _ => rfl | n + 1, v0, v1, v2, v3, v4, v5, v6, v7 => (JpR f k n v0 v1 v2 v3 v4 v5 v6 v7).trans (congrArg (fun r => Gz f r (fun x0 x1 x2 x3 x4 x5 => k (Ex.exit 0) (Jc ZC N31 [.ro 5 x0 x1 x2, .ptr 864 [], .ow 5 865 [] 0 64 (some 64), .ow 5 866 [] 0 64 (some 64)] [(864, .box false 37 (PV.ar 37 x3)), (865, .vec false 5 false x4), (866, .vec false 5 false x5)])) v0 v1 v2 v3 v4 v5 v6 v7) (by funext v0 v1 v2 v3 v4 v5 v6 v7; exact JjO f k n v0 v1 v2 v3 v4 v5 v6 v7))
def Jce (f : Nat) : List PV -> List (Nat × Ent) -> Kont -> Option Res
 | [.ro 5 v0 v1 v2, .ptr 864 [], .ow 5 865 [] 0 64 (some 64), .ow 5 866 [] 0 64 (some 64), .ow 5 867 [] 0 64 (some 64),
 PV.sc
  (Value.int IntKind.i64
   v3)], [(864, .box false 37 (PV.ar 37 v4)), (865, .vec false 5 false v5), (866, .vec false 5 false v6),
 (867,
  Ent.vec false 5 false
   v7)], k => Xe f (fun x0 x1 x2 x3 x4 x5 => k (Ex.exit
 0) (Jc ZC N31 [.ro 5 x0 x1 x2, .ptr 864 [], .ow 5 865 [] 0 64 (some 64),
 PV.ow 5 866 [] 0 64 (some 64)] [(864, .box false 37 (PV.ar 37 x3)), (865, .vec false 5 false x4), (866, .vec false 5 false x5)])) f v0 v1 v2 v3 v4 v5 v6 v7
 | _, _, _ => none
theorem JuC (f : Nat) : Je JdA Jgl = [] := by kernel_rfl
theorem JuD (f : Nat) : (Item.l JdA Yy N31 (Jce f)).Ok tau Try.prog 0 := JJ Jr Jmu Js (x := Jgl) (nm2 := ZC) (Jk _ _ (by rw [JuC f]; intro q hq; cases hq)) fun vs hp k res hr => by
 unfold Jce at hr
 split at hr
 · exact ⟨f, 0, (JjO f _ f _ _ _ _ _ _ _ _ ).trans hr⟩
 · cases hr
def g31 (f : Nat) (y0 y1 : Bool) (key : List PV) (y2 y3 : Bool) (text : List PV) (k : Res -> Option Res) : Option Res := bif decide (zi key.length > 64) then bif Jl IntKind.u8 key && decide (key.length <= 140737488355000) then Xe f (fun x0_0 x1_0 x2_0 x3_0 QI x5_0 => bif Jf (64 + x2_0.length) 1 && true then bif Jl IntKind.u8 (List.take (64 + x2_0.length) (List.take 64 QI ++ x2_0)) && decide ((List.take (64 + x2_0.length) (List.take 64 QI ++ x2_0)).length <= 140737488355000) then bif Jf (64 + (List.take 32 (pu IntKind.u8 (JL (Ju (List.take (64 + x2_0.length) (List.take 64 QI ++ x2_0)))))).length) 1 && true then bif Jl IntKind.u8 (List.take (64 + (List.take 32 (pu IntKind.u8 (JL (Ju (List.take (64 + x2_0.length) (List.take 64 QI ++ x2_0)))))).length) (List.take 64 x5_0 ++ List.take 32 (pu IntKind.u8 (JL (Ju (List.take (64 + x2_0.length) (List.take 64 QI ++ x2_0))))))) && decide ((List.take (64 + (List.take 32 (pu IntKind.u8 (JL (Ju (List.take (64 + x2_0.length) (List.take 64 QI ++ x2_0)))))).length) (List.take 64 x5_0 ++ List.take 32 (pu IntKind.u8 (JL (Ju (List.take (64 + x2_0.length) (List.take 64 QI ++ x2_0))))))).length <= 140737488355000) then k (Res.mk (.ar 37 (pu IntKind.u8 (JL (Ju (List.take (64 + (List.take 32 (pu IntKind.u8 (JL (Ju (List.take (64 + x2_0.length) (List.take 64 QI ++ x2_0)))))).length) (List.take 64 x5_0 ++ List.take 32 (pu IntKind.u8 (JL (Ju (List.take (64 + x2_0.length) (List.take 64 QI ++ x2_0))))))))))) [] []) else none else none else none else none) f y2 y3 text (0) ([.sc (.int .u8 0), .sc (.int .u8 0), .sc (.int .u8 0), .sc (.int .u8 0), .sc (.int .u8 0), .sc (.int .u8 0), .sc (.int .u8 0), .sc (.int .u8 0), .sc (.int .u8 0), .sc (.int .u8 0), .sc (.int .u8 0), .sc (.int .u8 0), .sc (.int .u8 0), .sc (.int .u8 0), .sc (.int .u8 0), .sc (.int .u8 0), .sc (.int .u8 0), .sc (.int .u8 0), .sc (.int .u8 0), .sc (.int .u8 0), .sc (.int .u8 0), .sc (.int .u8 0), .sc (.int .u8 0), .sc (.int .u8 0), .sc (.int .u8 0), .sc (.int .u8 0), .sc (.int .u8 0), .sc (.int .u8 0), .sc (.int .u8 0), .sc (.int .u8 0), .sc (.int .u8 0), .sc (.int .u8 0)]) (List.take 64 (List.take 32 (pu IntKind.u8 (JL (Ju key)))) ++ List.drop (0 + min (List.take 32 (pu IntKind.u8 (JL (Ju key)))).length 64) [.sc (.int .u8 0), .sc (.int .u8 0), .sc (.int .u8 0), .sc (.int .u8 0), .sc (.int .u8 0), .sc (.int .u8 0), .sc (.int .u8 0), .sc (.int .u8 0), .sc (.int .u8 0), .sc (.int .u8 0), .sc (.int .u8 0), .sc (.int .u8 0), .sc (.int .u8 0), .sc (.int .u8 0), .sc (.int .u8 0), .sc (.int .u8 0), .sc (.int .u8 0), .sc (.int .u8 0), .sc (.int .u8 0), .sc (.int .u8 0), .sc (.int .u8 0), .sc (.int .u8 0), .sc (.int .u8 0), .sc (.int .u8 0), .sc (.int .u8 0), .sc (.int .u8 0), .sc (.int .u8 0), .sc (.int .u8 0), .sc (.int .u8 0), .sc (.int .u8 0), .sc (.int .u8 0), .sc (.int .u8 0), .sc (.int .u8 0), .sc (.int .u8 0), .sc (.int .u8 0), .sc (.int .u8 0), .sc (.int .u8 0), .sc (.int .u8 0), .sc (.int .u8 0), .sc (.int .u8 0), .sc (.int .u8 0), .sc (.int .u8 0), .sc (.int .u8 0), .sc (.int .u8 0), .sc (.int .u8 0), .sc (.int .u8 0), .sc (.int .u8 0), .sc (.int .u8 0), .sc (.int .u8 0), .sc (.int .u8 0), .sc (.int .u8 0), .sc (.int .u8 0), .sc (.int .u8 0), .sc (.int .u8 0), .sc (.int .u8 0), .sc (.int .u8 0), .sc (.int .u8 0), .sc (.int .u8 0), .sc (.int .u8 0), .sc (.int .u8 0), .sc (.int .u8 0), .sc (.int .u8 0), .sc (.int .u8 0), .sc (.int .u8 0)]) ([.sc (.int .u8 0), .sc (.int .u8 0), .sc (.int .u8 0), .sc (.int .u8 0), .sc (.int .u8 0), .sc (.int .u8 0), .sc (.int .u8 0), .sc (.int .u8 0), .sc (.int .u8 0), .sc (.int .u8 0), .sc (.int .u8 0), .sc (.int .u8 0), .sc (.int .u8 0), .sc (.int .u8 0), .sc (.int .u8 0), .sc (.int .u8 0), .sc (.int .u8 0), .sc (.int .u8 0), .sc (.int .u8 0), .sc (.int .u8 0), .sc (.int .u8 0), .sc (.int .u8 0), .sc (.int .u8 0), .sc (.int .u8 0), .sc (.int .u8 0), .sc (.int .u8 0), .sc (.int .u8 0), .sc (.int .u8 0), .sc (.int .u8 0), .sc (.int .u8 0), .sc (.int .u8 0), .sc (.int .u8 0), .sc (.int .u8 0), .sc (.int .u8 0), .sc (.int .u8 0), .sc (.int .u8 0), .sc (.int .u8 0), .sc (.int .u8 0), .sc (.int .u8 0), .sc (.int .u8 0), .sc (.int .u8 0), .sc (.int .u8 0), .sc (.int .u8 0), .sc (.int .u8 0), .sc (.int .u8 0), .sc (.int .u8 0), .sc (.int .u8 0), .sc (.int .u8 0), .sc (.int .u8 0), .sc (.int .u8 0), .sc (.int .u8 0), .sc (.int .u8 0), .sc (.int .u8 0), .sc (.int .u8 0), .sc (.int .u8 0), .sc (.int .u8 0), .sc (.int .u8 0), .sc (.int .u8 0), .sc (.int .u8 0), .sc (.int .u8 0), .sc (.int .u8 0), .sc (.int .u8 0), .sc (.int .u8 0), .sc (.int .u8 0)]) ([.sc (.int .u8 0), .sc (.int .u8 0), .sc (.int .u8 0), .sc (.int .u8 0), .sc (.int .u8 0), .sc (.int .u8 0), .sc (.int .u8 0), .sc (.int .u8 0), .sc (.int .u8 0), .sc (.int .u8 0), .sc (.int .u8 0), .sc (.int .u8 0), .sc (.int .u8 0), .sc (.int .u8 0), .sc (.int .u8 0), .sc (.int .u8 0), .sc (.int .u8 0), .sc (.int .u8 0), .sc (.int .u8 0), .sc (.int .u8 0), .sc (.int .u8 0), .sc (.int .u8 0), .sc (.int .u8 0), .sc (.int .u8 0), .sc (.int .u8 0), .sc (.int .u8 0), .sc (.int .u8 0), .sc (.int .u8 0), .sc (.int .u8 0), .sc (.int .u8 0), .sc (.int .u8 0), .sc (.int .u8 0), .sc (.int .u8 0), .sc (.int .u8 0), .sc (.int .u8 0), .sc (.int .u8 0), .sc (.int .u8 0), .sc (.int .u8 0), .sc (.int .u8 0), .sc (.int .u8 0), .sc (.int .u8 0), .sc (.int .u8 0), .sc (.int .u8 0), .sc (.int .u8 0), .sc (.int .u8 0), .sc (.int .u8 0), .sc (.int .u8 0), .sc (.int .u8 0), .sc (.int .u8 0), .sc (.int .u8 0), .sc (.int .u8 0), .sc (.int .u8 0), .sc (.int .u8 0), .sc (.int .u8 0), .sc (.int .u8 0), .sc (.int .u8 0), .sc (.int .u8 0), .sc (.int .u8 0), .sc (.int .u8 0), .sc (.int .u8 0), .sc (.int .u8 0), .sc (.int .u8 0), .sc (.int .u8 0), .sc (.int .u8 0)]) else none else Xe f (fun x0_1 x1_1 x2_1 x3_1 Wf x5_1 => bif Jf (64 + x2_1.length) 1 && true then bif Jl IntKind.u8 (List.take (64 + x2_1.length) (List.take 64 Wf ++ x2_1)) && decide ((List.take (64 + x2_1.length) (List.take 64 Wf ++ x2_1)).length <= 140737488355000) then bif Jf (64 + (List.take 32 (pu IntKind.u8 (JL (Ju (List.take (64 + x2_1.length) (List.take 64 Wf ++ x2_1)))))).length) 1 && true then bif Jl IntKind.u8 (List.take (64 + (List.take 32 (pu IntKind.u8 (JL (Ju (List.take (64 + x2_1.length) (List.take 64 Wf ++ x2_1)))))).length) (List.take 64 x5_1 ++ List.take 32 (pu IntKind.u8 (JL (Ju (List.take (64 + x2_1.length) (List.take 64 Wf ++ x2_1))))))) && decide ((List.take (64 + (List.take 32 (pu IntKind.u8 (JL (Ju (List.take (64 + x2_1.length) (List.take 64 Wf ++ x2_1)))))).length) (List.take 64 x5_1 ++ List.take 32 (pu IntKind.u8 (JL (Ju (List.take (64 + x2_1.length) (List.take 64 Wf ++ x2_1))))))).length <= 140737488355000) then k (Res.mk (.ar 37 (pu IntKind.u8 (JL (Ju (List.take (64 + (List.take 32 (pu IntKind.u8 (JL (Ju (List.take (64 + x2_1.length) (List.take 64 Wf ++ x2_1)))))).length) (List.take 64 x5_1 ++ List.take 32 (pu IntKind.u8 (JL (Ju (List.take (64 + x2_1.length) (List.take 64 Wf ++ x2_1))))))))))) [] []) else none else none else none else none) f y2 y3 text (0) ([.sc (.int .u8 0), .sc (.int .u8 0), .sc (.int .u8 0), .sc (.int .u8 0), .sc (.int .u8 0), .sc (.int .u8 0), .sc (.int .u8 0), .sc (.int .u8 0), .sc (.int .u8 0), .sc (.int .u8 0), .sc (.int .u8 0), .sc (.int .u8 0), .sc (.int .u8 0), .sc (.int .u8 0), .sc (.int .u8 0), .sc (.int .u8 0), .sc (.int .u8 0), .sc (.int .u8 0), .sc (.int .u8 0), .sc (.int .u8 0), .sc (.int .u8 0), .sc (.int .u8 0), .sc (.int .u8 0), .sc (.int .u8 0), .sc (.int .u8 0), .sc (.int .u8 0), .sc (.int .u8 0), .sc (.int .u8 0), .sc (.int .u8 0), .sc (.int .u8 0), .sc (.int .u8 0), .sc (.int .u8 0)]) (List.take 64 key ++ List.drop (0 + min key.length 64) [.sc (.int .u8 0), .sc (.int .u8 0), .sc (.int .u8 0), .sc (.int .u8 0), .sc (.int .u8 0), .sc (.int .u8 0), .sc (.int .u8 0), .sc (.int .u8 0), .sc (.int .u8 0), .sc (.int .u8 0), .sc (.int .u8 0), .sc (.int .u8 0), .sc (.int .u8 0), .sc (.int .u8 0), .sc (.int .u8 0), .sc (.int .u8 0), .sc (.int .u8 0), .sc (.int .u8 0), .sc (.int .u8 0), .sc (.int .u8 0), .sc (.int .u8 0), .sc (.int .u8 0), .sc (.int .u8 0), .sc (.int .u8 0), .sc (.int .u8 0), .sc (.int .u8 0), .sc (.int .u8 0), .sc (.int .u8 0), .sc (.int .u8 0), .sc (.int .u8 0), .sc (.int .u8 0), .sc (.int .u8 0), .sc (.int .u8 0), .sc (.int .u8 0), .sc (.int .u8 0), .sc (.int .u8 0), .sc (.int .u8 0), .sc (.int .u8 0), .sc (.int .u8 0), .sc (.int .u8 0), .sc (.int .u8 0), .sc (.int .u8 0), .sc (.int .u8 0), .sc (.int .u8 0), .sc (.int .u8 0), .sc (.int .u8 0), .sc (.int .u8 0), .sc (.int .u8 0), .sc (.int .u8 0), .sc (.int .u8 0), .sc (.int .u8 0), .sc (.int .u8 0), .sc (.int .u8 0), .sc (.int .u8 0), .sc (.int .u8 0), .sc (.int .u8 0), .sc (.int .u8 0), .sc (.int .u8 0), .sc (.int .u8 0), .sc (.int .u8 0), .sc (.int .u8 0), .sc (.int .u8 0), .sc (.int .u8 0), .sc (.int .u8 0)]) ([.sc (.int .u8 0), .sc (.int .u8 0), .sc (.int .u8 0), .sc (.int .u8 0), .sc (.int .u8 0), .sc (.int .u8 0), .sc (.int .u8 0), .sc (.int .u8 0), .sc (.int .u8 0), .sc (.int .u8 0), .sc (.int .u8 0), .sc (.int .u8 0), .sc (.int .u8 0), .sc (.int .u8 0), .sc (.int .u8 0), .sc (.int .u8 0), .sc (.int .u8 0), .sc (.int .u8 0), .sc (.int .u8 0), .sc (.int .u8 0), .sc (.int .u8 0), .sc (.int .u8 0), .sc (.int .u8 0), .sc (.int .u8 0), .sc (.int .u8 0), .sc (.int .u8 0), .sc (.int .u8 0), .sc (.int .u8 0), .sc (.int .u8 0), .sc (.int .u8 0), .sc (.int .u8 0), .sc (.int .u8 0), .sc (.int .u8 0), .sc (.int .u8 0), .sc (.int .u8 0), .sc (.int .u8 0), .sc (.int .u8 0), .sc (.int .u8 0), .sc (.int .u8 0), .sc (.int .u8 0), .sc (.int .u8 0), .sc (.int .u8 0), .sc (.int .u8 0), .sc (.int .u8 0), .sc (.int .u8 0), .sc (.int .u8 0), .sc (.int .u8 0), .sc (.int .u8 0), .sc (.int .u8 0), .sc (.int .u8 0), .sc (.int .u8 0), .sc (.int .u8 0), .sc (.int .u8 0), .sc (.int .u8 0), .sc (.int .u8 0), .sc (.int .u8 0), .sc (.int .u8 0), .sc (.int .u8 0), .sc (.int .u8 0), .sc (.int .u8 0), .sc (.int .u8 0), .sc (.int .u8 0), .sc (.int .u8 0), .sc (.int .u8 0)]) ([.sc (.int .u8 0), .sc (.int .u8 0), .sc (.int .u8 0), .sc (.int .u8 0), .sc (.int .u8 0), .sc (.int .u8 0), .sc (.int .u8 0), .sc (.int .u8 0), .sc (.int .u8 0), .sc (.int .u8 0), .sc (.int .u8 0), .sc (.int .u8 0), .sc (.int .u8 0), .sc (.int .u8 0), .sc (.int .u8 0), .sc (.int .u8 0), .sc (.int .u8 0), .sc (.int .u8 0), .sc (.int .u8 0), .sc (.int .u8 0), .sc (.int .u8 0), .sc (.int .u8 0), .sc (.int .u8 0), .sc (.int .u8 0), .sc (.int .u8 0), .sc (.int .u8 0), .sc (.int .u8 0), .sc (.int .u8 0), .sc (.int .u8 0), .sc (.int .u8 0), .sc (.int .u8 0), .sc (.int .u8 0), .sc (.int .u8 0), .sc (.int .u8 0), .sc (.int .u8 0), .sc (.int .u8 0), .sc (.int .u8 0), .sc (.int .u8 0), .sc (.int .u8 0), .sc (.int .u8 0), .sc (.int .u8 0), .sc (.int .u8 0), .sc (.int .u8 0), .sc (.int .u8 0), .sc (.int .u8 0), .sc (.int .u8 0), .sc (.int .u8 0), .sc (.int .u8 0), .sc (.int .u8 0), .sc (.int .u8 0), .sc (.int .u8 0), .sc (.int .u8 0), .sc (.int .u8 0), .sc (.int .u8 0), .sc (.int .u8 0), .sc (.int .u8 0), .sc (.int .u8 0), .sc (.int .u8 0), .sc (.int .u8 0), .sc (.int .u8 0), .sc (.int .u8 0), .sc (.int .u8 0), .sc (.int .u8 0), .sc (.int .u8 0)])
theorem e31 (f : Nat) (y0 y1 : Bool) (key : List PV) (y2 y3 : Bool) (text : List PV) (k : Res -> Option Res) : JM tau F31 Try.f31 (Try.f31.body.get!) (JpQ (Jce f)) [.ro] 0 [.ro 5 y0 y1 key, .ro 5 y2 y3 text] [] k = g31 f y0 y1 key y2 y3 text k := by kernel_rfl
theorem JCN (f : Nat) : Je (Try.f31.body.get!) (JpQ (Jce f)) = [.l JdA Yy N31 (Jce f)] := by kernel_rfl
theorem JCO (f : Nat) : ∀ q ∈ Je (Try.f31.body.get!) (JpQ (Jce f)), q.Ok tau Try.prog 0 := by
 rw [JCN f]; simp only [List.forall_mem_cons, List.not_mem_nil, false_implies, implies_true, and_true]; exact JuD f
theorem Jze : Try.prog.funcs[31]? = some Try.f31 := by kernel_rfl
theorem Jzf : Try.f31.body = some (Try.f31.body.get!) := by kernel_rfl
theorem Jzg : Enters Try.prog 31 := enters_of Jze (by kernel_rfl) Jzf

-- FN slices.overlaps[[]byte]
-- EXT slices.overlaps[[]byte]



-- FN slices.Insert[[][]byte,[]byte]


-- FN (hmac.block).turned
def Yz (l : List Int) (x : Int) : List Int := l.map fun b => JF .xor .u8 b x
@[simp] theorem Jsa (l : List Int) (x : Int) : (Yz l x).length = l.length := by simp [Yz]
theorem Jmv (K : List Int) (hK : K.length = 64) (x : Int) : (List.range 64).map (fun j => JF .xor .u8 x (K.getD j 0)) = Yz K x := by
 apply List.ext_getElem
 · simp [hK]
 · intro i h1 h2
   have h1' : i < K.length := by simpa using h2
   simp only [List.getElem_map, List.getElem_range, Yz]
   rw [Va, List.getD_eq_getElem?_getD, List.getElem?_eq_getElem h1']; rfl

-- FN hmac.Mac
theorem Jgm (a b : List PV) : Ju (a ++ b) = Ju a ++ Ju b := by simp [Ju]
@[simp] theorem Jzh : Ju [] = [] := rfl
/-- a key, with noughts behind it -/
def Jmw (s : List Int) : List Int := s ++ List.replicate (64 - s.length) 0
def Jgn (key : List Int) : List Int := if key.length > 64 then Jmw (JL key) else Jmw key
def Jmx (key text : List Int) : List Int := JL (Yz (Jgn key) 92 ++ JL (Yz (Jgn key) 54 ++ text))
def JcE : List Int -> List Int -> List Int := hid Jmx
theorem JjP (key text : List Int) : JcE key text = Jmx key text := by rw [JcE, hid_eq]
theorem Jgo (key text : List Int) : (JcE key text).length = 32 := by rw [JjP]; exact Qg _
theorem JaN (key : List Int) : (Jgn key).length = 64 := by
 unfold Jgn Jmw
 split
 · rw [List.length_append, Qg, List.length_replicate]
 · rw [List.length_append, List.length_replicate]; omega
def kbG (src : List PV) : List PV := [] ++ List.take 64 src ++ List.drop (0 + min src.length 64) (pu .u8 (List.replicate 64 0))
theorem Jmy (s : List Int) (h : s.length <= 64) : kbG (pu .u8 s) = pu .u8 (Jmw s) := by
 unfold kbG Jmw
 rw [JD, show 0 + min s.length 64 = s.length from by omega, JiX, List.drop_replicate, List.take_of_length_le (by simpa using h), List.nil_append, ← JQ]
-- FN ref3.Mac
theorem JdB (K : List Int) (hK : K.length = 64) (x : Int) : (List.range 64).map (fun j => JF .xor .u8 (K.getD j 0) x) = Yz K x := by
 rw [← Jmv K hK x]
 apply List.map_congr_left
 intro j _
 exact Va _ _ _
theorem Jsb (K : List Int) (hK : K.length = 64) (f : Nat) (k0 : Bool -> Bool -> List PV -> List PV -> List PV -> List PV -> Option Res) (tz tf : Bool) (text h : List PV) : ∀ (d i n : Nat), i + d = 64 -> d < n ->
  Xe f k0 n tz tf text (i : Int) h (pu .u8 K) (pu .u8 (Qu (fun j => JF .xor .u8 (K.getD j 0) 54) (List.replicate 64 0) i)) (pu .u8 (Qu (fun j => JF .xor .u8 (K.getD j 0) 92) (List.replicate 64 0) i)) = k0 tz tf text h (pu .u8 (Yz K 54)) (pu .u8 (Yz K 92))
 | 0, i, n + 1, hh, hn => by
   obtain rfl : i = 64 := by omega
   simp only [Xe, Gz]
   refine (Jj (by decide)).trans ?_
   have h1 := Wc (fun j => JF .xor .u8 (K.getD j 0) 54) (List.replicate 64 0)
   have h2 := Wc (fun j => JF .xor .u8 (K.getD j 0) 92) (List.replicate 64 0)
   rw [List.length_replicate] at h1 h2
   rw [h1, h2, JdB K hK, JdB K hK]
 | d + 1, i, n + 1, hh, hn => by
   have g1 : ((i : Int)).toNat = i := by omega
   have h1 : IntKind.i64.wrap ((i : Int) + 1) = ((i + 1 : Nat) : Int) := by rw [wrap_i64 (by omega) (by omega)]; omega
   have c0 : (decide (0 <= (i : Int)) && decide ((i : Int) < zi 64) && true) = true := by simp; omega
   simp only [Xe, Gz, g1, h1, Nat.zero_add, Jm]
   rw [J4 (by omega), Qt (by omega), W8, W8]
   refine (Ja (by simp; omega)).trans ((Ja c0).trans ((Ja rfl).trans ((Ja c0).trans ((Ja rfl).trans ((Ja c0).trans ((Ja c0).trans ?_))))))
   have := Jsb K hK f k0 tz tf text h d (i + 1) n (by omega) (by omega)
   rw [← Qr _ _ i (by simp; omega), ← Qr _ _ i (by simp; omega)] at this
   exact this
def ZY (a b text : List PV) (k : Res -> Option Res) : Option Res :=
 bif Jf (64 + text.length) 1 && true then
  bif Jl .u8 (List.take (64 + text.length) (List.take 64 a ++ text)) && decide ((List.take (64 + text.length) (List.take 64 a ++ text)).length <= 140737488355000) then
   bif Jf (64 + (List.take 32 (pu .u8 (JL (Ju (List.take (64 + text.length) (List.take 64 a ++ text)))))).length) 1 && true then
    bif Jl .u8 (List.take (64 + (List.take 32 (pu .u8 (JL (Ju (List.take (64 + text.length) (List.take 64 a ++ text)))))).length) (List.take 64 b ++ List.take 32 (pu .u8 (JL (Ju (List.take (64 + text.length) (List.take 64 a ++ text)))))))
      && decide ((List.take (64 + (List.take 32 (pu .u8 (JL (Ju (List.take (64 + text.length) (List.take 64 a ++ text)))))).length) (List.take 64 b ++ List.take 32 (pu .u8 (JL (Ju (List.take (64 + text.length) (List.take 64 a ++ text))))))).length <= 140737488355000) then
     k ⟨.ar 37 (pu .u8 (JL (Ju (List.take (64 + (List.take 32 (pu .u8 (JL (Ju (List.take (64 + text.length) (List.take 64 a ++ text)))))).length) (List.take 64 b ++ List.take 32 (pu .u8 (JL (Ju (List.take (64 + text.length) (List.take 64 a ++ text)))))))))), [], []⟩
    else none
   else none
  else none
 else none
theorem Jmz (f : Nat) (kz kf : Bool) (key : List PV) (tz tf : Bool) (text : List PV) (k : Res -> Option Res) : g31 f kz kf key tz tf text k =
 (bif decide (zi key.length > 64) then
  bif Jl .u8 key && decide (key.length <= 140737488355000) then
   Xe f (fun _ _ t _ a b => ZY a b t k) f tz tf text 0 (pu .u8 (List.replicate 32 0)) (kbG (List.take 32 (pu .u8 (JL (Ju key))))) (pu .u8 (List.replicate 64 0)) (pu .u8 (List.replicate 64 0))
  else none
 else Xe f (fun _ _ t _ a b => ZY a b t k) f tz tf text 0 (pu .u8 (List.replicate 32 0)) (kbG key) (pu .u8 (List.replicate 64 0)) (pu .u8 (List.replicate 64 0))) := by kernel_rfl
theorem Jic (K T : List Int) (hK : K.length = 64) (hT : T.length <= 1000000000) (k : Res -> Option Res) :
  ZY (pu .u8 (Yz K 54)) (pu .u8 (Yz K 92)) (pu .u8 T) k = k ⟨.ar 37 (pu .u8 (JL (Yz K 92 ++ JL (Yz K 54 ++ T)))), [], []⟩ := by
 have e1 : List.take (64 + (pu .u8 T).length) (List.take 64 (pu .u8 (Yz K 54)) ++ pu .u8 T) = pu .u8 (Yz K 54 ++ T) := by
  rw [List.take_of_length_le (i := 64) (by simp [hK]), List.take_of_length_le (by simp [hK]), ← JQ]
 have e2 : ∀ l : List Int, List.take 32 (pu .u8 (JL l)) = pu .u8 (JL l) := fun l => List.take_of_length_le (by simp [Qg])
 have e3 : ∀ l : List Int, List.take (64 + (pu .u8 (JL l)).length) (List.take 64 (pu .u8 (Yz K 92)) ++ pu .u8 (JL l)) = pu .u8 (Yz K 92 ++ JL l) := fun l => by
  rw [List.take_of_length_le (i := 64) (by simp [hK]), List.take_of_length_le (by simp [hK]), ← JQ]
 unfold ZY
 rw [e1, e2, e3, Ja (by simp [Jf]; omega), Ja (by rw [JN, JD]; simp [hK]; omega), Ja (by simp [Jf, Qg]), Ja (by rw [JN, JD]; simp [hK, Qg])]
 simp only [Q0]
def Jid : List PV -> List Ent -> (Res -> Option Res) -> Option Res
 | [.ro 5 kz kf key, .ro 5 tz tf text], [], k =>
  bif (Jl .u8 key && decide (key.length <= 1000000000)) && (Jl .u8 text && decide (text.length <= 1000000000)) then
   k ⟨.ar 37 (pu .u8 (JcE (Ju key) (Ju text))), [], []⟩ else none
 | _, _, _ => none
def JuE : Sig := { own := [], run := Jid }
theorem JuF (kz kf : Bool) (key : List PV) (tz tf : Bool) (text : List PV) (k : Res -> Option Res) (a1 : Jl .u8 key = true) (a2 : key.length <= 1000000000) (h3 : Jl .u8 text = true) (h4 : text.length <= 1000000000) :
   g31 70 kz kf key tz tf text k = k ⟨.ar 37 (pu .u8 (JcE (Ju key) (Ju text))), [], []⟩ := by
 rw [Jmz, JjP, Jmx]
 have hi := Ql a1
 have ht := Ql h3
 have hL : ∀ K : List Int, K.length = 64 -> Xe 70 (fun _ _ t _ a b => ZY a b t k) 70 tz tf text 0 (pu .u8 (List.replicate 32 0)) (pu .u8 K) (pu .u8 (List.replicate 64 0)) (pu .u8 (List.replicate 64 0)) = k ⟨.ar 37 (pu .u8 (JL (Yz K 92 ++ JL (Yz K 54 ++ Ju text)))), [], []⟩ := by
   intro K hK
   have := Jsb K hK 70 (fun _ _ t _ a b => ZY a b t k) tz tf text (pu .u8 (List.replicate 32 0)) 64 0 70 (by omega) (by omega)
   rw [QO, QO] at this
   refine this.trans ?_
   have hm := Jic K (Ju text) hK (by simpa using h4) k
   rw [← ht] at hm
   exact hm
 by_cases hc : key.length > 64
 · rw [Ja (by simp [zi]; omega), Ja (by simp [a1]; omega), List.take_of_length_le (by simp [Qg]), Jmy _ (by rw [Qg]; omega),
    hL _ (by rw [← JaN (Ju key), Jgn, if_pos (by simpa using hc)]), Jgn, if_pos (by simpa using hc)]
 · have hl : (Ju key).length <= 64 := by simp; omega
   rw [Jj (by simp [zi]; omega), hi, Jmy _ hl, Q0, hL _ (by rw [← JaN (Ju key), Jgn, if_neg (by omega)]), Jgn, if_neg (by omega)]
theorem Jsc : Jh tau Try.prog 31 JuE := Jh.mk' fun xs es k res hl hr => by
 change Jid xs es k = some res at hr
 unfold Jid at hr
 split at hr
 · rename_i kz kf key tz tf text
   obtain ⟨hc, hr⟩ := JI hr
   simp only [Bool.and_eq_true, decide_eq_true_eq] at hc
   obtain ⟨⟨a1, a2⟩, h3, h4⟩ := hc
   exact Qk Jr Jmu Js Jze Jzf (JpQ (Jce 70)) [.ro] 0 0 (JCO 70) hl rfl ((e31 70 kz kf key tz tf text k).trans ((JuF kz kf key tz tf text k a1 a2 h3 h4).trans hr))
 · cases hr
def F55 : Fns := JG 99 Jx3 (JG 31 JuE (F0))
theorem JuG : Jy tau Try.prog F55 := ((JE).add Jsc Jzg).add Jx4 JCa
def JpS : An := (.seq .leaf (.seq .leaf (.seq .leaf .leaf)))
def g55 (f : Nat) (k0_z k0_f : Bool) (k0 : List PV) (k1_z k1_f : Bool) (k1 : List PV) (k2_z k2_f : Bool) (k2 : List PV) (y0 y1 d_Id y2 : Int) (y3 : List PV) (y4 : Int) (y5 y6 : Bool) (d_Op : List PV) (y7 y8 : Int) (k : Res -> Option Res) : Option Res := bif dOk (DV.mk y0 y1 d_Id y2 y3 y4 d_Op y7 y8) then bif decide (0 <= y0) && decide (y0 < zi 3) && true then bif PV.isRo 5 (Jm (PV.st 31 [.ro 5 k0_z k0_f k0, .ro 5 k1_z k1_f k1, .ro 5 k2_z k2_f k2]) [y0.toNat]) && true then bif Jl IntKind.u8 (Jm (PV.st 31 [.ro 5 k0_z k0_f k0, .ro 5 k1_z k1_f k1, .ro 5 k2_z k2_f k2]) [y0.toNat]).els && decide ((Jm (PV.st 31 [.ro 5 k0_z k0_f k0, .ro 5 k1_z k1_f k1, .ro 5 k2_z k2_f k2]) [y0.toNat]).els.length <= 1000000000) && (Jl IntKind.u8 (List.take (dlB (DV.mk y0 y1 d_Id y2 y3 y4 d_Op y7 y8)).length (pu IntKind.u8 (dlB (DV.mk y0 y1 d_Id y2 y3 y4 d_Op y7 y8)))) && decide ((List.take (dlB (DV.mk y0 y1 d_Id y2 y3 y4 d_Op y7 y8)).length (pu IntKind.u8 (dlB (DV.mk y0 y1 d_Id y2 y3 y4 d_Op y7 y8)))).length <= 1000000000)) then k (Res.mk (.st 47 [.ro 5 false false (List.take (dlB (DV.mk y0 y1 d_Id y2 y3 y4 d_Op y7 y8)).length (pu IntKind.u8 (dlB (DV.mk y0 y1 d_Id y2 y3 y4 d_Op y7 y8)))), .ar 37 (pu IntKind.u8 (JcE (Ju (Jm (PV.st 31 [.ro 5 k0_z k0_f k0, .ro 5 k1_z k1_f k1, .ro 5 k2_z k2_f k2]) [y0.toNat]).els) (Ju (List.take (dlB (DV.mk y0 y1 d_Id y2 y3 y4 d_Op y7 y8)).length (pu IntKind.u8 (dlB (DV.mk y0 y1 d_Id y2 y3 y4 d_Op y7 y8)))))))]) [] []) else none else none else none else none
theorem e55 (f : Nat) (k0_z k0_f : Bool) (k0 : List PV) (k1_z k1_f : Bool) (k1 : List PV) (k2_z k2_f : Bool) (k2 : List PV) (y0 y1 d_Id y2 : Int) (y3 : List PV) (y4 : Int) (y5 y6 : Bool) (d_Op : List PV) (y7 y8 : Int) (k : Res -> Option Res) : JM tau F55 Try.f55 (Try.f55.body.get!) JpS [.ro] 0 [.st 31 [.ro 5 k0_z k0_f k0, .ro 5 k1_z k1_f k1, .ro 5 k2_z k2_f k2], .st 53 [.st 42 [.sc (.int .i64 y0), .sc (.int .i64 y1)], .sc (.int .i64 d_Id), .sc (.int .i64 y2), .ar 37 y3, .sc (.int .i64 y4), .ro 113 y5 y6 d_Op, .st 42 [.sc (.int .i64 y7), .sc (.int .i64 y8)]]] [] k = g55 f k0_z k0_f k0 k1_z k1_f k1 k2_z k2_f k2 y0 y1 d_Id y2 y3 y4 y5 y6 d_Op y7 y8 k := by kernel_rfl
theorem JCP (f : Nat) : Je (Try.f55.body.get!) JpS = [] := by kernel_rfl
theorem JCQ (f : Nat) : ∀ q ∈ Je (Try.f55.body.get!) JpS, q.Ok tau Try.prog 0 := by
 rw [JCP f]; intro q hq; cases hq
theorem Jzi : Try.prog.funcs[55]? = some Try.f55 := by kernel_rfl
theorem Jzj : Try.f55.body = some (Try.f55.body.get!) := by kernel_rfl
theorem JCR : Enters Try.prog 55 := enters_of Jzi (by kernel_rfl) Jzj
def JmA : List PV -> List Ent -> (Res -> Option Res) -> Option Res
 | [.st 31 [.ro 5 k0_z k0_f k0, .ro 5 k1_z k1_f k1, .ro 5 k2_z k2_f k2], .st 53 [.st 42 [.sc (.int .i64 y0), .sc (.int .i64 y1)], .sc (.int .i64 d_Id), .sc (.int .i64 y2), .ar 37 y3, .sc (.int .i64 y4), .ro 113 y5 y6 d_Op, .st 42 [.sc (.int .i64 y7), .sc (.int .i64 y8)]]], [], k => g55 0 k0_z k0_f k0 k1_z k1_f k1 k2_z k2_f k2 y0 y1 d_Id y2 y3 y4 y5 y6 d_Op y7 y8 k
 | _, _, _ => none
def s55 : Sig := { own := [], run := JmA }
theorem JCS : Jh tau Try.prog 55 s55 := JW Jr JuG Js Jzi Jzj JpS [.ro] 0 [] JmA (JCQ 0) fun xs es k res hr => by
 unfold JmA at hr
 split at hr
 · exact ⟨rfl, 0, (e55 0 _ _ _ _ _ _ _ _ _ _ _ _ _ _ _ _ _ _ _ _  _).trans hr⟩
 · cases hr
def F16 : Fns := JG 52 JtU (JG 51 JpP (F0))
theorem JuH : Jy tau Try.prog F16 := ((JE).add Jmt JuA).add JrN Jx0
def JpT : An := (.seq .leaf (.seq .leaf .leaf))
def g16 (f : Nat) (prev : List PV) (y0 y1 : Bool) (y2 y3 : List PV) (e_At : Int) (y4 y5 : Bool) (e_Op y6 y7 : List PV) (k : Res -> Option Res) : Option Res := bif Jf (0 + (List.take 32 prev).length) 1 && true then bif eOk (EV.mk y2 y3 e_At e_Op) then bif Jf (0 + (List.take 32 prev).length + (List.take (Jt (EV.mk y2 y3 e_At e_Op)).length (pu IntKind.u8 (Jt (EV.mk y2 y3 e_At e_Op)))).length) 1 && true then bif Jl IntKind.u8 (List.take (0 + (List.take 32 prev).length + (List.take (Jt (EV.mk y2 y3 e_At e_Op)).length (pu IntKind.u8 (Jt (EV.mk y2 y3 e_At e_Op)))).length) (List.take (0 + (List.take 32 prev).length) (List.take 32 prev) ++ List.take (Jt (EV.mk y2 y3 e_At e_Op)).length (pu IntKind.u8 (Jt (EV.mk y2 y3 e_At e_Op))))) && decide ((List.take (0 + (List.take 32 prev).length + (List.take (Jt (EV.mk y2 y3 e_At e_Op)).length (pu IntKind.u8 (Jt (EV.mk y2 y3 e_At e_Op)))).length) (List.take (0 + (List.take 32 prev).length) (List.take 32 prev) ++ List.take (Jt (EV.mk y2 y3 e_At e_Op)).length (pu IntKind.u8 (Jt (EV.mk y2 y3 e_At e_Op))))).length <= 140737488355000) then k (Res.mk (.ar 37 (pu IntKind.u8 (JL (Ju (List.take (0 + (List.take 32 prev).length + (List.take (Jt (EV.mk y2 y3 e_At e_Op)).length (pu IntKind.u8 (Jt (EV.mk y2 y3 e_At e_Op)))).length) (List.take (0 + (List.take 32 prev).length) (List.take 32 prev) ++ List.take (Jt (EV.mk y2 y3 e_At e_Op)).length (pu IntKind.u8 (Jt (EV.mk y2 y3 e_At e_Op))))))))) [] []) else none else none else none else none
theorem e16 (f : Nat) (prev : List PV) (y0 y1 : Bool) (y2 y3 : List PV) (e_At : Int) (y4 y5 : Bool) (e_Op y6 y7 : List PV) (k : Res -> Option Res) : JM tau F16 Try.f16 (Try.f16.body.get!) JpT [.ro] 0 [.ar 37 prev, .st 51 [.st 47 [.ro 5 y0 y1 y2, .ar 37 y3], .sc (.int .i64 e_At), .ro 113 y4 y5 e_Op, .ar 37 y6, .ar 37 y7]] [] k = g16 f prev y0 y1 y2 y3 e_At y4 y5 e_Op y6 y7 k := by kernel_rfl
theorem JCT (f : Nat) : Je (Try.f16.body.get!) JpT = [] := by kernel_rfl
theorem JCU (f : Nat) : ∀ q ∈ Je (Try.f16.body.get!) JpT, q.Ok tau Try.prog 0 := by
 rw [JCT f]; intro q hq; cases hq
theorem Jzk : Try.prog.funcs[16]? = some Try.f16 := by kernel_rfl
theorem Jzl : Try.f16.body = some (Try.f16.body.get!) := by kernel_rfl
theorem JCV : Enters Try.prog 16 := enters_of Jzk (by kernel_rfl) Jzl
def JmB : List PV -> List Ent -> (Res -> Option Res) -> Option Res
 | [.ar 37 prev, .st 51 [.st 47 [.ro 5 y0 y1 y2, .ar 37 y3], .sc (.int .i64 e_At), .ro 113 y4 y5 e_Op, .ar 37 y6, .ar 37 y7]], [], k => g16 0 prev y0 y1 y2 y3 e_At y4 y5 e_Op y6 y7 k
 | _, _, _ => none
def s16 : Sig := { own := [], run := JmB }
theorem JCW : Jh tau Try.prog 16 s16 := JW Jr JuH Js Jzk Jzl JpT [.ro] 0 [] JmB (JCU 0) fun xs es k res hr => by
 unfold JmB at hr
 split at hr
 · exact ⟨rfl, 0, (e16 0 _ _ _ _ _ _ _ _ _ _ _  _).trans hr⟩
 · cases hr
-- FN
theorem EntRep.free_none {τ : Tab} {im : Im} {ow : Own} {i : Nat} {e : Ent} {w : World} (he : EntRep τ im ow i e w) (hf : e.free = true) {l : Loc} {b : Nat} (hl : ow i = some l) (hb : l.blk = some b) : im b = none := by
 obtain ⟨loc, h1, h2⟩ := he
 obtain rfl : loc = l := Option.some.inj (h1.symm.trans hl)
 cases e with
 | dead => cases hf
 | box fz t v =>
  obtain ⟨k1, k2, b', cells, el, fr, pre, mid, post, q1, q2, q3, q4, q5, q6, q7, q8⟩ := h2
  have : fz = false := by cases fz with | true => cases hf | false => rfl
  obtain rfl : b = b' := Option.some.inj (hb.symm.trans q1)
  exact q8.1 this
 | vec fz t nl els =>
  obtain ⟨k1, k2, k3⟩ := h2
  have : fz = false := by cases fz with | true => cases hf | false => rfl
  rcases k3 with k3 | ⟨_, b', cells, el, fr, pre, mid, post, q1, q2, q3, q4, q5, q6, q7, q8⟩
  · rw [k3.1] at hb; cases hb
  · obtain rfl : b = b' := Option.some.inj (hb.symm.trans q1)
    exact q8.1 this
theorem Jh.dead {τ : Tab} {P : Program} {g : FuncId} {sg : Sig} (h : Jh τ P g sg) :
   Jh τ P g { own := sg.own, run := fun xs es k => sg.run xs es fun r => bif r.news.isEmpty && decide (r.pars.length <= 15) then k ⟨r.val, r.pars, [.dead]⟩ else none } := by
 intro xs es k res hl hrun
 obtain ⟨r, hk, H⟩ := h xs es _ res hl hrun
 obtain ⟨hn, hk'⟩ := JI hk
 rw [Bool.and_eq_true, decide_eq_true_eq] at hn
 refine ⟨⟨r.val, r.pars, [.dead]⟩, hk', fun im ow w us hx hi => (H im ow w us hx hi).mono fun e w' hp => ?_⟩
 obtain ⟨u, im', ow', h1, h2, G⟩ := hp
 have hn0 : r.news = [] := List.isEmpty_iff.1 hn.1
 rw [hn0] at G
 have e16 : JO r.pars [] 16 = none := rfl
 have d16 : JO r.pars [.dead] 16 = some .dead := rfl
 have same : ∀ i, i ≠ 16 -> JO r.pars [.dead] i = JO r.pars [] i := by
   intro i hi
   unfold JO
   by_cases h16 : i < 16
   · rw [if_pos h16, if_pos h16]
   · rw [if_neg h16, if_neg h16]
     obtain ⟨m, hm⟩ : ∃ m, i - 16 = m + 1 := ⟨i - 17, by omega⟩
     rw [hm]; rfl
 have o16 : ow' 16 = none := by
   cases ho : ow' 16 with
   | none => rfl
   | some l =>
     obtain ⟨e, he⟩ := G.inv.dom 16 l ho
     rw [e16] at he; cases he
 let ow2 : Own := Ww ow' 16 ⟨none, 0, .box 0, 0⟩
 have t16 : ow2 16 = some ⟨none, 0, .box 0, 0⟩ := if_pos rfl
 have tne : ∀ i, i ≠ 16 -> ow2 i = ow' i := fun i hi => if_neg hi
 have how : ∀ i l, ow' i = some l -> ow2 i = some l := by
   intro i l hil
   by_cases h16 : i = 16
   · subst h16; rw [o16] at hil; cases hil
   · rw [tne i h16]; exact hil
 have live : ∀ i b, Live (JO r.pars [.dead]) ow2 i b -> Live (JO r.pars []) ow' i b := by
   rintro i b ⟨e, l, q1, q2, q3, q4⟩
   by_cases h16 : i = 16
   · subst h16; rw [d16] at q1; obtain rfl := Option.some.inj q1; cases q2
   · exact ⟨e, l, by rw [← same i h16]; exact q1, q2, by rw [← tne i h16]; exact q3, q4⟩
 refine ⟨u, im', ow2, h1, Jd.mono (fun _ _ h => h) how _ _ h2, ⟨G.imX, fun i l hil => how i l (G.owX i l hil), ⟨G.inv.imOk, ?_, ?_, ?_⟩, G.size, G.keep, G.newim, fun i b hb => G.newlive i b (live i b hb), G.rest⟩⟩
 · intro i e he
   by_cases h16 : i = 16
   · subst h16; rw [d16] at he; obtain rfl := Option.some.inj he; exact ⟨_, t16, trivial⟩
   · rw [same i h16] at he
     have q := G.inv.ent i e he
     exact EntRep.keep (fun _ _ h => h) how (fun _ _ _ _ _ => rfl) (fun hf l b hl hb => q.free_none hf hl hb) q
 · intro i j b hi hj
   exact G.inv.inj i j b (live i b hi) (live j b hj)
 · intro i l hil
   by_cases h16 : i = 16
   · subst h16; exact ⟨_, d16⟩
   · rw [tne i h16] at hil
     obtain ⟨e, he⟩ := G.inv.dom i l hil
     exact ⟨e, by rw [same i h16]; exact he⟩
def Jzm : Sig := { own := s16.own, run := fun xs es k => s16.run xs es fun r => bif r.news.isEmpty && decide (r.pars.length <= 15) then k ⟨r.val, r.pars, [.dead]⟩ else none }
theorem Jzn : Jh tau Try.prog 16 Jzm := JCW.dead
def F54 : Fns := JG 52 JtU (JG 31 JuE (JG 16 Jzm (F0)))
theorem JuI : Jy tau Try.prog F54 := (((JE).add Jzn JCV).add Jsc Jzg).add JrN Jx0
def JpU : An := (.seq .leaf (.seq .leaf (.seq .leaf (.seq .leaf (.seq .leaf .leaf)))))
def g54 (f : Nat) (k0_z k0_f : Bool) (k0 : List PV) (k1_z k1_f : Bool) (k1 : List PV) (k2_z k2_f : Bool) (k2 : List PV) (host : Int) (prev : List PV) (y0 y1 : Bool) (y2 y3 : List PV) (at1 : Int) (o_z o_f : Bool) (o : List PV) (k : Res -> Option Res) : Option Res := bif Jf (0 + y2.length) 1 && true then bif Jf (0 + o.length) 32 && true then bif Jf (0 + (List.take 32 prev).length) 1 && true then bif eOk (EV.mk (List.take (0 + y2.length) y2) y3 at1 (List.take (0 + o.length) o)) then bif Jf (0 + (List.take 32 prev).length + (List.take (Jt (EV.mk (List.take (0 + y2.length) y2) y3 at1 (List.take (0 + o.length) o))).length (pu IntKind.u8 (Jt (EV.mk (List.take (0 + y2.length) y2) y3 at1 (List.take (0 + o.length) o))))).length) 1 && true then bif Jl IntKind.u8 (List.take (0 + (List.take 32 prev).length + (List.take (Jt (EV.mk (List.take (0 + y2.length) y2) y3 at1 (List.take (0 + o.length) o))).length (pu IntKind.u8 (Jt (EV.mk (List.take (0 + y2.length) y2) y3 at1 (List.take (0 + o.length) o))))).length) (List.take (0 + (List.take 32 prev).length) (List.take 32 prev) ++ List.take (Jt (EV.mk (List.take (0 + y2.length) y2) y3 at1 (List.take (0 + o.length) o))).length (pu IntKind.u8 (Jt (EV.mk (List.take (0 + y2.length) y2) y3 at1 (List.take (0 + o.length) o)))))) && decide ((List.take (0 + (List.take 32 prev).length + (List.take (Jt (EV.mk (List.take (0 + y2.length) y2) y3 at1 (List.take (0 + o.length) o))).length (pu IntKind.u8 (Jt (EV.mk (List.take (0 + y2.length) y2) y3 at1 (List.take (0 + o.length) o))))).length) (List.take (0 + (List.take 32 prev).length) (List.take 32 prev) ++ List.take (Jt (EV.mk (List.take (0 + y2.length) y2) y3 at1 (List.take (0 + o.length) o))).length (pu IntKind.u8 (Jt (EV.mk (List.take (0 + y2.length) y2) y3 at1 (List.take (0 + o.length) o)))))).length <= 140737488355000) then bif decide (0 <= host) && decide (host < zi 3) && true then bif PV.isRo 5 (Jm (PV.st 31 [.ro 5 k0_z k0_f k0, .ro 5 k1_z k1_f k1, .ro 5 k2_z k2_f k2]) [host.toNat]) && true then bif eOk (EV.mk (List.take (0 + y2.length) y2) y3 at1 (List.take (0 + o.length) o)) then bif Jf ((Jt (EV.mk (List.take (0 + y2.length) y2) y3 at1 (List.take (0 + o.length) o))).length + (List.take 32 (pu IntKind.u8 (JL (Ju (List.take (0 + (List.take 32 prev).length + (List.take (Jt (EV.mk (List.take (0 + y2.length) y2) y3 at1 (List.take (0 + o.length) o))).length (pu IntKind.u8 (Jt (EV.mk (List.take (0 + y2.length) y2) y3 at1 (List.take (0 + o.length) o))))).length) (List.take (0 + (List.take 32 prev).length) (List.take 32 prev) ++ List.take (Jt (EV.mk (List.take (0 + y2.length) y2) y3 at1 (List.take (0 + o.length) o))).length (pu IntKind.u8 (Jt (EV.mk (List.take (0 + y2.length) y2) y3 at1 (List.take (0 + o.length) o)))))))))).length) 1 && true then bif Jl IntKind.u8 (Jm (PV.st 31 [.ro 5 k0_z k0_f k0, .ro 5 k1_z k1_f k1, .ro 5 k2_z k2_f k2]) [host.toNat]).els && decide ((Jm (PV.st 31 [.ro 5 k0_z k0_f k0, .ro 5 k1_z k1_f k1, .ro 5 k2_z k2_f k2]) [host.toNat]).els.length <= 1000000000) && (Jl IntKind.u8 (List.take ((Jt (EV.mk (List.take (0 + y2.length) y2) y3 at1 (List.take (0 + o.length) o))).length + (List.take 32 (pu IntKind.u8 (JL (Ju (List.take (0 + (List.take 32 prev).length + (List.take (Jt (EV.mk (List.take (0 + y2.length) y2) y3 at1 (List.take (0 + o.length) o))).length (pu IntKind.u8 (Jt (EV.mk (List.take (0 + y2.length) y2) y3 at1 (List.take (0 + o.length) o))))).length) (List.take (0 + (List.take 32 prev).length) (List.take 32 prev) ++ List.take (Jt (EV.mk (List.take (0 + y2.length) y2) y3 at1 (List.take (0 + o.length) o))).length (pu IntKind.u8 (Jt (EV.mk (List.take (0 + y2.length) y2) y3 at1 (List.take (0 + o.length) o)))))))))).length) (List.take (Jt (EV.mk (List.take (0 + y2.length) y2) y3 at1 (List.take (0 + o.length) o))).length (pu IntKind.u8 (Jt (EV.mk (List.take (0 + y2.length) y2) y3 at1 (List.take (0 + o.length) o)))) ++ List.take 32 (pu IntKind.u8 (JL (Ju (List.take (0 + (List.take 32 prev).length + (List.take (Jt (EV.mk (List.take (0 + y2.length) y2) y3 at1 (List.take (0 + o.length) o))).length (pu IntKind.u8 (Jt (EV.mk (List.take (0 + y2.length) y2) y3 at1 (List.take (0 + o.length) o))))).length) (List.take (0 + (List.take 32 prev).length) (List.take 32 prev) ++ List.take (Jt (EV.mk (List.take (0 + y2.length) y2) y3 at1 (List.take (0 + o.length) o))).length (pu IntKind.u8 (Jt (EV.mk (List.take (0 + y2.length) y2) y3 at1 (List.take (0 + o.length) o))))))))))) && decide ((List.take ((Jt (EV.mk (List.take (0 + y2.length) y2) y3 at1 (List.take (0 + o.length) o))).length + (List.take 32 (pu IntKind.u8 (JL (Ju (List.take (0 + (List.take 32 prev).length + (List.take (Jt (EV.mk (List.take (0 + y2.length) y2) y3 at1 (List.take (0 + o.length) o))).length (pu IntKind.u8 (Jt (EV.mk (List.take (0 + y2.length) y2) y3 at1 (List.take (0 + o.length) o))))).length) (List.take (0 + (List.take 32 prev).length) (List.take 32 prev) ++ List.take (Jt (EV.mk (List.take (0 + y2.length) y2) y3 at1 (List.take (0 + o.length) o))).length (pu IntKind.u8 (Jt (EV.mk (List.take (0 + y2.length) y2) y3 at1 (List.take (0 + o.length) o)))))))))).length) (List.take (Jt (EV.mk (List.take (0 + y2.length) y2) y3 at1 (List.take (0 + o.length) o))).length (pu IntKind.u8 (Jt (EV.mk (List.take (0 + y2.length) y2) y3 at1 (List.take (0 + o.length) o)))) ++ List.take 32 (pu IntKind.u8 (JL (Ju (List.take (0 + (List.take 32 prev).length + (List.take (Jt (EV.mk (List.take (0 + y2.length) y2) y3 at1 (List.take (0 + o.length) o))).length (pu IntKind.u8 (Jt (EV.mk (List.take (0 + y2.length) y2) y3 at1 (List.take (0 + o.length) o))))).length) (List.take (0 + (List.take 32 prev).length) (List.take 32 prev) ++ List.take (Jt (EV.mk (List.take (0 + y2.length) y2) y3 at1 (List.take (0 + o.length) o))).length (pu IntKind.u8 (Jt (EV.mk (List.take (0 + y2.length) y2) y3 at1 (List.take (0 + o.length) o))))))))))).length <= 1000000000)) then k (Res.mk (.st 51 [.st 47 [.ro 5 false false (List.take (0 + y2.length) y2), .ar 37 y3], .sc (.int .i64 at1), .ro 113 false false (List.take (0 + o.length) o), .ar 37 (pu IntKind.u8 (JL (Ju (List.take (0 + (List.take 32 prev).length + (List.take (Jt (EV.mk (List.take (0 + y2.length) y2) y3 at1 (List.take (0 + o.length) o))).length (pu IntKind.u8 (Jt (EV.mk (List.take (0 + y2.length) y2) y3 at1 (List.take (0 + o.length) o))))).length) (List.take (0 + (List.take 32 prev).length) (List.take 32 prev) ++ List.take (Jt (EV.mk (List.take (0 + y2.length) y2) y3 at1 (List.take (0 + o.length) o))).length (pu IntKind.u8 (Jt (EV.mk (List.take (0 + y2.length) y2) y3 at1 (List.take (0 + o.length) o))))))))), .ar 37 (pu IntKind.u8 (JcE (Ju (Jm (PV.st 31 [.ro 5 k0_z k0_f k0, .ro 5 k1_z k1_f k1, .ro 5 k2_z k2_f k2]) [host.toNat]).els) (Ju (List.take ((Jt (EV.mk (List.take (0 + y2.length) y2) y3 at1 (List.take (0 + o.length) o))).length + (List.take 32 (pu IntKind.u8 (JL (Ju (List.take (0 + (List.take 32 prev).length + (List.take (Jt (EV.mk (List.take (0 + y2.length) y2) y3 at1 (List.take (0 + o.length) o))).length (pu IntKind.u8 (Jt (EV.mk (List.take (0 + y2.length) y2) y3 at1 (List.take (0 + o.length) o))))).length) (List.take (0 + (List.take 32 prev).length) (List.take 32 prev) ++ List.take (Jt (EV.mk (List.take (0 + y2.length) y2) y3 at1 (List.take (0 + o.length) o))).length (pu IntKind.u8 (Jt (EV.mk (List.take (0 + y2.length) y2) y3 at1 (List.take (0 + o.length) o)))))))))).length) (List.take (Jt (EV.mk (List.take (0 + y2.length) y2) y3 at1 (List.take (0 + o.length) o))).length (pu IntKind.u8 (Jt (EV.mk (List.take (0 + y2.length) y2) y3 at1 (List.take (0 + o.length) o)))) ++ List.take 32 (pu IntKind.u8 (JL (Ju (List.take (0 + (List.take 32 prev).length + (List.take (Jt (EV.mk (List.take (0 + y2.length) y2) y3 at1 (List.take (0 + o.length) o))).length (pu IntKind.u8 (Jt (EV.mk (List.take (0 + y2.length) y2) y3 at1 (List.take (0 + o.length) o))))).length) (List.take (0 + (List.take 32 prev).length) (List.take 32 prev) ++ List.take (Jt (EV.mk (List.take (0 + y2.length) y2) y3 at1 (List.take (0 + o.length) o))).length (pu IntKind.u8 (Jt (EV.mk (List.take (0 + y2.length) y2) y3 at1 (List.take (0 + o.length) o))))))))))))))]) [] []) else none else none else none else none else none else none else none else none else none else none else none
theorem e54 (f : Nat) (k0_z k0_f : Bool) (k0 : List PV) (k1_z k1_f : Bool) (k1 : List PV) (k2_z k2_f : Bool) (k2 : List PV) (host : Int) (prev : List PV) (y0 y1 : Bool) (y2 y3 : List PV) (at1 : Int) (o_z o_f : Bool) (o : List PV) (k : Res -> Option Res) : JM tau F54 Try.f54 (Try.f54.body.get!) JpU [.ro] 0 [.st 31 [.ro 5 k0_z k0_f k0, .ro 5 k1_z k1_f k1, .ro 5 k2_z k2_f k2], .sc (.int .i64 host), .ar 37 prev, .st 47 [.ro 5 y0 y1 y2, .ar 37 y3], .sc (.int .i64 at1), .ro 113 o_z o_f o] [] k = g54 f k0_z k0_f k0 k1_z k1_f k1 k2_z k2_f k2 host prev y0 y1 y2 y3 at1 o_z o_f o k := by kernel_rfl
theorem JCX (f : Nat) : Je (Try.f54.body.get!) JpU = [] := by kernel_rfl
theorem JCY (f : Nat) : ∀ q ∈ Je (Try.f54.body.get!) JpU, q.Ok tau Try.prog 0 := by
 rw [JCX f]; intro q hq; cases hq
theorem Jzo : Try.prog.funcs[54]? = some Try.f54 := by kernel_rfl
theorem Jzp : Try.f54.body = some (Try.f54.body.get!) := by kernel_rfl
theorem JCZ : Enters Try.prog 54 := enters_of Jzo (by kernel_rfl) Jzp
def JmC : List PV -> List Ent -> (Res -> Option Res) -> Option Res
 | [.st 31 [.ro 5 k0_z k0_f k0, .ro 5 k1_z k1_f k1, .ro 5 k2_z k2_f k2], .sc (.int .i64 host), .ar 37 prev, .st 47 [.ro 5 y0 y1 y2, .ar 37 y3], .sc (.int .i64 at1), .ro 113 o_z o_f o], [], k => g54 0 k0_z k0_f k0 k1_z k1_f k1 k2_z k2_f k2 host prev y0 y1 y2 y3 at1 o_z o_f o k
 | _, _, _ => none
def s54 : Sig := { own := [], run := JmC }
theorem JC0 : Jh tau Try.prog 54 s54 := JW Jr JuI Js Jzo Jzp JpU [.ro] 0 [] JmC (JCY 0) fun xs es k res hr => by
 unfold JmC at hr
 split at hr
 · exact ⟨rfl, 0, (e54 0 _ _ _ _ _ _ _ _ _ _ _ _ _ _ _ _ _ _ _  _).trans hr⟩
 · cases hr

-- FN wire.Parse
structure PA where
 (l : List PV) (b : List PV)
def kOk (l : List PV) : Bool := Jl .u8 l && decide (l.length <= 1000000000)
theorem JpV {z0 f0 z1 f1 z2 f2 : Bool} {k0 k1 k2 : List PV} (h0 : kOk k0 = true) (h1 : kOk k1 = true) (h2 : kOk k2 = true) (d : Int) : kOk (Jex ⟨[.ro 5 z0 f0 k0, .ro 5 z1 f1 k1, .ro 5 z2 f2 k2], d⟩) = true := by
 rw [Jjh]
 show kOk (JfY _ d).els = true
 unfold JfY
 cases h : WE d 2 with
 | false => rfl
 | true =>
  simp only [WE, Bool.and_eq_true, decide_eq_true_eq] at h
  have : d = 0 ∨ d = 1 ∨ d = 2 := by omega
  rcases this with rfl | rfl | rfl
  · exact h0
  · exact h1
  · exact h2
def kIn : Int -> Bool := hid fun d => WE d 2
theorem Jcf (d : Int) : kIn d = WE d 2 := by rw [kIn, hid_eq]
-- FN sign.Delta | sign.Open | sign.Entry | sign.Check | ref9.Delta | ref9.Open | ref9.Next | ref9.Entry | ref9.Check
def h32 : List PV -> Bool := hid fun h => Jl .u8 h && decide (h.length = 32)
theorem h32_iff {h : List PV} : h32 h = true ↔ Jl .u8 h = true /\ h.length = 32 := by rw [h32, hid_eq, Bool.and_eq_true, decide_eq_true_eq]
def kO3 : List PV -> Bool := hid fun l => l.all fun p => kOk p.els
theorem JjQ {z0 f0 z1 f1 z2 f2 : Bool} {k0 k1 k2 : List PV} : kO3 [.ro 5 z0 f0 k0, .ro 5 z1 f1 k1, .ro 5 z2 f2 k2] = true ↔ kOk k0 = true /\ kOk k1 = true /\ kOk k2 = true := by
 rw [kO3, hid_eq]; simp [PV.els]
structure MK where
 (l : List PV) (d : Int) (t : List Int)
def mcK : MK -> List Int := hid fun m => JcE (Ju (Jex ⟨m.l, m.d⟩)) m.t
theorem Jie (m : MK) : mcK m = JcE (Ju (Jex ⟨m.l, m.d⟩)) m.t := by rw [mcK, hid_eq]
theorem Jif (m : MK) : (mcK m).length = 32 := by rw [Jie]; exact Jgo _ _
structure NX where
 (p : List PV) (e : EV)
def nxP : NX -> List Int := hid fun x => JL (Ju x.p ++ Jt x.e)
theorem JeN (x : NX) : nxP x = JL (Ju x.p ++ Jt x.e) := by rw [nxP, hid_eq]
theorem YA (x : NX) : (nxP x).length = 32 := by rw [JeN]; exact Qg _
structure EM where
 (l : List PV) (d : Int) (e : EV) (h : List PV)
def emP : EM -> List Int := hid fun x => mcK ⟨x.l, x.d, Jt x.e ++ Ju x.h⟩
theorem JuJ (x : EM) : emP x = mcK ⟨x.l, x.d, Jt x.e ++ Ju x.h⟩ := by rw [emP, hid_eq]
structure EC where
 (l : List PV) (d : Int) (e : EV) (h m : List PV)
structure SO where
 (l b m : List PV)
theorem JaO {a b : List PV} (h : Jl .u8 a = true) (h' : Jl .u8 b = true) : Jl .u8 (a ++ b) = true := by
 induction a with
 | nil => exact h'
 | cons p ps ih =>
  have e : ∀ l : List PV, Jl .u8 (p :: l) = (p.isInt .u8 && Jl .u8 l) := fun l => rfl
  rw [e, Bool.and_eq_true] at h
  rw [List.cons_append, e, Bool.and_eq_true]; exact ⟨h.1, ih h.2⟩
theorem JkK (a b : List PV) : Ju (a ++ b) = Ju a ++ Ju b := by simp [Ju]
theorem JmD {z0 f0 z1 f1 z2 f2 : Bool} {k0 k1 k2 : List PV} (h : kO3 [.ro 5 z0 f0 k0, .ro 5 z1 f1 k1, .ro 5 z2 f2 k2] = true) {d : Int} (hd : WE d 2 = true) :
  PV.isRo 5 (Jm (PV.st 31 [.ro 5 z0 f0 k0, .ro 5 z1 f1 k1, .ro 5 z2 f2 k2]) [d.toNat]) = true /\ (Jm (PV.st 31 [.ro 5 z0 f0 k0, .ro 5 z1 f1 k1, .ro 5 z2 f2 k2]) [d.toNat]).els = Jex ⟨[.ro 5 z0 f0 k0, .ro 5 z1 f1 k1, .ro 5 z2 f2 k2], d⟩ := by
 rw [Jjh, JfY, hd]
 simp only [WE, Bool.and_eq_true, decide_eq_true_eq] at hd
 have : d = 0 ∨ d = 1 ∨ d = 2 := by omega
 rcases this with rfl | rfl | rfl <;> exact ⟨rfl, rfl⟩
theorem JmE {z0 f0 z1 f1 z2 f2 : Bool} {k0 k1 k2 : List PV} (h : kO3 [.ro 5 z0 f0 k0, .ro 5 z1 f1 k1, .ro 5 z2 f2 k2] = true) (d : Int) : Jl .u8 (Jex ⟨[.ro 5 z0 f0 k0, .ro 5 z1 f1 k1, .ro 5 z2 f2 k2], d⟩) = true /\ (Jex ⟨[.ro 5 z0 f0 k0, .ro 5 z1 f1 k1, .ro 5 z2 f2 k2], d⟩).length <= 1000000000 := by
 obtain ⟨a, b, c⟩ := JjQ.1 h
 have := JpV (z0 := z0) (f0 := f0) (z1 := z1) (f1 := f1) (z2 := z2) (f2 := f2) a b c d
 rw [kOk, Bool.and_eq_true, decide_eq_true_eq] at this; exact this
theorem JkL {d : DV} (h : dOk d = true) : (dlB d).length <= 65618 := by rw [Vu h]; have := (Wi.1 h).2.2.2; omega
theorem Jgp {e : EV} (h : eOk e = true) : (Jt e).length <= 131114 := by rw [WL h]; have := WK.1 h; omega
/-! sign.Delta, ref9.Delta -/
def Jig : List PV -> List Ent -> (Res -> Option Res) -> Option Res
 | [.st 31 [.ro 5 z0 f0 k0, .ro 5 z1 f1 k1, .ro 5 z2 f2 k2], .st 53 [.st 42 [.sc (.int .i64 ad), .sc (.int .i64 au)], .sc (.int .i64 id1), .sc (.int .i64 ve), .ar 37 h, .sc (.int .i64 kd), .ro 113 oz of o, .st 42 [.sc (.int .i64 wd), .sc (.int .i64 wu)]]], [], k =>
  bif dOk ⟨ad, au, id1, ve, h, kd, o, wd, wu⟩ && (kO3 [.ro 5 z0 f0 k0, .ro 5 z1 f1 k1, .ro 5 z2 f2 k2] && kIn ad) then
   k ⟨.st 47 [.ro 5 false false (pu .u8 (dlB ⟨ad, au, id1, ve, h, kd, o, wd, wu⟩)), .ar 37 (pu .u8 (mcK ⟨[.ro 5 z0 f0 k0, .ro 5 z1 f1 k1, .ro 5 z2 f2 k2], ad, dlB ⟨ad, au, id1, ve, h, kd, o, wd, wu⟩⟩))], [], []⟩ else none
 | _, _, _ => none
def Jzq : Sig := { own := [], run := Jig }
theorem Jzr : Jh tau Try.prog 55 Jzq := JCS.of fun xs es k res hr => by
 change Jig xs es k = some res at hr
 unfold Jig at hr
 split at hr
 · rename_i z0 f0 k0 z1 f1 k1 z2 f2 k2 ad au id1 ve h kd oz of o wd wu
   obtain ⟨hc, hr⟩ := JI hr
   simp only [Bool.and_eq_true] at hc
   have hK := JmE hc.2.1 ad
   have hs := JkL hc.1
   have hin := hc.2.2
   rw [Jcf] at hin
   obtain ⟨q1, q2⟩ := JmD hc.2.1 hin
   have htp : ∀ l : List Int, List.take l.length (pu .u8 l) = pu .u8 l := fun l => List.take_of_length_le (by simp)
   simp only [WE, Bool.and_eq_true, decide_eq_true_eq] at hin
   refine Eq.trans ?_ hr
   show g55 0 z0 f0 k0 z1 f1 k1 z2 f2 k2 ad au id1 ve h kd oz of o wd wu k = _
   unfold g55
   simp only [q2, htp, JN, Q0, JD]
   refine (Ja hc.1).trans ((Ja (by simp [zi]; omega)).trans ((Ja (by rw [q1]; rfl)).trans ((Ja (by rw [hK.1]; simp; omega)).trans ?_)))
   rw [Jie]
 · cases hr
/-! sign.Open, ref9.Open -/
/-! entries -/
def Jih : List PV -> List Ent -> (Res -> Option Res) -> Option Res
 | [.st 31 [.ro 5 z0 f0 k0, .ro 5 z1 f1 k1, .ro 5 z2 f2 k2], .sc (.int .i64 ho), .ar 37 pr, .st 47 [.ro 5 z f b, .ar 37 m], .sc (.int .i64 at1), .ro 113 oz of o], [], k =>
  bif (kIn ho && eOk ⟨b, m, at1, o⟩) && (h32 pr && kO3 [.ro 5 z0 f0 k0, .ro 5 z1 f1 k1, .ro 5 z2 f2 k2]) then
   k ⟨.st 51 [.st 47 [.ro 5 false false b, .ar 37 m], .sc (.int .i64 at1), .ro 113 false false o, .ar 37 (pu .u8 (nxP ⟨pr, ⟨b, m, at1, o⟩⟩)), .ar 37 (pu .u8 (emP ⟨[.ro 5 z0 f0 k0, .ro 5 z1 f1 k1, .ro 5 z2 f2 k2], ho, ⟨b, m, at1, o⟩, pu .u8 (nxP ⟨pr, ⟨b, m, at1, o⟩⟩)⟩))], [], []⟩ else none
 | _, _, _ => none
def Jzs : Sig := { own := [], run := Jih }
theorem Jzt : Jh tau Try.prog 54 Jzs := JC0.of fun xs es k res hr => by
 change Jih xs es k = some res at hr
 unfold Jih at hr
 split at hr
 · rename_i z0 f0 k0 z1 f1 k1 z2 f2 k2 ho pr z f b m at1 oz of o
   obtain ⟨hc, hr⟩ := JI hr
   simp only [Bool.and_eq_true] at hc
   have hK := JmE hc.2.2 ho
   have hin := hc.1.1
   rw [Jcf] at hin
   obtain ⟨q1, q2⟩ := JmD hc.2.2 hin
   simp only [WE, Bool.and_eq_true, decide_eq_true_eq] at hin
   obtain ⟨p1, p2⟩ := h32_iff.1 hc.2.1
   have hcl := Jgp hc.1.2
   have heo := WK.1 hc.1.2
   have hbl : b.length <= 65535 := heo.2.1
   have hol : o.length <= 1000 := (ZV.1 heo.2.2.2.2.1).2.2
   have hnl := YA ⟨pr, ⟨b, m, at1, o⟩⟩
   have htp : List.take 32 pr = pr := List.take_of_length_le (by omega)
   have htc : List.take (Jt ⟨b, m, at1, o⟩).length (pu .u8 (Jt ⟨b, m, at1, o⟩)) = pu .u8 (Jt ⟨b, m, at1, o⟩) := List.take_of_length_le (by simp)
   have htn : List.take (pr.length + (Jt ⟨b, m, at1, o⟩).length) (pr ++ pu .u8 (Jt ⟨b, m, at1, o⟩)) = pr ++ pu .u8 (Jt ⟨b, m, at1, o⟩) := List.take_of_length_le (by simp)
   have hth : List.take 32 (pu .u8 (nxP ⟨pr, ⟨b, m, at1, o⟩⟩)) = pu .u8 (nxP ⟨pr, ⟨b, m, at1, o⟩⟩) := List.take_of_length_le (by rw [JD]; omega)
   have hte : List.take ((Jt ⟨b, m, at1, o⟩).length + (nxP ⟨pr, ⟨b, m, at1, o⟩⟩).length) (pu .u8 (Jt ⟨b, m, at1, o⟩) ++ pu .u8 (nxP ⟨pr, ⟨b, m, at1, o⟩⟩)) = pu .u8 (Jt ⟨b, m, at1, o⟩) ++ pu .u8 (nxP ⟨pr, ⟨b, m, at1, o⟩⟩) := List.take_of_length_le (by simp)
   have hnx : JL (Ju pr ++ Jt ⟨b, m, at1, o⟩) = nxP ⟨pr, ⟨b, m, at1, o⟩⟩ := by rw [JeN]
   have hem : JcE (Ju (Jex ⟨[.ro 5 z0 f0 k0, .ro 5 z1 f1 k1, .ro 5 z2 f2 k2], ho⟩)) (Jt ⟨b, m, at1, o⟩ ++ nxP ⟨pr, ⟨b, m, at1, o⟩⟩) = emP ⟨[.ro 5 z0 f0 k0, .ro 5 z1 f1 k1, .ro 5 z2 f2 k2], ho, ⟨b, m, at1, o⟩, pu .u8 (nxP ⟨pr, ⟨b, m, at1, o⟩⟩)⟩ := by rw [JuJ, Jie, Q0]
   refine Eq.trans ?_ hr
   show g54 0 z0 f0 k0 z1 f1 k1 z2 f2 k2 ho pr z f b m at1 oz of o k = _
   unfold g54
   simp only [List.take_length, Nat.zero_add, htp, htc, JD, htn, JkK, Q0, hnx, hth, hte, q2, hem]
   refine (Ja (by simp [Jf]; omega)).trans ((Ja (by simp [Jf]; omega)).trans ((Ja (by simp [Jf]; omega)).trans ((Ja hc.1.2).trans ((Ja (by simp [Jf]; omega)).trans ((Ja (by rw [JaO p1 (JN _ _)]; simp; omega)).trans ((Ja (by simp [zi]; omega)).trans ((Ja (by rw [q1]; rfl)).trans ((Ja hc.1.2).trans ((Ja (by simp [Jf]; omega)).trans ((Ja (by rw [hK.1, JaO (JN _ _) (JN _ _)]; simp; omega)).trans ?_))))))))))
   rfl
 · cases hr



-- FN law16.within
def okW : Int -> Bool := hid fun n => decide (0 < n) && decide (n < 1000000000000)
theorem JmF (n : Int) : okW n = (decide (0 < n) && decide (n < 1000000000000)) := by rw [okW, hid_eq]
-- FN
def kpP (k : Int) : PV := .st 113 [.sc (.int .i64 1), .sc (.int .i64 k), .sc (.string (ByteArray.mk #[]))]
def ctP (k : Int) : PV := .st 113 [.sc (.int .i64 3), .sc (.int .i64 k), .sc (.string (ByteArray.mk #[]))]
def ptP (s : ByteArray) : PV := .st 113 [.sc (.int .i64 2), .sc (.int .i64 0), .sc (.string s)]
def abc : ByteArray := ByteArray.mk (Array.mk [97, 98, 99, 100, 101, 102, 103, 104, 105, 106])
def zed : ByteArray := ByteArray.mk (Array.mk [122])
def Jii (k : Int) : ByteArray := abc.extract 0 k.toNat
theorem JkM {k : Int} (h : 0 <= k) (h2 : k <= 10) : ((Jii k).size : Int) = k := by
 have : (Jii k).size = min k.toNat 10 - 0 := by simp [Jii, abc, ByteArray.size_extract]; rfl
 omega
def mkK (x n : Int) : Int := 1 + IntKind.i64.wrap (x.tdiv 7) % JK n 9
def mkS (x : Int) : Int := 1 + IntKind.i64.wrap (x.tdiv 7) % 5
theorem JpW {n : Int} (h : 0 < n) : 0 < JK n 9 /\ JK n 9 <= n /\ JK n 9 <= 9 := by unfold JK; split <;> omega
def mkE (c : Bool) (n out : Int) : List PV := (bif decide (n > 0) then [kpP n] else []) ++ (bif c && decide (out <= 115) then [ptP zed] else [])
def Jgq (c : Bool) : Nat -> Int -> Int -> List PV -> List PV
 | 0, n, out, _ => mkE c n out
 | _ + 1, n, out, [] => mkE c n out
 | b + 1, n, out, p :: ps =>
  bif decide (n > 0) then
   (bif p.int % 4 == 0 || p.int % 4 == 1 then kpP (mkK p.int n) :: Jgq c b (n - mkK p.int n) out ps
   else bif p.int % 4 == 2 then ctP (mkK p.int n) :: Jgq c b (n - mkK p.int n) (out - mkK p.int n) ps
   else bif decide (out + mkS p.int <= 120) then ptP (Jii (mkS p.int)) :: Jgq c b n (out + mkS p.int) ps
   else Jgq c b n out ps)
  else mkE c n out
def mkC (ns : List PV) : Bool := decide (ns.length > 0) && IntKind.i64.wrap ((ns.getD 0 .top).int.tdiv 3) % 3 == 0
structure MN where
 (n : Int) (ns : List PV)
def JdC : MN -> List PV := hid fun x => Jgq (mkC x.ns) 12 x.n x.n x.ns
theorem JmG (x : MN) : JdC x = Jgq (mkC x.ns) 12 x.n x.n x.ns := by rw [JdC, hid_eq]
def inC (c : CV) : Int := bif c.kd == 2 then 0 else c.n
def Q2 (c : CV) : Int := bif c.kd == 1 then c.n else c.s.size
def inL : List PV -> Int
 | [] => 0
 | p :: ps => inC (cv p) + inL ps
def outL : List PV -> Int
 | [] => 0
 | p :: ps => Q2 (cv p) + outL ps
structure MkOk (n done b : Int) (l : List PV) : Prop where
 cp : ∀ p ∈ l, isCp p = true
 ck : ∀ p ∈ l, ckC (cv p) = 0
 sz : ∀ p ∈ l, (cv p).s.size <= 10
 len : (l.length : Int) <= b
 inn : inL l = n
 out : done + outL l <= 120
 out0 : 0 <= outL l
theorem GA {n n' done done' b : Int} {p : PV} {l : List PV} (h : MkOk n' done' b l) (h1 : isCp p = true) (h2 : ckC (cv p) = 0) (h3 : (cv p).s.size <= 10) (h4 : inC (cv p) + n' = n) (h5 : done + Q2 (cv p) = done') (h6 : 0 <= Q2 (cv p)) : MkOk n done (b + 1) (p :: l) where
 cp := fun q hq => (List.mem_cons.1 hq).elim (fun e => e ▸ h1) (fun m => h.cp q m)
 ck := fun q hq => (List.mem_cons.1 hq).elim (fun e => e ▸ h2) (fun m => h.ck q m)
 sz := fun q hq => (List.mem_cons.1 hq).elim (fun e => e ▸ h3) (fun m => h.sz q m)
 len := by have := h.len; simp only [List.length_cons]; omega
 inn := by have := h.inn; simp only [inL]; omega
 out := by have := h.out; simp only [outL]; omega
 out0 := by have := h.out0; simp only [outL]; omega
theorem Xu {n done b b' : Int} {l : List PV} (h : MkOk n done b l) (hb : b <= b') : MkOk n done b' l := { h with len := by have := h.len; omega }
theorem Jcg {done : Int} (h : done <= 120) : MkOk 0 done 0 [] where
 cp := fun q hq => by cases hq
 ck := fun q hq => by cases hq
 sz := fun q hq => by cases hq
 len := by simp
 inn := rfl
 out := by simp only [outL]; omega
 out0 := by simp [outL]
theorem Jsd {k : Int} (h : 1 <= k) (h2 : k <= 120) : ckC (cv (kpP k)) = 0 := by
 have e : cv (kpP k) = ⟨1, k, ByteArray.mk #[]⟩ := rfl
 rw [e, Y2]; unfold JfL
 have hs : (ByteArray.mk #[]).size = 0 := rfl
 simp only [hs]
 rw [show (decide (k < 1)) = false from decide_eq_false (by omega), show (decide (k > 120)) = false from decide_eq_false (by omega)]; rfl
theorem Jzu {k : Int} (h : 1 <= k) (h2 : k <= 120) : ckC (cv (ctP k)) = 0 := by
 have e : cv (ctP k) = ⟨3, k, ByteArray.mk #[]⟩ := rfl
 rw [e, Y2]; unfold JfL
 have hs : (ByteArray.mk #[]).size = 0 := rfl
 simp only [hs]
 rw [show (decide (k < 1)) = false from decide_eq_false (by omega), show (decide (k > 120)) = false from decide_eq_false (by omega)]; rfl
theorem Jse {s : ByteArray} (h : 1 <= s.size) (h2 : s.size <= 120) : ckC (cv (ptP s)) = 0 := by
 have e : cv (ptP s) = ⟨2, 0, s⟩ := rfl
 rw [e, Y2]; unfold JfL
 rw [show (s.size == 0) = false from beq_false_of_ne (by omega)]
 refine (Jj rfl).trans ((Ja rfl).trans ((Jj rfl).trans (Jj (decide_eq_false (by show ¬ ((s.size : Int) > 120); omega)))))
theorem Jij (c : Bool) {n out : Int} (h : 0 <= n) (h2 : n <= out) (h3 : out <= 120) : MkOk n (out - n) 2 (mkE c n out) := by
 have hz : ∀ {d : Int}, d + 1 <= 120 -> MkOk 0 d 1 [ptP zed] := fun {d} hd =>
  GA (n' := 0) (done' := d + 1) (Jcg hd) rfl (Jse (by decide) (by decide)) (by show zed.size <= 10; decide) rfl rfl (by decide)
 unfold mkE
 cases hn : decide (n > 0) with
 | true =>
  have hn := of_decide_eq_true hn
  rw [cond_true, List.singleton_append]
  have e : ∀ {b : Int} {l : List PV}, MkOk 0 out b l -> MkOk n (out - n) (b + 1) (kpP n :: l) := fun hl =>
   GA hl rfl (Jsd (by omega) (by omega)) (by show (0 : Nat) <= 10; omega) (by show n + 0 = n; omega) (by show out - n + n = out; omega) (by show 0 <= n; omega)
  cases hc : (c && decide (out <= 115)) with
  | true => simp only [Bool.and_eq_true, decide_eq_true_eq] at hc; rw [cond_true]; exact e (hz (by omega))
  | false => rw [cond_false]; exact Xu (e (Jcg h3)) (by omega)
 | false =>
  have hn := of_decide_eq_false hn
  have : n = 0 := by omega
  subst this
  rw [cond_false, List.nil_append, Int.sub_zero]
  cases hc : (c && decide (out <= 115)) with
  | true => simp only [Bool.and_eq_true, decide_eq_true_eq] at hc; rw [cond_true]; exact Xu (hz (by omega)) (by omega)
  | false => rw [cond_false]; exact Xu (Jcg h3) (by omega)
theorem JuK {x n : Int} (h : 0 < n) : 1 <= mkK x n /\ mkK x n <= n /\ mkK x n <= 9 := by
 obtain ⟨m1, m2, m3⟩ := JpW h
 have h1 := Int.emod_nonneg (IntKind.i64.wrap (x.tdiv 7)) (show JK n 9 ≠ 0 by omega)
 have h2 := Int.emod_lt_of_pos (IntKind.i64.wrap (x.tdiv 7)) m1
 unfold mkK; omega
theorem JuL (x : Int) : 1 <= mkS x /\ mkS x <= 5 := by
 have h1 := Int.emod_nonneg (IntKind.i64.wrap (x.tdiv 7)) (show (5 : Int) ≠ 0 by omega)
 have h2 := Int.emod_lt_of_pos (IntKind.i64.wrap (x.tdiv 7)) (show (0 : Int) < 5 by omega)
 unfold mkS; omega
theorem GB (c : Bool) : ∀ (b : Nat) (n out : Int) (ns : List PV), 0 <= n -> n <= out -> out <= 120 -> MkOk n (out - n) (b + 2) (Jgq c b n out ns)
 | 0, n, out, _, h, h2, h3 => Xu (Jij c h h2 h3) (by omega)
 | b + 1, n, out, [], h, h2, h3 => Xu (Jij c h h2 h3) (by omega)
 | b + 1, n, out, p :: ps, h, h2, h3 => by
  simp only [Jgq]
  cases hn : decide (n > 0) with
  | false => rw [cond_false]; exact Xu (Jij c h h2 h3) (by omega)
  | true =>
   have hn := of_decide_eq_true hn
   obtain ⟨k1, k2, k3⟩ := JuK (x := p.int) hn
   obtain ⟨s1, s2⟩ := JuL p.int
   rw [cond_true]
   cases hc : (p.int % 4 == 0 || p.int % 4 == 1) with
   | true =>
    rw [cond_true]
    refine Xu (GA (GB c b (n - mkK p.int n) out ps (by omega) (by omega) h3) rfl (Jsd k1 (by omega)) (by show (0 : Nat) <= 10; omega) (by show mkK p.int n + _ = _; omega) (by show out - n + mkK p.int n = _; omega) (by show 0 <= mkK p.int n; omega)) (by omega)
   | false =>
    rw [cond_false]
    cases hc2 : (p.int % 4 == 2) with
    | true =>
     rw [cond_true]
     refine Xu (GA (GB c b (n - mkK p.int n) (out - mkK p.int n) ps (by omega) (by omega) (by omega)) rfl (Jzu k1 (by omega)) (by show (0 : Nat) <= 10; omega) (by show mkK p.int n + _ = _; omega) (by show out - n + (0 : Int) = _; omega) (by show 0 <= (0 : Int); omega)) (by omega)
    | false =>
     rw [cond_false]
     cases hc3 : decide (out + mkS p.int <= 120) with
     | false => rw [cond_false]; exact Xu (GB c b n out ps h h2 h3) (by omega)
     | true =>
      have hc3 := of_decide_eq_true hc3
      have hz := JkM (k := mkS p.int) (by omega) (by omega)
      rw [cond_true]
      refine Xu (GA (GB c b n (out + mkS p.int) ps (by omega) (by omega) hc3) rfl (Jse (by omega) (by omega)) (by show (Jii (mkS p.int)).size <= 10; omega) (by show (0 : Int) + n = n; omega) (by show out - n + ((Jii (mkS p.int)).size : Int) = _; omega) (by show 0 <= ((Jii (mkS p.int)).size : Int); omega)) (by omega)
theorem JmH {n : Int} (ns : List PV) (h : 0 <= n) (h2 : n <= 120) : MkOk n 0 14 (JdC ⟨n, ns⟩) := by
 rw [JmG]
 have := GB (mkC ns) 12 n n ns h (by omega) h2
 rwa [Int.sub_self] at this
theorem Jik : ∀ {l : List PV}, (∀ p ∈ l, ckC (cv p) = 0) -> ckL l = 0
 | [], _ => rfl
 | p :: r, h => by
  simp only [ckL]
  rw [h p List.mem_cons_self]
  exact Jik fun q hq => h q (List.mem_cons_of_mem _ hq)
theorem Jil {n d : Int} {l : List PV} (h : MkOk n d 14 l) : cBy l = true := by
 have := h.len
 exact ZV.2 ⟨List.all_eq_true.2 h.cp, fun p hp => by have := h.sz p hp; omega, by omega⟩
theorem Jim {n d : Int} {l : List PV} (h : MkOk n d 14 l) : (opB l).length <= 400 := by
 have h1 := Vt 10 l h.sz
 have h2 := h.len
 rw [G9, JhR, List.length_append]
 simp only [List.length_cons, List.length_nil]; omega
-- FN ref4.In | ref4.Out
theorem XS {c : CV} (h : ckC c = 0) : (c.kd = 1 ∨ c.kd = 3) /\ 1 <= c.n /\ c.n <= 120 /\ c.s.size = 0 ∨ c.kd = 2 /\ c.n = 0 /\ 1 <= c.s.size /\ c.s.size <= 120 := by
 rw [Y2] at h
 unfold JfL at h
 cases h1 : (c.kd == 1 || c.kd == 3) with
 | true =>
  rw [h1, cond_true] at h
  cases h2 : (decide (c.n < 1) || (decide (c.n > 120) || !(c.s.size == 0))) with
  | true => rw [h2, cond_true] at h; exact absurd h (by decide)
  | false =>
   simp only [Bool.or_eq_false_iff, decide_eq_false_iff_not, Bool.not_eq_false', beq_iff_eq] at h2
   simp only [Bool.or_eq_true, beq_iff_eq] at h1
   exact .inl ⟨h1, by omega, by omega, h2.2.2⟩
 | false =>
  rw [h1, cond_false] at h
  cases h3 : (c.kd == 2) with
  | false => rw [h3, cond_false] at h; exact absurd h (by decide)
  | true =>
   rw [h3, cond_true] at h
   cases h2 : (!(c.n == 0) || c.s.size == 0) with
   | true => rw [h2, cond_true] at h; exact absurd h (by decide)
   | false =>
    rw [h2, cond_false] at h
    cases h4 : decide (zi c.s.size > 120) with
    | true => rw [h4, cond_true] at h; exact absurd h (by decide)
    | false =>
     simp only [Bool.or_eq_false_iff, Bool.not_eq_false', beq_iff_eq, beq_eq_false_iff_ne] at h2
     simp only [zi, decide_eq_false_iff_not] at h4
     simp only [beq_iff_eq] at h3
     exact .inr ⟨h3, h2.1, by omega, by omega⟩
def aOk : List PV -> Bool := hid fun l => cOk l && ckO l == 0
theorem JdD : ∀ {l : List PV}, ckL l = 0 -> ∀ p ∈ l, ckC (cv p) = 0
 | [], _, p, hp => by cases hp
 | q :: r, h, p, hp => by
  simp only [ckL] at h
  cases hq : (ckC (cv q) == 0) with
  | false => rw [hq, cond_false] at h; rw [h] at hq; exact absurd hq (by decide)
  | true =>
   rw [hq, cond_true] at h
   rcases List.mem_cons.1 hp with rfl | hp
   · simpa using hq
   · exact JdD h p hp
theorem YB {l : List PV} : aOk l = true ↔ l.all isCp = true /\ l.length <= 40 /\ ∀ p ∈ l, ckC (cv p) = 0 := by
 rw [aOk, hid_eq, Bool.and_eq_true, beq_iff_eq, Wx]
 constructor
 · rintro ⟨⟨h1, h2⟩, h3⟩
   rw [GZ] at h3
   unfold Jhr at h3
   cases hc : decide (zi l.length > 40) with
   | true => rw [hc, cond_true] at h3; exact absurd h3 (by decide)
   | false =>
    rw [hc, cond_false] at h3
    simp only [zi, decide_eq_false_iff_not] at hc
    exact ⟨h1, by omega, JdD h3⟩
 · rintro ⟨h1, h2, h3⟩
   refine ⟨⟨h1, by omega⟩, ?_⟩
   rw [GZ]; unfold Jhr
   exact (Jj (decide_eq_false (by simp only [zi]; omega))).trans (Jik h3)
theorem JmI {l : List PV} (h : cOk l = true) (h2 : ckO l = 0) : aOk l = true := by rw [aOk, hid_eq, h, h2]; rfl
theorem Jch {l : List PV} (h : aOk l = true) {i : Nat} (hi : i < l.length) : isCp (l.getD i .top) = true /\ ckC (cv (l.getD i .top)) = 0 := by
 obtain ⟨h1, _, h3⟩ := YB.1 h
 refine ⟨WW h1 hi, ?_⟩
 rw [List.getD_eq_getElem?_getD, List.getElem?_eq_getElem hi]
 exact h3 _ (List.getElem_mem hi)
def JeO (p : PV) : Bool := PV.isSt 113 #[Field.mk "Kind" 3 0 false "" "" 0, Field.mk "N" 3 1 false "" "" 8, Field.mk "S" 9 2 false "" "" 16].size p && (PV.isInt IntKind.i64 (PV.child 0 p) && (PV.isInt IntKind.i64 (PV.child (0 + 1) p) && ((PV.child (0 + 1 + 1) p).isStr && true)))
theorem Jsf {l : List PV} (h : l.all isCp = true) {i : Nat} (hi : i < l.length) : (decide (0 <= (i : Int)) && decide ((i : Int) < zi l.length) && JeO (l.getD i .top) && true) = true := by
 have hq : JeO (l.getD i .top) = true := XP (WW h hi)
 rw [hq]; simp [zi]; omega
theorem JeP {c : CV} (h : ckC c = 0) : 0 <= inC c /\ inC c <= 120 := by
 unfold inC
 rcases XS h with ⟨h1, h2, h3, h4⟩ | ⟨h1, h2, h3, h4⟩
 · rw [show (c.kd == 2) = false from beq_false_of_ne (by omega), cond_false]; omega
 · rw [h1]; show 0 <= (0 : Int) /\ (0 : Int) <= 120; decide
theorem Jbf {c : CV} (h : ckC c = 0) : 0 <= Q2 c /\ Q2 c <= 120 := by
 unfold Q2
 rcases XS h with ⟨h1, h2, h3, h4⟩ | ⟨h1, h2, h3, h4⟩
 · cases hc : (c.kd == 1) with
   | true => rw [cond_true]; omega
   | false => rw [cond_false]; omega
 · rw [h1]; show 0 <= (c.s.size : Int) /\ (c.s.size : Int) <= 120; omega

end
end Go.Proofs.Ythpmachmnoljeaa.Rx
