/- What the functions of this law compute, and their plain laws. Conditions: none. -/
import Derived.KernelRfl
import Derived.Test.YtcklhipdldpkhaaSignChainP3
namespace Go.Proofs.Ytcklhipdldpkhaa.Rx
open Go
set_option linter.unusedVariables false
set_option linter.unusedSimpArgs false
set_option maxRecDepth 100000
set_option maxHeartbeats 0
def Jbn : Nat := 62
noncomputable def JkO : Fns := JG 144 Jpr (JG 143 Jpi (JG 135 Jjv (JG 133 JpR (JG 132 JpQ (JG 78 s78 (JG 76 s76 (F0)))))))
theorem JhX : Jz tau Try.prog JkO := (((((((JH).add Jsn Jsm).add Jtc Jtb).add JnM JnL).add JnQ JnP).add Jjw JnT).add JrE JvW).add JrG Jwb
noncomputable def Gh : Code := QA (Try.f103.body.get!) [1, 1, 1, 0, 1, 0, 0]
def WB : Nm := [(2, .any), (4, .any), (5, .any), (21, .any)]
def W9 : Nm := [(2, .any), (4, .any), (5, .any)]
def Ja4 : An := (.seq .leaf (.seq (.cond .leaf .leaf) (.seq (.block none (.seq .leaf .leaf)) .leaf)))
def JhY (r0 : Wg) : An := (.seq .leaf (.seq .leaf (.seq .leaf (.seq (.seq .leaf (.block none (.sum WB Jbn r0))) (.seq .leaf (.seq .leaf (.seq .leaf (.seq .leaf (.seq (.seq .leaf (.cond .leaf .leaf)) (.seq (.seq .leaf (.cond .leaf .leaf)) (.seq (.seq .leaf (.cond (.seq .leaf .leaf) .leaf)) (.seq .leaf .leaf))))))))))))
noncomputable def Y8 (f : Nat) (rc : Int → Int → Int → Int → Int → List PV → Int → List PV → Int → Int → Bool → Bool → List PV → Int → Int → Int → Int → Int → List PV → Int → List PV → Int → Int → Option Res) (k0 : Int → Int → Int → Int → List PV → Int → List PV → Int → Int → Bool → Bool → List PV → Int → Int → Int → Int → Int → List PV → Int → List PV → Int → Int → Option Res) (v0 : Int) (v1 : Int) (v2 : Int) (v3 : Int) (v4 : Int) (v5 : List PV) (v6 : Int) (v7 : List PV) (v8 : Int) (v9 : Int) (v10 : Bool) (v11 : Bool) (v12 : List PV) (v13 : Int) (v14 : Int) (v15 : Int) (v16 : Int) (v17 : Int) (v18 : List PV) (v19 : Int) (v20 : List PV) (v21 : Int) (v22 : Int) : Option Res := bif decide (v0 < 32) then bif (!v10 || v11) && true && byB v12 then bif decide (0 ≤ v0) && decide (v0 < zi 32) && true then rc (IntKind.i64.wrap (v0 + 1)) v1 v2 v3 v4 v5 v6 v7 v8 v9 v10 v11 ((Ja 1 (RS.mk v12 v13)).b) ((Ja 1 (RS.mk v12 v13)).e) v14 v15 v16 v17 (v18.set v0.toNat (.sc (.int .u8 (IntKind.u8.wrap (JA 1 (RS.mk v12 v13)))))) v19 v20 v21 v22 else none else none else k0 v1 v2 v3 v4 v5 v6 v7 v8 v9 v10 v11 v12 v13 v14 v15 v16 v17 v18 v19 v20 v21 v22
noncomputable def X9 (f : Nat) (k0 : Int → Int → Int → Int → List
  PV → Int → List
  PV → Int → Int → Bool → Bool → List
  PV → Int → Int → Int → Int → Int → List
  PV → Int → List
  PV → Int → Int → Option Res) : Nat → Int → Int → Int → Int → Int → List
  PV → Int → List PV → Int → Int → Bool → Bool → List PV → Int → Int → Int → Int → Int → List PV → Int → List PV → Int → Int → Option Res
  | 0, _, _, _, _, _, _, _, _, _, _, _, _, _, _, _, _, _, _, _, _, _, _, _ => none
  | n + 1, v0, v1, v2, v3, v4, v5, v6, v7, v8, v9, v10, v11, v12, v13, v14, v15, v16, v17, v18, v19, v20, v21, v22 => Y8 f (X9 f k0 n) k0 v0 v1 v2 v3 v4 v5 v6 v7 v8 v9 v10 v11 v12 v13 v14 v15 v16 v17 v18 v19 v20 v21 v22
theorem JkP (f : Nat) (k : Kont) (n : Nat) (v0 : Int) (v1 : Int) (v2 : Int) (v3 : Int) (v4 : Int) (v5 : List PV) (v6 : Int) (v7 : List PV) (v8 : Int) (v9 : Int) (v10 : Bool) (v11 : Bool) (v12 : List PV) (v13 : Int) (v14 : Int) (v15 : Int) (v16 : Int) (v17 : Int) (v18 : List PV) (v19 : Int) (v20 : List PV) (v21 : Int) (v22 : Int) : Jo tau 0 WB (fun s k => ev tau JkO 0 0 Gh (Ja4 ) s k) (n + 1) (Jd WB Jbn [.ptr 1008 [], .ptr 1009 [], .ptr 1010 [], .sc (.int .i64 v0)] [(1008, .box false 73 (PV.st 73 [.st 45 [.sc (.int .i64 v1), .sc (.int .i64 v2)], .sc (.int .i64 v3), .sc (.int .i64 v4), .ar 37 v5, .sc (.int .i64 v6), .ro 99 true true v7, .st 45 [.sc (.int .i64 v8), .sc (.int .i64 v9)]])), (1009, .box false 186 (PV.st 186 [.ro 5 v10 v11 v12, .sc (.int .i64 v13)])), (1010, .box false 73 (PV.st 73 [.st 45 [.sc (.int .i64 v14), .sc (.int .i64 v15)], .sc (.int .i64 v16), .sc (.int .i64 v17), .ar 37 v18, .sc (.int .i64 v19), .ro 99 true true v20, .st 45 [.sc (.int .i64 v21), .sc (.int .i64 v22)]]))]) (Jy tau 0 W9 k) = Y8 f (fun v0 v1 v2 v3 v4 v5 v6 v7 v8 v9 v10 v11 v12 v13 v14 v15 v16 v17 v18 v19 v20 v21 v22 => Jo tau 0 WB (fun s k => ev tau JkO 0 0 Gh (Ja4 ) s k) n (Jd WB Jbn [.ptr 1008 [], .ptr 1009 [], .ptr 1010 [], .sc (.int .i64 v0)] [(1008, .box false 73 (PV.st 73 [.st 45 [.sc (.int .i64 v1), .sc (.int .i64 v2)], .sc (.int .i64 v3), .sc (.int .i64 v4), .ar 37 v5, .sc (.int .i64 v6), .ro 99 true true v7, .st 45 [.sc (.int .i64 v8), .sc (.int .i64 v9)]])), (1009, .box false 186 (PV.st 186 [.ro 5 v10 v11 v12, .sc (.int .i64 v13)])), (1010, .box false 73 (PV.st 73 [.st 45 [.sc (.int .i64 v14), .sc (.int .i64 v15)], .sc (.int .i64 v16), .sc (.int .i64 v17), .ar 37 v18, .sc (.int .i64 v19), .ro 99 true true v20, .st 45 [.sc (.int .i64 v21), .sc (.int .i64 v22)]]))]) (Jy tau 0 W9 k)) (fun x0 x1 x2 x3 x4 x5 x6 x7 x8 x9 x10 x11 x12 x13 x14 x15 x16 x17 x18 x19 x20 x21 => k (Ex.exit 0) (Jd W9 Jbn [.ptr 1008 [], .ptr 1009 [], .ptr 1010 []] [(1008, .box false 73 (PV.st 73 [.st 45 [.sc (.int .i64 x0), .sc (.int .i64 x1)], .sc (.int .i64 x2), .sc (.int .i64 x3), .ar 37 x4, .sc (.int .i64 x5), .ro 99 true true x6, .st 45 [.sc (.int .i64 x7), .sc (.int .i64 x8)]])), (1009, .box false 186 (PV.st 186 [.ro 5 x9 x10 x11, .sc (.int .i64 x12)])), (1010, .box false 73 (PV.st 73 [.st 45 [.sc (.int .i64 x13), .sc (.int .i64 x14)], .sc (.int .i64 x15), .sc (.int .i64 x16), .ar 37 x17, .sc (.int .i64 x18), .ro 99 true true x19, .st 45 [.sc (.int .i64 x20), .sc (.int .i64 x21)]]))])) v0 v1 v2 v3 v4 v5 v6 v7 v8 v9 v10 v11 v12 v13 v14 v15 v16 v17 v18 v19 v20 v21 v22 := by kernel_rfl
theorem JeO (f : Nat) (k : Kont) : ∀ (n : Nat) (v0 : Int) (v1 : Int) (v2 : Int) (v3 : Int) (v4 : Int) (v5 : List PV) (v6 : Int) (v7 : List PV) (v8 : Int) (v9 : Int) (v10 : Bool) (v11 : Bool) (v12 : List PV) (v13 : Int) (v14 : Int) (v15 : Int) (v16 : Int) (v17 : Int) (v18 : List PV) (v19 : Int) (v20 : List PV) (v21 : Int) (v22 : Int), Jo tau 0 WB (fun s k => ev tau JkO 0 0 Gh (Ja4 ) s k) n (Jd WB Jbn [.ptr 1008 [], .ptr 1009 [], .ptr 1010 [], .sc (.int .i64 v0)] [(1008, .box false 73 (PV.st 73 [.st 45 [.sc (.int .i64 v1), .sc (.int .i64 v2)], .sc (.int .i64 v3), .sc (.int .i64 v4), .ar 37 v5, .sc (.int .i64 v6), .ro 99 true true v7, .st 45 [.sc (.int .i64 v8), .sc (.int .i64 v9)]])), (1009, .box false 186 (PV.st 186 [.ro 5 v10 v11 v12, .sc (.int .i64 v13)])), (1010, .box false 73 (PV.st 73 [.st 45 [.sc (.int .i64 v14), .sc (.int .i64 v15)], .sc (.int .i64 v16), .sc (.int .i64 v17), .ar 37 v18, .sc (.int .i64 v19), .ro 99 true true v20, .st 45 [.sc (.int .i64 v21), .sc (.int .i64 v22)]]))]) (Jy tau 0 W9 k) = X9 f (fun x0 x1 x2 x3 x4 x5 x6 x7 x8 x9 x10 x11 x12 x13 x14 x15 x16 x17 x18 x19 x20 x21 => k (Ex.exit 0) (Jd W9 Jbn [.ptr 1008 [], .ptr 1009 [], .ptr 1010 []] [(1008, .box false 73 (PV.st 73 [.st 45 [.sc (.int .i64 x0), .sc (.int .i64 x1)], .sc (.int .i64 x2), .sc (.int .i64 x3), .ar 37 x4, .sc (.int .i64 x5), .ro 99 true true x6, .st 45 [.sc (.int .i64 x7), .sc (.int .i64 x8)]])), (1009, .box false 186 (PV.st 186 [.ro 5 x9 x10 x11, .sc (.int .i64 x12)])), (1010, .box false 73 (PV.st 73 [.st 45 [.sc (.int .i64 x13), .sc (.int .i64 x14)], .sc (.int .i64 x15), .sc (.int .i64 x16), .ar 37 x17, .sc (.int .i64 x18), .ro 99 true true x19, .st 45 [.sc (.int .i64 x20), .sc (.int .i64 x21)]]))])) n v0 v1 v2 v3 v4 v5 v6 v7 v8 v9 v10 v11 v12 v13 v14 v15 v16 v17 v18 v19 v20 v21 v22 | 0, _, _, _, _, _, _, _, _, _, _, _, _, _, _, _, _, _, _, _, _, _, _, _ => rfl | n + 1, v0, v1, v2, v3, v4, v5, v6, v7, v8, v9, v10, v11, v12, v13, v14, v15, v16, v17, v18, v19, v20, v21, v22 => (JkP f k n v0 v1 v2 v3 v4 v5 v6 v7 v8 v9 v10 v11 v12 v13 v14 v15 v16 v17 v18 v19 v20 v21 v22).trans (congrArg (fun r => Y8 f r (fun x0 x1 x2 x3 x4 x5 x6 x7 x8 x9 x10 x11 x12 x13 x14 x15 x16 x17 x18 x19 x20 x21 => k (Ex.exit 0) (Jd W9 Jbn [.ptr 1008 [], .ptr 1009 [], .ptr 1010 []] [(1008, .box false 73 (PV.st 73 [.st 45 [.sc (.int .i64 x0), .sc (.int .i64 x1)], .sc (.int .i64 x2), .sc (.int .i64 x3), .ar 37 x4, .sc (.int .i64 x5), .ro 99 true true x6, .st 45 [.sc (.int .i64 x7), .sc (.int .i64 x8)]])), (1009, .box false 186 (PV.st 186 [.ro 5 x9 x10 x11, .sc (.int .i64 x12)])), (1010, .box false 73 (PV.st 73 [.st 45 [.sc (.int .i64 x13), .sc (.int .i64 x14)], .sc (.int .i64 x15), .sc (.int .i64 x16), .ar 37 x17, .sc (.int .i64 x18), .ro 99 true true x19, .st 45 [.sc (.int .i64 x20), .sc (.int .i64 x21)]]))])) v0 v1 v2 v3 v4 v5 v6 v7 v8 v9 v10 v11 v12 v13 v14 v15 v16 v17 v18 v19 v20 v21 v22) (by funext v0 v1 v2 v3 v4 v5 v6 v7 v8 v9 v10 v11 v12 v13 v14 v15 v16 v17 v18 v19 v20 v21 v22; exact JeO f k n v0 v1 v2 v3 v4 v5 v6 v7 v8 v9 v10 v11 v12 v13 v14 v15 v16 v17 v18 v19 v20 v21 v22))
noncomputable def Z3 (f : Nat) : List PV → List (Nat × Ent) → Kont → Option Res
  | [.ptr 1008 [], .ptr 1009 [], .ptr 1010 [],
  PV.sc
    (Value.int IntKind.i64
      v0)], [(1008,
    Ent.box false 73
      (PV.st 73
        [.st 45 [.sc (.int .i64 v1), .sc (.int .i64 v2)], .sc (.int .i64 v3), .sc (.int .i64 v4), .ar 37 v5,
          .sc (.int .i64 v6), .ro 99 true true v7, .st 45 [.sc (.int .i64 v8), .sc (.int .i64 v9)]])),
  (1009, .box false 186 (PV.st 186 [.ro 5 v10 v11 v12, .sc (.int .i64 v13)])),
  (1010,
    Ent.box false 73
      (PV.st 73
        [.st 45 [.sc (.int .i64 v14), .sc (.int .i64 v15)], .sc (.int .i64 v16), .sc (.int .i64 v17), .ar 37 v18,
          .sc (.int .i64 v19), .ro 99 true true v20,
          PV.st 45
            [.sc (.int .i64 v21),
              PV.sc
                (Value.int IntKind.i64
                  v22)]]))], k => X9 f (fun x0 x1 x2 x3 x4 x5 x6 x7 x8 x9 x10 x11 x12 x13 x14 x15 x16 x17 x18 x19 x20 x21 => k (Ex.exit
  0) (Jd W9 Jbn [.ptr 1008 [], .ptr 1009 [],
  PV.ptr 1010
    []] [(1008,
    Ent.box false 73
      (PV.st 73
        [.st 45 [.sc (.int .i64 x0), .sc (.int .i64 x1)], .sc (.int .i64 x2), .sc (.int .i64 x3), .ar 37 x4,
          .sc (.int .i64 x5), .ro 99 true true x6, .st 45 [.sc (.int .i64 x7), .sc (.int .i64 x8)]])),
  (1009, .box false 186 (PV.st 186 [.ro 5 x9 x10 x11, .sc (.int .i64 x12)])),
  (1010,
    Ent.box false 73
      (PV.st 73
        [.st 45 [.sc (.int .i64 x13), .sc (.int .i64 x14)], .sc (.int .i64 x15), .sc (.int .i64 x16), .ar 37 x17,
          .sc (.int .i64 x18), .ro 99 true true x19,
          PV.st 45 [.sc (.int .i64 x20), .sc (.int .i64 x21)]]))])) f v0 v1 v2 v3 v4 v5 v6 v7 v8 v9 v10 v11 v12 v13 v14 v15 v16 v17 v18 v19 v20 v21 v22
  | _, _, _ => none
theorem Jnf (f : Nat) : Jg Gh Ja4 = [] := by kernel_rfl
theorem JrH (f : Nat) : (Item.l Gh WB Jbn (Z3 f)).Ok tau Try.prog 0 := JJ Jr JhX Js (x := Ja4) (nm2 := W9) (Jp _ _ (by rw [Jnf f]; intro q hq; cases hq)) fun vs hp k res hr => by
  unfold Z3 at hr
  split at hr
  · exact ⟨f, 0, (JeO f _ f _ _ _ _ _ _ _ _ _ _ _ _ _ _ _ _ _ _ _ _ _ _ _ ).trans hr⟩
  · cases hr
noncomputable def JrI (f : Nat) (b_z : Bool) (b_f : Bool) (b : List PV) (k : Res → Option Res) : Option Res := bif slB b_z b then bif (!b_z || b_z) && true && byB b then bif (!b_z || b_z) && true && byB (Ja 8 (RS.mk b 0)).b then bif (!b_z || b_z) && true && byB (Ja 8 (Ja 8 (RS.mk b 0))).b then bif (!b_z || b_z) && true && byB (Ja 8 (Ja 8 (Ja 8 (RS.mk b 0)))).b then X9 f (fun x0_0 x1_0 x2_0 x3_0 x4_0 x5_0 x6_0 x7_0 x8_0 x9_0 x10_0 x11_0 x12_0 x13_0 x14_0 x15_0 x16_0 x17_0 x18_0 x19_0 x20_0 x21_0 => bif (!x9_0 || x10_0) && true && byB x11_0 then bif (!x9_0 || x10_0) && byB (Ja 1 (RS.mk x11_0 x12_0)).b then bif (!x9_0 || x10_0) && true && byB (J2 (Ja 1 (RS.mk x11_0 x12_0))).b then bif (!x9_0 || x10_0) && true && byB (Ja 8 (J2 (Ja 1 (RS.mk x11_0 x12_0)))).b then bif (Ja 8 (Ja 8 (J2 (Ja 1 (RS.mk x11_0 x12_0))))).e == 0 then bif decide (zi (Ja 8 (Ja 8 (J2 (Ja 1 (RS.mk x11_0 x12_0))))).b.length > 0) then k (Res.mk (.tup [.st 73 [.st 45 [.sc (.int .i64 0), .sc (.int .i64 0)], .sc (.int .i64 0), .sc (.int .i64 0), .ar 37 [.sc (.int .u8 0), .sc (.int .u8 0), .sc (.int .u8 0), .sc (.int .u8 0), .sc (.int .u8 0), .sc (.int .u8 0), .sc (.int .u8 0), .sc (.int .u8 0), .sc (.int .u8 0), .sc (.int .u8 0), .sc (.int .u8 0), .sc (.int .u8 0), .sc (.int .u8 0), .sc (.int .u8 0), .sc (.int .u8 0), .sc (.int .u8 0), .sc (.int .u8 0), .sc (.int .u8 0), .sc (.int .u8 0), .sc (.int .u8 0), .sc (.int .u8 0), .sc (.int .u8 0), .sc (.int .u8 0), .sc (.int .u8 0), .sc (.int .u8 0), .sc (.int .u8 0), .sc (.int .u8 0), .sc (.int .u8 0), .sc (.int .u8 0), .sc (.int .u8 0), .sc (.int .u8 0), .sc (.int .u8 0)], .sc (.int .i64 0), .ro 99 true true [], .st 45 [.sc (.int .i64 0), .sc (.int .i64 0)]], .sc (.int .i64 9)]) [] []) else bif (Ja 8 (Ja 8 (J2 (Ja 1 (RS.mk x11_0 x12_0))))).e == 0 then bif Jj (JQ (Ja 1 (RS.mk x11_0 x12_0))).size 1 && true then bif slB (Ent.vec false 5 false (Jn (JQ (Ja 1 (RS.mk x11_0 x12_0))))).nil (List.take (JQ (Ja 1 (RS.mk x11_0 x12_0))).size (List.drop 0 (Jn (JQ (Ja 1 (RS.mk x11_0 x12_0)))))) && byB (List.take (JQ (Ja 1 (RS.mk x11_0 x12_0))).size (Jn (JQ (Ja 1 (RS.mk x11_0 x12_0))))) then bif opE (List.take (JQ (Ja 1 (RS.mk x11_0 x12_0))).size (Jn (JQ (Ja 1 (RS.mk x11_0 x12_0))))) == 0 then bif cOk (opL (List.take (JQ (Ja 1 (RS.mk x11_0 x12_0))).size (Jn (JQ (Ja 1 (RS.mk x11_0 x12_0)))))) then bif dCk (DV.mk x13_0 x14_0 x15_0 x16_0 x17_0 (JA 1 (RS.mk x11_0 x12_0)) (opL (List.take (JQ (Ja 1 (RS.mk x11_0 x12_0))).size (Jn (JQ (Ja 1 (RS.mk x11_0 x12_0)))))) (JA 8 (J2 (Ja 1 (RS.mk x11_0 x12_0)))) (JA 8 (Ja 8 (J2 (Ja 1 (RS.mk x11_0 x12_0)))))) != 0 then k (Res.mk (.tup [.st 73 [.st 45 [.sc (.int .i64 0), .sc (.int .i64 0)], .sc (.int .i64 0), .sc (.int .i64 0), .ar 37 [.sc (.int .u8 0), .sc (.int .u8 0), .sc (.int .u8 0), .sc (.int .u8 0), .sc (.int .u8 0), .sc (.int .u8 0), .sc (.int .u8 0), .sc (.int .u8 0), .sc (.int .u8 0), .sc (.int .u8 0), .sc (.int .u8 0), .sc (.int .u8 0), .sc (.int .u8 0), .sc (.int .u8 0), .sc (.int .u8 0), .sc (.int .u8 0), .sc (.int .u8 0), .sc (.int .u8 0), .sc (.int .u8 0), .sc (.int .u8 0), .sc (.int .u8 0), .sc (.int .u8 0), .sc (.int .u8 0), .sc (.int .u8 0), .sc (.int .u8 0), .sc (.int .u8 0), .sc (.int .u8 0), .sc (.int .u8 0), .sc (.int .u8 0), .sc (.int .u8 0), .sc (.int .u8 0), .sc (.int .u8 0)], .sc (.int .i64 0), .ro 99 true true [], .st 45 [.sc (.int .i64 0), .sc (.int .i64 0)]], .sc (.int .i64 (dCk (DV.mk x13_0 x14_0 x15_0 x16_0 x17_0 (JA 1 (RS.mk x11_0 x12_0)) (opL (List.take (JQ (Ja 1 (RS.mk x11_0 x12_0))).size (Jn (JQ (Ja 1 (RS.mk x11_0 x12_0)))))) (JA 8 (J2 (Ja 1 (RS.mk x11_0 x12_0)))) (JA 8 (Ja 8 (J2 (Ja 1 (RS.mk x11_0 x12_0))))))))]) [] []) else k (Res.mk (.tup [.st 73 [.st 45 [.sc (.int .i64 x13_0), .sc (.int .i64 x14_0)], .sc (.int .i64 x15_0), .sc (.int .i64 x16_0), .ar 37 x17_0, .sc (.int .i64 (JA 1 (RS.mk x11_0 x12_0))), .ro 99 (opL (List.take (JQ (Ja 1 (RS.mk x11_0 x12_0))).size (Jn (JQ (Ja 1 (RS.mk x11_0 x12_0)))))).isEmpty (opL (List.take (JQ (Ja 1 (RS.mk x11_0 x12_0))).size (Jn (JQ (Ja 1 (RS.mk x11_0 x12_0)))))).isEmpty (opL (List.take (JQ (Ja 1 (RS.mk x11_0 x12_0))).size (Jn (JQ (Ja 1 (RS.mk x11_0 x12_0)))))), .st 45 [.sc (.int .i64 (JA 8 (J2 (Ja 1 (RS.mk x11_0 x12_0))))), .sc (.int .i64 (JA 8 (Ja 8 (J2 (Ja 1 (RS.mk x11_0 x12_0))))))]], .sc (.int .i64 0)]) [] []) else none else bif opE (List.take (JQ (Ja 1 (RS.mk x11_0 x12_0))).size (Jn (JQ (Ja 1 (RS.mk x11_0 x12_0))))) != 0 then k (Res.mk (.tup [.st 73 [.st 45 [.sc (.int .i64 0), .sc (.int .i64 0)], .sc (.int .i64 0), .sc (.int .i64 0), .ar 37 [.sc (.int .u8 0), .sc (.int .u8 0), .sc (.int .u8 0), .sc (.int .u8 0), .sc (.int .u8 0), .sc (.int .u8 0), .sc (.int .u8 0), .sc (.int .u8 0), .sc (.int .u8 0), .sc (.int .u8 0), .sc (.int .u8 0), .sc (.int .u8 0), .sc (.int .u8 0), .sc (.int .u8 0), .sc (.int .u8 0), .sc (.int .u8 0), .sc (.int .u8 0), .sc (.int .u8 0), .sc (.int .u8 0), .sc (.int .u8 0), .sc (.int .u8 0), .sc (.int .u8 0), .sc (.int .u8 0), .sc (.int .u8 0), .sc (.int .u8 0), .sc (.int .u8 0), .sc (.int .u8 0), .sc (.int .u8 0), .sc (.int .u8 0), .sc (.int .u8 0), .sc (.int .u8 0), .sc (.int .u8 0)], .sc (.int .i64 0), .ro 99 true true [], .st 45 [.sc (.int .i64 0), .sc (.int .i64 0)]], .sc (.int .i64 (opE (List.take (JQ (Ja 1 (RS.mk x11_0 x12_0))).size (Jn (JQ (Ja 1 (RS.mk x11_0 x12_0)))))))]) [] []) else k (Res.mk (.tup [.st 73 [.st 45 [.sc (.int .i64 x13_0), .sc (.int .i64 x14_0)], .sc (.int .i64 x15_0), .sc (.int .i64 x16_0), .ar 37 x17_0, .sc (.int .i64 (JA 1 (RS.mk x11_0 x12_0))), .ro 99 (opL (List.take (JQ (Ja 1 (RS.mk x11_0 x12_0))).size (Jn (JQ (Ja 1 (RS.mk x11_0 x12_0)))))).isEmpty (opL (List.take (JQ (Ja 1 (RS.mk x11_0 x12_0))).size (Jn (JQ (Ja 1 (RS.mk x11_0 x12_0)))))).isEmpty (opL (List.take (JQ (Ja 1 (RS.mk x11_0 x12_0))).size (Jn (JQ (Ja 1 (RS.mk x11_0 x12_0)))))), .st 45 [.sc (.int .i64 (JA 8 (J2 (Ja 1 (RS.mk x11_0 x12_0))))), .sc (.int .i64 (JA 8 (Ja 8 (J2 (Ja 1 (RS.mk x11_0 x12_0))))))]], .sc (.int .i64 0)]) [] []) else none else none else bif (Ja 8 (Ja 8 (J2 (Ja 1 (RS.mk x11_0 x12_0))))).e == 0 then bif cOk x19_0 then bif dCk (DV.mk x13_0 x14_0 x15_0 x16_0 x17_0 (JA 1 (RS.mk x11_0 x12_0)) x19_0 (JA 8 (J2 (Ja 1 (RS.mk x11_0 x12_0)))) (JA 8 (Ja 8 (J2 (Ja 1 (RS.mk x11_0 x12_0)))))) != 0 then k (Res.mk (.tup [.st 73 [.st 45 [.sc (.int .i64 0), .sc (.int .i64 0)], .sc (.int .i64 0), .sc (.int .i64 0), .ar 37 [.sc (.int .u8 0), .sc (.int .u8 0), .sc (.int .u8 0), .sc (.int .u8 0), .sc (.int .u8 0), .sc (.int .u8 0), .sc (.int .u8 0), .sc (.int .u8 0), .sc (.int .u8 0), .sc (.int .u8 0), .sc (.int .u8 0), .sc (.int .u8 0), .sc (.int .u8 0), .sc (.int .u8 0), .sc (.int .u8 0), .sc (.int .u8 0), .sc (.int .u8 0), .sc (.int .u8 0), .sc (.int .u8 0), .sc (.int .u8 0), .sc (.int .u8 0), .sc (.int .u8 0), .sc (.int .u8 0), .sc (.int .u8 0), .sc (.int .u8 0), .sc (.int .u8 0), .sc (.int .u8 0), .sc (.int .u8 0), .sc (.int .u8 0), .sc (.int .u8 0), .sc (.int .u8 0), .sc (.int .u8 0)], .sc (.int .i64 0), .ro 99 true true [], .st 45 [.sc (.int .i64 0), .sc (.int .i64 0)]], .sc (.int .i64 (dCk (DV.mk x13_0 x14_0 x15_0 x16_0 x17_0 (JA 1 (RS.mk x11_0 x12_0)) x19_0 (JA 8 (J2 (Ja 1 (RS.mk x11_0 x12_0)))) (JA 8 (Ja 8 (J2 (Ja 1 (RS.mk x11_0 x12_0))))))))]) [] []) else k (Res.mk (.tup [.st 73 [.st 45 [.sc (.int .i64 x13_0), .sc (.int .i64 x14_0)], .sc (.int .i64 x15_0), .sc (.int .i64 x16_0), .ar 37 x17_0, .sc (.int .i64 (JA 1 (RS.mk x11_0 x12_0))), .ro 99 true true x19_0, .st 45 [.sc (.int .i64 (JA 8 (J2 (Ja 1 (RS.mk x11_0 x12_0))))), .sc (.int .i64 (JA 8 (Ja 8 (J2 (Ja 1 (RS.mk x11_0 x12_0))))))]], .sc (.int .i64 0)]) [] []) else none else bif (Ja 8 (Ja 8 (J2 (Ja 1 (RS.mk x11_0 x12_0))))).e != 0 then k (Res.mk (.tup [.st 73 [.st 45 [.sc (.int .i64 0), .sc (.int .i64 0)], .sc (.int .i64 0), .sc (.int .i64 0), .ar 37 [.sc (.int .u8 0), .sc (.int .u8 0), .sc (.int .u8 0), .sc (.int .u8 0), .sc (.int .u8 0), .sc (.int .u8 0), .sc (.int .u8 0), .sc (.int .u8 0), .sc (.int .u8 0), .sc (.int .u8 0), .sc (.int .u8 0), .sc (.int .u8 0), .sc (.int .u8 0), .sc (.int .u8 0), .sc (.int .u8 0), .sc (.int .u8 0), .sc (.int .u8 0), .sc (.int .u8 0), .sc (.int .u8 0), .sc (.int .u8 0), .sc (.int .u8 0), .sc (.int .u8 0), .sc (.int .u8 0), .sc (.int .u8 0), .sc (.int .u8 0), .sc (.int .u8 0), .sc (.int .u8 0), .sc (.int .u8 0), .sc (.int .u8 0), .sc (.int .u8 0), .sc (.int .u8 0), .sc (.int .u8 0)], .sc (.int .i64 0), .ro 99 true true [], .st 45 [.sc (.int .i64 0), .sc (.int .i64 0)]], .sc (.int .i64 (Ja 8 (Ja 8 (J2 (Ja 1 (RS.mk x11_0 x12_0))))).e)]) [] []) else k (Res.mk (.tup [.st 73 [.st 45 [.sc (.int .i64 x13_0), .sc (.int .i64 x14_0)], .sc (.int .i64 x15_0), .sc (.int .i64 x16_0), .ar 37 x17_0, .sc (.int .i64 (JA 1 (RS.mk x11_0 x12_0))), .ro 99 true true x19_0, .st 45 [.sc (.int .i64 (JA 8 (J2 (Ja 1 (RS.mk x11_0 x12_0))))), .sc (.int .i64 (JA 8 (Ja 8 (J2 (Ja 1 (RS.mk x11_0 x12_0))))))]], .sc (.int .i64 0)]) [] []) else bif (Ja 8 (Ja 8 (J2 (Ja 1 (RS.mk x11_0 x12_0))))).e == 0 then bif Jj (JQ (Ja 1 (RS.mk x11_0 x12_0))).size 1 && true then bif slB (Ent.vec false 5 false (Jn (JQ (Ja 1 (RS.mk x11_0 x12_0))))).nil (List.take (JQ (Ja 1 (RS.mk x11_0 x12_0))).size (List.drop 0 (Jn (JQ (Ja 1 (RS.mk x11_0 x12_0)))))) && byB (List.take (JQ (Ja 1 (RS.mk x11_0 x12_0))).size (Jn (JQ (Ja 1 (RS.mk x11_0 x12_0))))) then bif opE (List.take (JQ (Ja 1 (RS.mk x11_0 x12_0))).size (Jn (JQ (Ja 1 (RS.mk x11_0 x12_0))))) == 0 then bif cOk (opL (List.take (JQ (Ja 1 (RS.mk x11_0 x12_0))).size (Jn (JQ (Ja 1 (RS.mk x11_0 x12_0)))))) then bif dCk (DV.mk x13_0 x14_0 x15_0 x16_0 x17_0 (JA 1 (RS.mk x11_0 x12_0)) (opL (List.take (JQ (Ja 1 (RS.mk x11_0 x12_0))).size (Jn (JQ (Ja 1 (RS.mk x11_0 x12_0)))))) (JA 8 (J2 (Ja 1 (RS.mk x11_0 x12_0)))) (JA 8 (Ja 8 (J2 (Ja 1 (RS.mk x11_0 x12_0)))))) != 0 then k (Res.mk (.tup [.st 73 [.st 45 [.sc (.int .i64 0), .sc (.int .i64 0)], .sc (.int .i64 0), .sc (.int .i64 0), .ar 37 [.sc (.int .u8 0), .sc (.int .u8 0), .sc (.int .u8 0), .sc (.int .u8 0), .sc (.int .u8 0), .sc (.int .u8 0), .sc (.int .u8 0), .sc (.int .u8 0), .sc (.int .u8 0), .sc (.int .u8 0), .sc (.int .u8 0), .sc (.int .u8 0), .sc (.int .u8 0), .sc (.int .u8 0), .sc (.int .u8 0), .sc (.int .u8 0), .sc (.int .u8 0), .sc (.int .u8 0), .sc (.int .u8 0), .sc (.int .u8 0), .sc (.int .u8 0), .sc (.int .u8 0), .sc (.int .u8 0), .sc (.int .u8 0), .sc (.int .u8 0), .sc (.int .u8 0), .sc (.int .u8 0), .sc (.int .u8 0), .sc (.int .u8 0), .sc (.int .u8 0), .sc (.int .u8 0), .sc (.int .u8 0)], .sc (.int .i64 0), .ro 99 true true [], .st 45 [.sc (.int .i64 0), .sc (.int .i64 0)]], .sc (.int .i64 (dCk (DV.mk x13_0 x14_0 x15_0 x16_0 x17_0 (JA 1 (RS.mk x11_0 x12_0)) (opL (List.take (JQ (Ja 1 (RS.mk x11_0 x12_0))).size (Jn (JQ (Ja 1 (RS.mk x11_0 x12_0)))))) (JA 8 (J2 (Ja 1 (RS.mk x11_0 x12_0)))) (JA 8 (Ja 8 (J2 (Ja 1 (RS.mk x11_0 x12_0))))))))]) [] []) else k (Res.mk (.tup [.st 73 [.st 45 [.sc (.int .i64 x13_0), .sc (.int .i64 x14_0)], .sc (.int .i64 x15_0), .sc (.int .i64 x16_0), .ar 37 x17_0, .sc (.int .i64 (JA 1 (RS.mk x11_0 x12_0))), .ro 99 (opL (List.take (JQ (Ja 1 (RS.mk x11_0 x12_0))).size (Jn (JQ (Ja 1 (RS.mk x11_0 x12_0)))))).isEmpty (opL (List.take (JQ (Ja 1 (RS.mk x11_0 x12_0))).size (Jn (JQ (Ja 1 (RS.mk x11_0 x12_0)))))).isEmpty (opL (List.take (JQ (Ja 1 (RS.mk x11_0 x12_0))).size (Jn (JQ (Ja 1 (RS.mk x11_0 x12_0)))))), .st 45 [.sc (.int .i64 (JA 8 (J2 (Ja 1 (RS.mk x11_0 x12_0))))), .sc (.int .i64 (JA 8 (Ja 8 (J2 (Ja 1 (RS.mk x11_0 x12_0))))))]], .sc (.int .i64 0)]) [] []) else none else bif opE (List.take (JQ (Ja 1 (RS.mk x11_0 x12_0))).size (Jn (JQ (Ja 1 (RS.mk x11_0 x12_0))))) != 0 then k (Res.mk (.tup [.st 73 [.st 45 [.sc (.int .i64 0), .sc (.int .i64 0)], .sc (.int .i64 0), .sc (.int .i64 0), .ar 37 [.sc (.int .u8 0), .sc (.int .u8 0), .sc (.int .u8 0), .sc (.int .u8 0), .sc (.int .u8 0), .sc (.int .u8 0), .sc (.int .u8 0), .sc (.int .u8 0), .sc (.int .u8 0), .sc (.int .u8 0), .sc (.int .u8 0), .sc (.int .u8 0), .sc (.int .u8 0), .sc (.int .u8 0), .sc (.int .u8 0), .sc (.int .u8 0), .sc (.int .u8 0), .sc (.int .u8 0), .sc (.int .u8 0), .sc (.int .u8 0), .sc (.int .u8 0), .sc (.int .u8 0), .sc (.int .u8 0), .sc (.int .u8 0), .sc (.int .u8 0), .sc (.int .u8 0), .sc (.int .u8 0), .sc (.int .u8 0), .sc (.int .u8 0), .sc (.int .u8 0), .sc (.int .u8 0), .sc (.int .u8 0)], .sc (.int .i64 0), .ro 99 true true [], .st 45 [.sc (.int .i64 0), .sc (.int .i64 0)]], .sc (.int .i64 (opE (List.take (JQ (Ja 1 (RS.mk x11_0 x12_0))).size (Jn (JQ (Ja 1 (RS.mk x11_0 x12_0)))))))]) [] []) else k (Res.mk (.tup [.st 73 [.st 45 [.sc (.int .i64 x13_0), .sc (.int .i64 x14_0)], .sc (.int .i64 x15_0), .sc (.int .i64 x16_0), .ar 37 x17_0, .sc (.int .i64 (JA 1 (RS.mk x11_0 x12_0))), .ro 99 (opL (List.take (JQ (Ja 1 (RS.mk x11_0 x12_0))).size (Jn (JQ (Ja 1 (RS.mk x11_0 x12_0)))))).isEmpty (opL (List.take (JQ (Ja 1 (RS.mk x11_0 x12_0))).size (Jn (JQ (Ja 1 (RS.mk x11_0 x12_0)))))).isEmpty (opL (List.take (JQ (Ja 1 (RS.mk x11_0 x12_0))).size (Jn (JQ (Ja 1 (RS.mk x11_0 x12_0)))))), .st 45 [.sc (.int .i64 (JA 8 (J2 (Ja 1 (RS.mk x11_0 x12_0))))), .sc (.int .i64 (JA 8 (Ja 8 (J2 (Ja 1 (RS.mk x11_0 x12_0))))))]], .sc (.int .i64 0)]) [] []) else none else none else bif (Ja 8 (Ja 8 (J2 (Ja 1 (RS.mk x11_0 x12_0))))).e == 0 then bif cOk x19_0 then bif dCk (DV.mk x13_0 x14_0 x15_0 x16_0 x17_0 (JA 1 (RS.mk x11_0 x12_0)) x19_0 (JA 8 (J2 (Ja 1 (RS.mk x11_0 x12_0)))) (JA 8 (Ja 8 (J2 (Ja 1 (RS.mk x11_0 x12_0)))))) != 0 then k (Res.mk (.tup [.st 73 [.st 45 [.sc (.int .i64 0), .sc (.int .i64 0)], .sc (.int .i64 0), .sc (.int .i64 0), .ar 37 [.sc (.int .u8 0), .sc (.int .u8 0), .sc (.int .u8 0), .sc (.int .u8 0), .sc (.int .u8 0), .sc (.int .u8 0), .sc (.int .u8 0), .sc (.int .u8 0), .sc (.int .u8 0), .sc (.int .u8 0), .sc (.int .u8 0), .sc (.int .u8 0), .sc (.int .u8 0), .sc (.int .u8 0), .sc (.int .u8 0), .sc (.int .u8 0), .sc (.int .u8 0), .sc (.int .u8 0), .sc (.int .u8 0), .sc (.int .u8 0), .sc (.int .u8 0), .sc (.int .u8 0), .sc (.int .u8 0), .sc (.int .u8 0), .sc (.int .u8 0), .sc (.int .u8 0), .sc (.int .u8 0), .sc (.int .u8 0), .sc (.int .u8 0), .sc (.int .u8 0), .sc (.int .u8 0), .sc (.int .u8 0)], .sc (.int .i64 0), .ro 99 true true [], .st 45 [.sc (.int .i64 0), .sc (.int .i64 0)]], .sc (.int .i64 (dCk (DV.mk x13_0 x14_0 x15_0 x16_0 x17_0 (JA 1 (RS.mk x11_0 x12_0)) x19_0 (JA 8 (J2 (Ja 1 (RS.mk x11_0 x12_0)))) (JA 8 (Ja 8 (J2 (Ja 1 (RS.mk x11_0 x12_0))))))))]) [] []) else k (Res.mk (.tup [.st 73 [.st 45 [.sc (.int .i64 x13_0), .sc (.int .i64 x14_0)], .sc (.int .i64 x15_0), .sc (.int .i64 x16_0), .ar 37 x17_0, .sc (.int .i64 (JA 1 (RS.mk x11_0 x12_0))), .ro 99 true true x19_0, .st 45 [.sc (.int .i64 (JA 8 (J2 (Ja 1 (RS.mk x11_0 x12_0))))), .sc (.int .i64 (JA 8 (Ja 8 (J2 (Ja 1 (RS.mk x11_0 x12_0))))))]], .sc (.int .i64 0)]) [] []) else none else bif (Ja 8 (Ja 8 (J2 (Ja 1 (RS.mk x11_0 x12_0))))).e != 0 then k (Res.mk (.tup [.st 73 [.st 45 [.sc (.int .i64 0), .sc (.int .i64 0)], .sc (.int .i64 0), .sc (.int .i64 0), .ar 37 [.sc (.int .u8 0), .sc (.int .u8 0), .sc (.int .u8 0), .sc (.int .u8 0), .sc (.int .u8 0), .sc (.int .u8 0), .sc (.int .u8 0), .sc (.int .u8 0), .sc (.int .u8 0), .sc (.int .u8 0), .sc (.int .u8 0), .sc (.int .u8 0), .sc (.int .u8 0), .sc (.int .u8 0), .sc (.int .u8 0), .sc (.int .u8 0), .sc (.int .u8 0), .sc (.int .u8 0), .sc (.int .u8 0), .sc (.int .u8 0), .sc (.int .u8 0), .sc (.int .u8 0), .sc (.int .u8 0), .sc (.int .u8 0), .sc (.int .u8 0), .sc (.int .u8 0), .sc (.int .u8 0), .sc (.int .u8 0), .sc (.int .u8 0), .sc (.int .u8 0), .sc (.int .u8 0), .sc (.int .u8 0)], .sc (.int .i64 0), .ro 99 true true [], .st 45 [.sc (.int .i64 0), .sc (.int .i64 0)]], .sc (.int .i64 (Ja 8 (Ja 8 (J2 (Ja 1 (RS.mk x11_0 x12_0))))).e)]) [] []) else k (Res.mk (.tup [.st 73 [.st 45 [.sc (.int .i64 x13_0), .sc (.int .i64 x14_0)], .sc (.int .i64 x15_0), .sc (.int .i64 x16_0), .ar 37 x17_0, .sc (.int .i64 (JA 1 (RS.mk x11_0 x12_0))), .ro 99 true true x19_0, .st 45 [.sc (.int .i64 (JA 8 (J2 (Ja 1 (RS.mk x11_0 x12_0))))), .sc (.int .i64 (JA 8 (Ja 8 (J2 (Ja 1 (RS.mk x11_0 x12_0))))))]], .sc (.int .i64 0)]) [] []) else none else none else none else none) f (0) (0) (0) (0) (0) ([.sc (.int .u8 0), .sc (.int .u8 0), .sc (.int .u8 0), .sc (.int .u8 0), .sc (.int .u8 0), .sc (.int .u8 0), .sc (.int .u8 0), .sc (.int .u8 0), .sc (.int .u8 0), .sc (.int .u8 0), .sc (.int .u8 0), .sc (.int .u8 0), .sc (.int .u8 0), .sc (.int .u8 0), .sc (.int .u8 0), .sc (.int .u8 0), .sc (.int .u8 0), .sc (.int .u8 0), .sc (.int .u8 0), .sc (.int .u8 0), .sc (.int .u8 0), .sc (.int .u8 0), .sc (.int .u8 0), .sc (.int .u8 0), .sc (.int .u8 0), .sc (.int .u8 0), .sc (.int .u8 0), .sc (.int .u8 0), .sc (.int .u8 0), .sc (.int .u8 0), .sc (.int .u8 0), .sc (.int .u8 0)]) (0) ([]) (0) (0) b_z b_z ((Ja 8 (Ja 8 (Ja 8 (Ja 8 (RS.mk b 0))))).b) ((Ja 8 (Ja 8 (Ja 8 (Ja 8 (RS.mk b 0))))).e) (JA 8 (RS.mk b 0)) (JA 8 (Ja 8 (RS.mk b 0))) (JA 8 (Ja 8 (Ja 8 (RS.mk b 0)))) (JA 8 (Ja 8 (Ja 8 (Ja 8 (RS.mk b 0))))) ([.sc (.int .u8 0), .sc (.int .u8 0), .sc (.int .u8 0), .sc (.int .u8 0), .sc (.int .u8 0), .sc (.int .u8 0), .sc (.int .u8 0), .sc (.int .u8 0), .sc (.int .u8 0), .sc (.int .u8 0), .sc (.int .u8 0), .sc (.int .u8 0), .sc (.int .u8 0), .sc (.int .u8 0), .sc (.int .u8 0), .sc (.int .u8 0), .sc (.int .u8 0), .sc (.int .u8 0), .sc (.int .u8 0), .sc (.int .u8 0), .sc (.int .u8 0), .sc (.int .u8 0), .sc (.int .u8 0), .sc (.int .u8 0), .sc (.int .u8 0), .sc (.int .u8 0), .sc (.int .u8 0), .sc (.int .u8 0), .sc (.int .u8 0), .sc (.int .u8 0), .sc (.int .u8 0), .sc (.int .u8 0)]) (0) ([]) (0) (0) else none else none else none else none else none
theorem JyA (f : Nat) (b_z : Bool) (b_f : Bool) (b : List PV) (k : Res → Option Res) : JR tau JkO Try.f103 (Try.f103.body.get!) (JhY (Z3 f)) [.ro, .ro] 0 [.ro 5 b_z b_f b] [] k = JrI f b_z b_f b k := by kernel_rfl
theorem Jwd (f : Nat) : Jg (Try.f103.body.get!) (JhY (Z3 f)) = [.l Gh WB Jbn (Z3 f)] := by kernel_rfl
theorem Jwe (f : Nat) : ∀ q ∈ Jg (Try.f103.body.get!) (JhY (Z3 f)), q.Ok tau Try.prog 0 := by
  rw [Jwd f]; simp only [List.forall_mem_cons, List.not_mem_nil, false_implies, implies_true, and_true]; exact JrH f
theorem Jps : Try.prog.funcs[103]? = some Try.f103 := by kernel_rfl
theorem Jpt : Try.f103.body = some (Try.f103.body.get!) := by kernel_rfl
theorem Jwf : Enters Try.prog 103 := enters_of Jps (by kernel_rfl) Jpt


-- FN delta.Parse | ref8.Parse
theorem JrJ (t : ByteArray) : byB (Jn t) = true := by
  unfold byB Jn
  refine List.all_eq_true.2 fun p hp => ?_
  obtain ⟨x, hx, rfl⟩ := List.mem_map.1 hp
  have := x.toNat_lt
  rw [Bool.and_eq_true, Bool.and_eq_true]
  refine ⟨rfl, decide_eq_true ?_, decide_eq_true ?_⟩
  · exact Int.natCast_nonneg _
  · exact Int.ofNat_lt.2 this
noncomputable def d4 (b : List PV) : RS := Ja 8 (Ja 8 (Ja 8 (Ja 8 ⟨b, 0⟩)))
noncomputable def d5 (b : List PV) : RS := hashS (d4 b)
noncomputable def d7 (b : List PV) : RS := J2 (Ja 1 (d5 b))
noncomputable def d9 (b : List PV) : RS := Ja 8 (Ja 8 (d7 b))
noncomputable def dt (b : List PV) : List PV := Jn (JQ (Ja 1 (d5 b)))
noncomputable def dv (b : List PV) : DV := ⟨JA 8 ⟨b, 0⟩, JA 8 (Ja 8 ⟨b, 0⟩), JA 8 (Ja 8 (Ja 8 ⟨b, 0⟩)), JA 8 (Ja 8 (Ja 8 (Ja 8 ⟨b, 0⟩))), pu .u8 (hashV (d4 b)), JA 1 (d5 b), opL (dt b), JA 8 (d7 b), JA 8 (Ja 8 (d7 b))⟩
noncomputable def dE0 (b : List PV) : Int := bif (d9 b).e == 0 then (bif decide ((d9 b).b.length > 0) then 9 else bif opE (dt b) == 0 then dCk (dv b) else opE (dt b)) else (d9 b).e
noncomputable def dE : List PV → Int := hid dE0
noncomputable def dN (b : List PV) : Nat → Int
  | 0 => (dv b).ad
  | 1 => (dv b).au
  | 2 => (dv b).id
  | 3 => (dv b).ve
  | 4 => (dv b).kd
  | 5 => (dv b).wd
  | _ => (dv b).wu
noncomputable def dF : Nat → List PV → Int := hid fun i b => bif dE0 b == 0 then dN b i else 0
noncomputable def dH : List PV → List Int := hid fun b => bif dE0 b == 0 then hashV (d4 b) else List.replicate 32 0
noncomputable def dO : List PV → List PV := hid fun b => bif dE0 b == 0 then opL (dt b) else []
theorem JeP (b : List PV) : dE b = dE0 b := by rw [dE, hid_eq]
theorem JhZ (i : Nat) (b : List PV) : dF i b = bif dE0 b == 0 then dN b i else 0 := by rw [dF, hid_eq]
theorem JkQ (b : List PV) : dH b = bif dE0 b == 0 then hashV (d4 b) else List.replicate 32 0 := by rw [dH, hid_eq]
theorem JkR (b : List PV) : dO b = bif dE0 b == 0 then opL (dt b) else [] := by rw [dO, hid_eq]
def Jh0 (e : Int) : PV := .tup [.st 73 [.st 45 [.sc (.int .i64 0), .sc (.int .i64 0)], .sc (.int .i64 0), .sc (.int .i64 0), .ar 37 (pu .u8 (List.replicate 32 0)), .sc (.int .i64 0), .ro 99 true true [], .st 45 [.sc (.int .i64 0), .sc (.int .i64 0)]], .sc (.int .i64 e)]
noncomputable def dP (b : List PV) : PV := .tup [.st 73 [.st 45 [.sc (.int .i64 (dF 0 b)), .sc (.int .i64 (dF 1 b))], .sc (.int .i64 (dF 2 b)), .sc (.int .i64 (dF 3 b)), .ar 37 (pu .u8 (dH b)), .sc (.int .i64 (dF 4 b)), .ro 99 (dO b).isEmpty (dO b).isEmpty (dO b), .st 45 [.sc (.int .i64 (dF 5 b)), .sc (.int .i64 (dF 6 b))]], .sc (.int .i64 (dE b))]
theorem Jds {b : List PV} {e : Int} (h : dE0 b = e) (h0 : (e == 0) = false) : dP b = Jh0 e := by
  simp only [dP, Jh0, JhZ, JkQ, JkR, JeP, h, h0, cond_false, List.isEmpty_nil]
theorem Jwg {b : List PV} (h : dE0 b = 0) : dP b = .tup [.st 73 [.st 45 [.sc (.int .i64 (JA 8 ⟨b, 0⟩)), .sc (.int .i64 (JA 8 (Ja 8 ⟨b, 0⟩)))], .sc (.int .i64 (JA 8 (Ja 8 (Ja 8 ⟨b, 0⟩)))), .sc (.int .i64 (JA 8 (Ja 8 (Ja 8 (Ja 8 ⟨b, 0⟩))))), .ar 37 (pu .u8 (hashV (d4 b))), .sc (.int .i64 (JA 1 (d5 b))), .ro 99 (opL (dt b)).isEmpty (opL (dt b)).isEmpty (opL (dt b)), .st 45 [.sc (.int .i64 (JA 8 (d7 b))), .sc (.int .i64 (JA 8 (Ja 8 (d7 b))))]], .sc (.int .i64 0)] := by
  simp only [dP, JhZ, JkQ, JkR, JeP, h, beq_self_eq_true, cond_true, dN, dv]
theorem Jng {b : List PV} (h : byB b = true) : cOk (opL b) = true := by
  rw [Jdm]
  cases VM b == 0 with
  | true => exact JhT (JkK h) _
  | false => exact Jdd.2 ⟨rfl, Nat.zero_le _⟩
theorem JkS (f : Nat) (k0 : Int → Int → Int → Int → List PV → Int → List PV → Int → Int → Bool → Bool → List PV → Int → Int → Int → Int → Int → List PV → Int → List PV → Int → Int → Option Res) (z fl : Bool) (hz : (!z || fl) = true) (x1 x2 x3 x4 : Int) (x5 : List PV) (x6 : Int) (x7 : List PV) (x8 x9 y14 y15 y16 y17 y19 : Int) (y20 : List PV) (y21 y22 : Int) : ∀ (d i n : Nat) (s : RS) (L : List Int), i + d = 32 → d < n → byB s.b = true → L.length = 32 →
    X9 f k0 n (i : Int) x1 x2 x3 x4 x5 x6 x7 x8 x9 z fl s.b s.e y14 y15 y16 y17 (pu .u8 L) y19 y20 y21 y22 = k0 x1 x2 x3 x4 x5 x6 x7 x8 x9 z fl (V7 d s).b (V7 d s).e y14 y15 y16 y17 (pu .u8 (L.take i ++ V8 d s)) y19 y20 y21 y22
  | 0, i, n + 1, s, L, h, hn, hb, hL => by
      obtain rfl : i = 32 := by omega
      simp only [X9, Y8, V7, V8, List.append_nil]
      rw [List.take_of_length_le (by omega)]
      exact JL (by decide)
  | d + 1, i, n + 1, s, L, h, hn, hb, hL => by
      have g1 : ((i : Int)).toNat = i := by omega
      have w1 : IntKind.i64.wrap ((i : Int) + 1) = ((i + 1 : Nat) : Int) := by rw [wrap_i64 (by omega) (by omega)]; omega
      have hm : RS.mk s.b s.e = s := rfl
      simp only [X9, Y8, g1, w1, hm, Wk]
      refine (Jb (by simp; omega)).trans ((Jb (by rw [hb, hz]; rfl)).trans ((Jb (by simp [zi]; omega)).trans ?_))
      have := JkS f k0 z fl hz x1 x2 x3 x4 x5 x6 x7 x8 x9 y14 y15 y16 y17 y19 y20 y21 y22 d (i + 1) n (Qb 1 s) (L.set i (IntKind.u8.wrap (JA 1 s))) (by omega) (by omega) (Xp hb 1) (by simpa using hL)
      rw [WK]
      refine Eq.trans this ?_
      have hset : (L.set i (IntKind.u8.wrap (JA 1 s))).take (i + 1) = L.take i ++ [IntKind.u8.wrap (JA 1 s)] := by
        rw [List.take_add_one, List.take_set_of_le (Nat.le_refl i), List.getElem?_set_self (by omega)]; rfl
      rw [hset, WU]
      simp only [V7, V8, List.append_assoc, List.cons_append, List.nil_append]
theorem Jnh (z f : Bool) (b : List PV) (hz : slB z b = true) (hb : byB b = true) (k : Res → Option Res) :
    JrI 40 z f b k = k ⟨dP b, [], []⟩ := by
  have hE : dE0 b = dE0 b := rfl
  conv at hE => rhs; unfold dE0
  have hzz : (!z || z) = true := by cases z <;> rfl
  have c1 := Qr (s := ⟨b, 0⟩) hb 8
  have c2 := Qr c1 8
  have c3 := Qr c2 8
  have c4 : byB (d4 b).b = true := Qr c3 8
  have c5 : byB (d5 b).b = true := by unfold d5; rw [hashS_eq]; exact Jg5 32 c4
  have c6 := Qr c5 1
  have c7 : byB (d7 b).b = true := Jg6 c6
  have c8 := Qr c7 8
  unfold JrI
  refine (Jb hz).trans ((Jb (by rw [hb, hzz]; rfl)).trans ((Jb (by rw [c1, hzz]; rfl)).trans ((Jb (by rw [c2, hzz]; rfl)).trans ((Jb (by rw [c3, hzz]; rfl)).trans ?_))))
  refine (JkS 40 _ z z hzz _ _ _ _ _ _ _ _ _ _ _ _ _ _ _ _ _ 32 0 40 (d4 b) (List.replicate 32 0) (by omega) (by omega) c4 (by simp)).trans ?_
  have hr : V7 32 (d4 b) = d5 b := by unfold d5; rw [hashS_eq]
  have hv : V8 32 (d4 b) = hashV (d4 b) := by rw [hashV_eq]
  have hm : RS.mk (d5 b).b (d5 b).e = d5 b := rfl
  have h7 : J2 (Ja 1 (d5 b)) = d7 b := rfl
  have h9 : Ja 8 (Ja 8 (d7 b)) = d9 b := rfl
  have hsz := Jiy c6
  have htk : List.take (JQ (Ja 1 (d5 b))).size (dt b) = dt b := List.take_of_length_le (by unfold dt; rw [GD]; exact Nat.le_refl _)
  have hto : Jn (JQ (Ja 1 (d5 b))) = dt b := rfl
  have hbt : byB (dt b) = true := JrJ _
  have hlt : (dt b).length ≤ 65535 := by unfold dt; rw [GD]; exact hsz
  have hsl : slB (Ent.vec false 5 false (dt b)).nil (dt b) = true := QZ.2 ⟨fun h => by simp [Ent.nil] at h, by omega⟩
  have hz9 : decide (zi (d9 b).b.length > 0) = decide ((d9 b).b.length > 0) := by apply decide_eq_decide.2; simp only [zi]; omega
  have hdv : DV.mk (JA 8 ⟨b, 0⟩) (JA 8 (Ja 8 ⟨b, 0⟩)) (JA 8 (Ja 8 (Ja 8 ⟨b, 0⟩))) (JA 8 (Ja 8 (Ja 8 (Ja 8 ⟨b, 0⟩)))) (pu .u8 (hashV (d4 b))) (JA 1 (d5 b)) (opL (dt b)) (JA 8 (d7 b)) (JA 8 (Ja 8 (d7 b))) = dv b := rfl
  simp only [hr, hv, hm, h7, h9, List.take_zero, List.nil_append, List.drop_zero, htk, hto, hz9, hdv, hsl, hbt, hzz, c5, c6, c7, c8, Jng hbt, Bool.true_and, Bool.and_true, cond_true]
  cases he : ((d9 b).e == 0) with
  | false =>
    rw [he, cond_false] at hE
    rw [Jds hE he]
    simp only [cond_false]
    exact Jb (by rw [bne, he]; rfl)
  | true =>
    rw [he, cond_true] at hE
    cases h9 : decide ((d9 b).b.length > 0) with
    | true =>
      rw [h9, cond_true] at hE
      rw [Jds hE (by decide)]
      rfl
    | false =>
      rw [h9, cond_false] at hE
      simp only [cond_true, cond_false]
      refine (Jb (by simp [Jj]; omega)).trans ?_
      cases ho : (opE (dt b) == 0) with
      | false =>
        rw [ho, cond_false] at hE
        try simp only [cond_false]
        rw [Jds hE ho]
        exact Jb (by rw [bne, ho]; rfl)
      | true =>
        rw [ho, cond_true] at hE
        try simp only [cond_true]
        cases hd : (dCk (dv b) == 0) with
        | false =>
          rw [Jds hE hd]
          exact Jb (by rw [bne, hd]; rfl)
        | true =>
          have hd' : dCk (dv b) = 0 := by simpa using hd
          rw [hd'] at hE
          rw [Jwg hE]
          exact JL (by rw [bne, hd]; rfl)
noncomputable def Jdt : List PV → List Ent → (Res → Option Res) → Option Res
  | [.ro 5 z f b], [], k => bif slB z b && byB b then k ⟨dP b, [], []⟩ else none
  | _, _, _ => none
noncomputable def Jpu : Sig := { own := [], run := Jdt }
theorem JrK : Ji tau Try.prog 103 Jpu := Ji.mk' fun xs es k res hl hr => by
  change Jdt xs es k = some res at hr
  unfold Jdt at hr
  split at hr
  · rename_i z f b
    obtain ⟨hc, hr⟩ := JI hr
    rw [Bool.and_eq_true] at hc
    have hg := (Jnh z f b hc.1 hc.2 k).trans hr
    exact Qo Jr JhX Js Jps Jpt (JhY (Z3 40)) [.ro, .ro] 0 0 (Jwe 40) hl rfl ((JyA 40 z f b k).trans hg)
  · cases hr
noncomputable def F49 : Fns := JG 103 Jpu (JG 102 JeM (JG 80 JjT (F0)))
theorem JrL : Jz tau Try.prog F49 := (((JH).add Jhn Jmh).add Jdl JhP).add JrK Jwf
def Jni : An := (.seq .leaf (.seq .leaf (.seq (.seq .leaf (.cond (.seq .leaf .leaf) .leaf)) (.seq (.seq .leaf (.seq .leaf (.cond (.seq .leaf .leaf) .leaf))) (.seq .leaf .leaf)))))
noncomputable def g49 (f : Nat) (k0_z : Bool) (k0_f : Bool) (k0 : List PV) (k1_z : Bool) (k1_f : Bool) (k1 : List PV) (k2_z : Bool) (k2_f : Bool) (k2 : List PV) (s_Body_z : Bool) (s_Body_f : Bool) (s_Body : List PV) (s_Mac : List PV) (k : Res → Option Res) : Option Res := bif slB s_Body_z s_Body && byB s_Body then bif dE s_Body != 0 then k (Res.mk (.tup [.st 73 [.st 45 [.sc (.int .i64 0), .sc (.int .i64 0)], .sc (.int .i64 0), .sc (.int .i64 0), .ar 37 [.sc (.int .u8 0), .sc (.int .u8 0), .sc (.int .u8 0), .sc (.int .u8 0), .sc (.int .u8 0), .sc (.int .u8 0), .sc (.int .u8 0), .sc (.int .u8 0), .sc (.int .u8 0), .sc (.int .u8 0), .sc (.int .u8 0), .sc (.int .u8 0), .sc (.int .u8 0), .sc (.int .u8 0), .sc (.int .u8 0), .sc (.int .u8 0), .sc (.int .u8 0), .sc (.int .u8 0), .sc (.int .u8 0), .sc (.int .u8 0), .sc (.int .u8 0), .sc (.int .u8 0), .sc (.int .u8 0), .sc (.int .u8 0), .sc (.int .u8 0), .sc (.int .u8 0), .sc (.int .u8 0), .sc (.int .u8 0), .sc (.int .u8 0), .sc (.int .u8 0), .sc (.int .u8 0), .sc (.int .u8 0)], .sc (.int .i64 0), .ro 99 true true [], .st 45 [.sc (.int .i64 0), .sc (.int .i64 0)]], .sc (.int .i64 (dE s_Body))]) [] []) else bif !kIn (dF 0 s_Body) then k (Res.mk (.tup [.st 73 [.st 45 [.sc (.int .i64 0), .sc (.int .i64 0)], .sc (.int .i64 0), .sc (.int .i64 0), .ar 37 [.sc (.int .u8 0), .sc (.int .u8 0), .sc (.int .u8 0), .sc (.int .u8 0), .sc (.int .u8 0), .sc (.int .u8 0), .sc (.int .u8 0), .sc (.int .u8 0), .sc (.int .u8 0), .sc (.int .u8 0), .sc (.int .u8 0), .sc (.int .u8 0), .sc (.int .u8 0), .sc (.int .u8 0), .sc (.int .u8 0), .sc (.int .u8 0), .sc (.int .u8 0), .sc (.int .u8 0), .sc (.int .u8 0), .sc (.int .u8 0), .sc (.int .u8 0), .sc (.int .u8 0), .sc (.int .u8 0), .sc (.int .u8 0), .sc (.int .u8 0), .sc (.int .u8 0), .sc (.int .u8 0), .sc (.int .u8 0), .sc (.int .u8 0), .sc (.int .u8 0), .sc (.int .u8 0), .sc (.int .u8 0)], .sc (.int .i64 0), .ro 99 true true [], .st 45 [.sc (.int .i64 0), .sc (.int .i64 0)]], .sc (.int .i64 14)]) [] []) else bif Jf IntKind.u8 (Qs (K3.mk [.ro 5 k0_z k0_f k0, .ro 5 k1_z k1_f k1, .ro 5 k2_z k2_f k2] (dF 0 s_Body))) && decide ((Qs (K3.mk [.ro 5 k0_z k0_f k0, .ro 5 k1_z k1_f k1, .ro 5 k2_z k2_f k2] (dF 0 s_Body))).length ≤ 1000000000) && (Jf IntKind.u8 (Jk [.ro 5 s_Body_z s_Body_f s_Body]) && decide ((Jk [.ro 5 s_Body_z s_Body_f s_Body]).length ≤ 1000000000)) && true then bif decide ((pu IntKind.u8 (Q1 (Je (Qs (K3.mk [.ro 5 k0_z k0_f k0, .ro 5 k1_z k1_f k1, .ro 5 k2_z k2_f k2] (dF 0 s_Body)))) (Je (Jk [.ro 5 s_Body_z s_Body_f s_Body])))).length = 32) && decide (s_Mac.length = 32) && Jf IntKind.u8 (pu IntKind.u8 (Q1 (Je (Qs (K3.mk [.ro 5 k0_z k0_f k0, .ro 5 k1_z k1_f k1, .ro 5 k2_z k2_f k2] (dF 0 s_Body)))) (Je (Jk [.ro 5 s_Body_z s_Body_f s_Body])))) && Jf IntKind.u8 s_Mac && true then bif !Qt (pu IntKind.u8 (Q1 (Je (Qs (K3.mk [.ro 5 k0_z k0_f k0, .ro 5 k1_z k1_f k1, .ro 5 k2_z k2_f k2] (dF 0 s_Body)))) (Je (Jk [.ro 5 s_Body_z s_Body_f s_Body])))) s_Mac then k (Res.mk (.tup [.st 73 [.st 45 [.sc (.int .i64 0), .sc (.int .i64 0)], .sc (.int .i64 0), .sc (.int .i64 0), .ar 37 [.sc (.int .u8 0), .sc (.int .u8 0), .sc (.int .u8 0), .sc (.int .u8 0), .sc (.int .u8 0), .sc (.int .u8 0), .sc (.int .u8 0), .sc (.int .u8 0), .sc (.int .u8 0), .sc (.int .u8 0), .sc (.int .u8 0), .sc (.int .u8 0), .sc (.int .u8 0), .sc (.int .u8 0), .sc (.int .u8 0), .sc (.int .u8 0), .sc (.int .u8 0), .sc (.int .u8 0), .sc (.int .u8 0), .sc (.int .u8 0), .sc (.int .u8 0), .sc (.int .u8 0), .sc (.int .u8 0), .sc (.int .u8 0), .sc (.int .u8 0), .sc (.int .u8 0), .sc (.int .u8 0), .sc (.int .u8 0), .sc (.int .u8 0), .sc (.int .u8 0), .sc (.int .u8 0), .sc (.int .u8 0)], .sc (.int .i64 0), .ro 99 true true [], .st 45 [.sc (.int .i64 0), .sc (.int .i64 0)]], .sc (.int .i64 14)]) [] []) else k (Res.mk (.tup [.st 73 [.st 45 [.sc (.int .i64 (dF 0 s_Body)), .sc (.int .i64 (dF 1 s_Body))], .sc (.int .i64 (dF 2 s_Body)), .sc (.int .i64 (dF 3 s_Body)), .ar 37 (pu IntKind.u8 (dH s_Body)), .sc (.int .i64 (dF 4 s_Body)), .ro 99 (dO s_Body).isEmpty (dO s_Body).isEmpty (dO s_Body), .st 45 [.sc (.int .i64 (dF 5 s_Body)), .sc (.int .i64 (dF 6 s_Body))]], .sc (.int .i64 0)]) [] []) else none else none else none
theorem e49 (f : Nat) (k0_z : Bool) (k0_f : Bool) (k0 : List PV) (k1_z : Bool) (k1_f : Bool) (k1 : List PV) (k2_z : Bool) (k2_f : Bool) (k2 : List PV) (s_Body_z : Bool) (s_Body_f : Bool) (s_Body : List PV) (s_Mac : List PV) (k : Res → Option Res) : JR tau F49 Try.f49 (Try.f49.body.get!) Jni [.ro, .ro] 0 [.st 31 [.ro 5 k0_z k0_f k0, .ro 5 k1_z k1_f k1, .ro 5 k2_z k2_f k2], .st 77 [.ro 5 s_Body_z s_Body_f s_Body, .ar 37 s_Mac]] [] k = g49 f k0_z k0_f k0 k1_z k1_f k1 k2_z k2_f k2 s_Body_z s_Body_f s_Body s_Mac k := by kernel_rfl
theorem JyB (f : Nat) : Jg (Try.f49.body.get!) Jni = [] := by kernel_rfl
theorem JyC (f : Nat) : ∀ q ∈ Jg (Try.f49.body.get!) Jni, q.Ok tau Try.prog 0 := by
  rw [JyB f]; intro q hq; cases hq
theorem Jwh : Try.prog.funcs[49]? = some Try.f49 := by kernel_rfl
theorem Jwi : Try.f49.body = some (Try.f49.body.get!) := by kernel_rfl
theorem JyD : Enters Try.prog 49 := enters_of Jwh (by kernel_rfl) Jwi
noncomputable def JkT : List PV → List Ent → (Res → Option Res) → Option Res
  | [.st 31 [.ro 5 k0_z k0_f k0, .ro 5 k1_z k1_f k1, .ro 5 k2_z k2_f k2], .st 77 [.ro 5 s_Body_z s_Body_f s_Body, .ar 37 s_Mac]], [], k => g49 0 k0_z k0_f k0 k1_z k1_f k1 k2_z k2_f k2 s_Body_z s_Body_f s_Body s_Mac k
  | _, _, _ => none
noncomputable def s49 : Sig := { own := [], run := JkT }
theorem JyE : Ji tau Try.prog 49 s49 := J3 Jr JrL Js Jwh Jwi Jni [.ro, .ro] 0 [] JkT (JyC 0) fun xs es k res hr => by
  unfold JkT at hr
  split at hr
  · exact ⟨rfl, 0, (e49 0 _ _ _ _ _ _ _ _ _ _ _ _ _  _).trans hr⟩
  · cases hr
noncomputable def Jwj : Fns := F0
theorem Jnj : Jz tau Try.prog Jwj := JH
def Jh1 : An := (.seq .leaf (.seq (.seq .leaf (.cond (.seq .leaf .leaf) .leaf)) (.seq .leaf .leaf)))
noncomputable def Jwk (f : Nat) (b_z : Bool) (b_f : Bool) (b : List PV) (k : Res → Option Res) : Option Res :=
  bif b_z then
    k (Res.mk (PV.ro 5 true true []) [] [])
  else bif Jj (0 + b.length) 1 && true then
    k (Res.mk (PV.ro 5 false false (List.take (0 + b.length) b)) [] [])
  else none
theorem JyF (f : Nat) (b_z : Bool) (b_f : Bool) (b : List PV) (k : Res → Option Res) : JR tau Jwj Try.f113 (Try.f113.body.get!) Jh1 [.ro] 0 [.ro 5 b_z b_f b] [] k = Jwk f b_z b_f b k := by kernel_rfl
theorem Jwl (f : Nat) : Jg (Try.f113.body.get!) Jh1 = [] := by kernel_rfl
theorem Jwm (f : Nat) : ∀ q ∈ Jg (Try.f113.body.get!) Jh1, q.Ok tau Try.prog 0 := by
  rw [Jwl f]; intro q hq; cases hq
theorem Jpv : Try.prog.funcs[113]? = some Try.f113 := by kernel_rfl
theorem Jpw : Try.f113.body = some (Try.f113.body.get!) := by kernel_rfl
theorem Jwn : Enters Try.prog 113 := enters_of Jpv (by kernel_rfl) Jpw
noncomputable def Jgm : List PV → List Ent → (Res → Option Res) → Option Res
  | [.ro 5 b_z b_f b], [], k => Jwk 0 b_z b_f b k
  | _, _, _ => none
noncomputable def Jwo : Sig := { own := [], run := Jgm }
theorem Jwp : Ji tau Try.prog 113 Jwo := J3 Jr Jnj Js Jpv Jpw Jh1 [.ro] 0 [] Jgm (Jwm 0) fun xs es k res hr => by
  unfold Jgm at hr
  split at hr
  · exact ⟨rfl, 0, (JyF 0 _ _ _  _).trans hr⟩
  · cases hr
noncomputable def F55 : Fns := JG 113 Jwo (JG 102 JeM (JG 80 JjT (JG 58 Jm0 (JG 27 Jqi (F0)))))
theorem JrM : Jz tau Try.prog F55 := (((((JH).add Jof JtM).add JkE Jru).add Jhn Jmh).add Jdl JhP).add Jwp Jwn
def Jnk : An := (.seq .leaf (.seq .leaf (.seq .leaf (.seq .leaf (.seq .leaf (.seq .leaf (.seq .leaf (.seq .leaf .leaf))))))))
noncomputable def g55 (f : Nat) (k0_z : Bool) (k0_f : Bool) (k0 : List PV) (k1_z : Bool) (k1_f : Bool) (k1 : List PV) (k2_z : Bool) (k2_f : Bool) (k2 : List PV) (host : Int) (prev : List PV) (s_Body_z : Bool) (s_Body_f : Bool) (s_Body : List PV) (s_Mac : List PV) (at1 : Int) (o_z : Bool) (o_f : Bool) (o : List PV) (k : Res → Option Res) : Option Res := bif s_Body_z then bif Jj o.length 32 && true then bif eOk (EV.mk [] s_Mac at1 (List.take o.length o)) then bif Jf IntKind.u8 (Jk [.ro 5 false false (List.take 32 prev), .ro 5 false false (pu IntKind.u8 (Jw (EV.mk [] s_Mac at1 (List.take o.length o))))]) && decide ((Jk [.ro 5 false false (List.take 32 prev), .ro 5 false false (pu IntKind.u8 (Jw (EV.mk [] s_Mac at1 (List.take o.length o))))]).length ≤ 140737488355000) then bif Jf IntKind.u8 (Qs (K3.mk [.ro 5 k0_z k0_f k0, .ro 5 k1_z k1_f k1, .ro 5 k2_z k2_f k2] host)) && decide ((Qs (K3.mk [.ro 5 k0_z k0_f k0, .ro 5 k1_z k1_f k1, .ro 5 k2_z k2_f k2] host)).length ≤ 1000000000) && (Jf IntKind.u8 (Jk [.ro 5 false false (pu IntKind.u8 (Jw (EV.mk [] s_Mac at1 (List.take o.length o)))), .ro 5 false false (List.take 32 (pu IntKind.u8 (Jt (Je (Jk [.ro 5 false false (List.take 32 prev), .ro 5 false false (pu IntKind.u8 (Jw (EV.mk [] s_Mac at1 (List.take o.length o))))])))))]) && decide ((Jk [.ro 5 false false (pu IntKind.u8 (Jw (EV.mk [] s_Mac at1 (List.take o.length o)))), .ro 5 false false (List.take 32 (pu IntKind.u8 (Jt (Je (Jk [.ro 5 false false (List.take 32 prev), .ro 5 false false (pu IntKind.u8 (Jw (EV.mk [] s_Mac at1 (List.take o.length o))))])))))]).length ≤ 1000000000)) && true then k (Res.mk (.st 93 [.st 77 [.ro 5 true true [], .ar 37 s_Mac], .sc (.int .i64 at1), .ro 99 (Ent.vec true 99 o.isEmpty o).nil false (List.take o.length o), .ar 37 (pu IntKind.u8 (Jt (Je (Jk [.ro 5 false false (List.take 32 prev), .ro 5 false false (pu IntKind.u8 (Jw (EV.mk [] s_Mac at1 (List.take o.length o))))])))), .ar 37 (pu IntKind.u8 (Q1 (Je (Qs (K3.mk [.ro 5 k0_z k0_f k0, .ro 5 k1_z k1_f k1, .ro 5 k2_z k2_f k2] host))) (Je (Jk [.ro 5 false false (pu IntKind.u8 (Jw (EV.mk [] s_Mac at1 (List.take o.length o)))), .ro 5 false false (List.take 32 (pu IntKind.u8 (Jt (Je (Jk [.ro 5 false false (List.take 32 prev), .ro 5 false false (pu IntKind.u8 (Jw (EV.mk [] s_Mac at1 (List.take o.length o))))])))))]))))]) [] []) else none else none else none else none else bif Jj (0 + s_Body.length) 1 && true then bif Jj o.length 32 && true then bif eOk (EV.mk (List.take (0 + s_Body.length) s_Body) s_Mac at1 (List.take o.length o)) then bif Jf IntKind.u8 (Jk [.ro 5 false false (List.take 32 prev), .ro 5 false false (pu IntKind.u8 (Jw (EV.mk (List.take (0 + s_Body.length) s_Body) s_Mac at1 (List.take o.length o))))]) && decide ((Jk [.ro 5 false false (List.take 32 prev), .ro 5 false false (pu IntKind.u8 (Jw (EV.mk (List.take (0 + s_Body.length) s_Body) s_Mac at1 (List.take o.length o))))]).length ≤ 140737488355000) then bif Jf IntKind.u8 (Qs (K3.mk [.ro 5 k0_z k0_f k0, .ro 5 k1_z k1_f k1, .ro 5 k2_z k2_f k2] host)) && decide ((Qs (K3.mk [.ro 5 k0_z k0_f k0, .ro 5 k1_z k1_f k1, .ro 5 k2_z k2_f k2] host)).length ≤ 1000000000) && (Jf IntKind.u8 (Jk [.ro 5 false false (pu IntKind.u8 (Jw (EV.mk (List.take (0 + s_Body.length) s_Body) s_Mac at1 (List.take o.length o)))), .ro 5 false false (List.take 32 (pu IntKind.u8 (Jt (Je (Jk [.ro 5 false false (List.take 32 prev), .ro 5 false false (pu IntKind.u8 (Jw (EV.mk (List.take (0 + s_Body.length) s_Body) s_Mac at1 (List.take o.length o))))])))))]) && decide ((Jk [.ro 5 false false (pu IntKind.u8 (Jw (EV.mk (List.take (0 + s_Body.length) s_Body) s_Mac at1 (List.take o.length o)))), .ro 5 false false (List.take 32 (pu IntKind.u8 (Jt (Je (Jk [.ro 5 false false (List.take 32 prev), .ro 5 false false (pu IntKind.u8 (Jw (EV.mk (List.take (0 + s_Body.length) s_Body) s_Mac at1 (List.take o.length o))))])))))]).length ≤ 1000000000)) && true then k (Res.mk (.st 93 [.st 77 [.ro 5 false false (List.take (0 + s_Body.length) s_Body), .ar 37 s_Mac], .sc (.int .i64 at1), .ro 99 (Ent.vec true 99 o.isEmpty o).nil false (List.take o.length o), .ar 37 (pu IntKind.u8 (Jt (Je (Jk [.ro 5 false false (List.take 32 prev), .ro 5 false false (pu IntKind.u8 (Jw (EV.mk (List.take (0 + s_Body.length) s_Body) s_Mac at1 (List.take o.length o))))])))), .ar 37 (pu IntKind.u8 (Q1 (Je (Qs (K3.mk [.ro 5 k0_z k0_f k0, .ro 5 k1_z k1_f k1, .ro 5 k2_z k2_f k2] host))) (Je (Jk [.ro 5 false false (pu IntKind.u8 (Jw (EV.mk (List.take (0 + s_Body.length) s_Body) s_Mac at1 (List.take o.length o)))), .ro 5 false false (List.take 32 (pu IntKind.u8 (Jt (Je (Jk [.ro 5 false false (List.take 32 prev), .ro 5 false false (pu IntKind.u8 (Jw (EV.mk (List.take (0 + s_Body.length) s_Body) s_Mac at1 (List.take o.length o))))])))))]))))]) [] []) else none else none else none else none else none
theorem e55 (f : Nat) (k0_z : Bool) (k0_f : Bool) (k0 : List PV) (k1_z : Bool) (k1_f : Bool) (k1 : List PV) (k2_z : Bool) (k2_f : Bool) (k2 : List PV) (host : Int) (prev : List PV) (s_Body_z : Bool) (s_Body_f : Bool) (s_Body : List PV) (s_Mac : List PV) (at1 : Int) (o_z : Bool) (o_f : Bool) (o : List PV) (k : Res → Option Res) : JR tau F55 Try.f55 (Try.f55.body.get!) Jnk [.ro] 0 [.st 31 [.ro 5 k0_z k0_f k0, .ro 5 k1_z k1_f k1, .ro 5 k2_z k2_f k2], .sc (.int .i64 host), .ar 37 prev, .st 77 [.ro 5 s_Body_z s_Body_f s_Body, .ar 37 s_Mac], .sc (.int .i64 at1), .ro 99 o_z o_f o] [] k = g55 f k0_z k0_f k0 k1_z k1_f k1 k2_z k2_f k2 host prev s_Body_z s_Body_f s_Body s_Mac at1 o_z o_f o k := by kernel_rfl
theorem JyG (f : Nat) : Jg (Try.f55.body.get!) Jnk = [] := by kernel_rfl
theorem JyH (f : Nat) : ∀ q ∈ Jg (Try.f55.body.get!) Jnk, q.Ok tau Try.prog 0 := by
  rw [JyG f]; intro q hq; cases hq
theorem Jwq : Try.prog.funcs[55]? = some Try.f55 := by kernel_rfl
theorem Jwr : Try.f55.body = some (Try.f55.body.get!) := by kernel_rfl
theorem JyI : Enters Try.prog 55 := enters_of Jwq (by kernel_rfl) Jwr
noncomputable def JkU : List PV → List Ent → (Res → Option Res) → Option Res
  | [.st 31 [.ro 5 k0_z k0_f k0, .ro 5 k1_z k1_f k1, .ro 5 k2_z k2_f k2], .sc (.int .i64 host), .ar 37 prev, .st 77 [.ro 5 s_Body_z s_Body_f s_Body, .ar 37 s_Mac], .sc (.int .i64 at1), .ro 99 o_z o_f o], [], k => g55 0 k0_z k0_f k0 k1_z k1_f k1 k2_z k2_f k2 host prev s_Body_z s_Body_f s_Body s_Mac at1 o_z o_f o k
  | _, _, _ => none
noncomputable def s55 : Sig := { own := [], run := JkU }
theorem JyJ : Ji tau Try.prog 55 s55 := J3 Jr JrM Js Jwq Jwr Jnk [.ro] 0 [] JkU (JyH 0) fun xs es k res hr => by
  unfold JkU at hr
  split at hr
  · exact ⟨rfl, 0, (e55 0 _ _ _ _ _ _ _ _ _ _ _ _ _ _ _ _ _ _ _  _).trans hr⟩
  · cases hr
noncomputable def F60 : Fns := JG 102 JeM (JG 80 JjT (JG 58 Jm0 (F0)))
theorem JrN : Jz tau Try.prog F60 := (((JH).add JkE Jru).add Jhn Jmh).add Jdl JhP
def Jnl : An := (.seq .leaf (.seq .leaf (.seq .leaf .leaf)))
noncomputable def g60 (f : Nat) (k0_z : Bool) (k0_f : Bool) (k0 : List PV) (k1_z : Bool) (k1_f : Bool) (k1 : List PV) (k2_z : Bool) (k2_f : Bool) (k2 : List PV) (host : Int) (e_S_Body_z : Bool) (e_S_Body_f : Bool) (e_S_Body : List PV) (e_S_Mac : List PV) (e_At : Int) (e_Op_z : Bool) (e_Op_f : Bool) (e_Op : List PV) (e_Hash : List PV) (e_Mac : List PV) (k : Res → Option Res) : Option Res := bif kIn host then bif eOk (EV.mk e_S_Body e_S_Mac e_At e_Op) then bif Jf IntKind.u8 (Qs (K3.mk [.ro 5 k0_z k0_f k0, .ro 5 k1_z k1_f k1, .ro 5 k2_z k2_f k2] host)) && decide ((Qs (K3.mk [.ro 5 k0_z k0_f k0, .ro 5 k1_z k1_f k1, .ro 5 k2_z k2_f k2] host)).length ≤ 1000000000) && (Jf IntKind.u8 (Jk [.ro 5 false false (pu IntKind.u8 (Jw (EV.mk e_S_Body e_S_Mac e_At e_Op))), .ro 5 false false (List.take 32 e_Hash)]) && decide ((Jk [.ro 5 false false (pu IntKind.u8 (Jw (EV.mk e_S_Body e_S_Mac e_At e_Op))), .ro 5 false false (List.take 32 e_Hash)]).length ≤ 1000000000)) && true then bif decide ((pu IntKind.u8 (Q1 (Je (Qs (K3.mk [.ro 5 k0_z k0_f k0, .ro 5 k1_z k1_f k1, .ro 5 k2_z k2_f k2] host))) (Je (Jk [.ro 5 false false (pu IntKind.u8 (Jw (EV.mk e_S_Body e_S_Mac e_At e_Op))), .ro 5 false false (List.take 32 e_Hash)])))).length = 32) && decide (e_Mac.length = 32) && Jf IntKind.u8 (pu IntKind.u8 (Q1 (Je (Qs (K3.mk [.ro 5 k0_z k0_f k0, .ro 5 k1_z k1_f k1, .ro 5 k2_z k2_f k2] host))) (Je (Jk [.ro 5 false false (pu IntKind.u8 (Jw (EV.mk e_S_Body e_S_Mac e_At e_Op))), .ro 5 false false (List.take 32 e_Hash)])))) && Jf IntKind.u8 e_Mac && true then k (Res.mk (.sc (.bool (Qt (pu IntKind.u8 (Q1 (Je (Qs (K3.mk [.ro 5 k0_z k0_f k0, .ro 5 k1_z k1_f k1, .ro 5 k2_z k2_f k2] host))) (Je (Jk [.ro 5 false false (pu IntKind.u8 (Jw (EV.mk e_S_Body e_S_Mac e_At e_Op))), .ro 5 false false (List.take 32 e_Hash)])))) e_Mac))) [] []) else none else none else none else k (Res.mk (.sc (.bool false)) [] [])
theorem e60 (f : Nat) (k0_z : Bool) (k0_f : Bool) (k0 : List PV) (k1_z : Bool) (k1_f : Bool) (k1 : List PV) (k2_z : Bool) (k2_f : Bool) (k2 : List PV) (host : Int) (e_S_Body_z : Bool) (e_S_Body_f : Bool) (e_S_Body : List PV) (e_S_Mac : List PV) (e_At : Int) (e_Op_z : Bool) (e_Op_f : Bool) (e_Op : List PV) (e_Hash : List PV) (e_Mac : List PV) (k : Res → Option Res) : JR tau F60 Try.f60 (Try.f60.body.get!) Jnl [.ro] 0 [.st 31 [.ro 5 k0_z k0_f k0, .ro 5 k1_z k1_f k1, .ro 5 k2_z k2_f k2], .sc (.int .i64 host), .st 93 [.st 77 [.ro 5 e_S_Body_z e_S_Body_f e_S_Body, .ar 37 e_S_Mac], .sc (.int .i64 e_At), .ro 99 e_Op_z e_Op_f e_Op, .ar 37 e_Hash, .ar 37 e_Mac]] [] k = g60 f k0_z k0_f k0 k1_z k1_f k1 k2_z k2_f k2 host e_S_Body_z e_S_Body_f e_S_Body e_S_Mac e_At e_Op_z e_Op_f e_Op e_Hash e_Mac k := by kernel_rfl
theorem JyK (f : Nat) : Jg (Try.f60.body.get!) Jnl = [] := by kernel_rfl
theorem JyL (f : Nat) : ∀ q ∈ Jg (Try.f60.body.get!) Jnl, q.Ok tau Try.prog 0 := by
  rw [JyK f]; intro q hq; cases hq
theorem Jws : Try.prog.funcs[60]? = some Try.f60 := by kernel_rfl
theorem Jwt : Try.f60.body = some (Try.f60.body.get!) := by kernel_rfl
theorem JyM : Enters Try.prog 60 := enters_of Jws (by kernel_rfl) Jwt
noncomputable def JkV : List PV → List Ent → (Res → Option Res) → Option Res
  | [.st 31 [.ro 5 k0_z k0_f k0, .ro 5 k1_z k1_f k1, .ro 5 k2_z k2_f k2], .sc (.int .i64 host), .st 93 [.st 77 [.ro 5 e_S_Body_z e_S_Body_f e_S_Body, .ar 37 e_S_Mac], .sc (.int .i64 e_At), .ro 99 e_Op_z e_Op_f e_Op, .ar 37 e_Hash, .ar 37 e_Mac]], [], k => g60 0 k0_z k0_f k0 k1_z k1_f k1 k2_z k2_f k2 host e_S_Body_z e_S_Body_f e_S_Body e_S_Mac e_At e_Op_z e_Op_f e_Op e_Hash e_Mac k
  | _, _, _ => none
noncomputable def s60 : Sig := { own := [], run := JkV }
theorem JyN : Ji tau Try.prog 60 s60 := J3 Jr JrN Js Jws Jwt Jnl [.ro] 0 [] JkV (JyL 0) fun xs es k res hr => by
  unfold JkV at hr
  split at hr
  · exact ⟨rfl, 0, (e60 0 _ _ _ _ _ _ _ _ _ _ _ _ _ _ _ _ _ _ _ _  _).trans hr⟩
  · cases hr


noncomputable def F62 : Fns := JG 59 Jrx (JG 28 Jq5 (F0))
theorem JrO : Jz tau Try.prog F62 := ((JH).add JoL JuP).add Jpa JvG
def Jnm : An := (.seq .leaf (.seq .leaf .leaf))
noncomputable def g62 (f : Nat) (prev : List PV) (e_S_Body_z : Bool) (e_S_Body_f : Bool) (e_S_Body : List PV) (e_S_Mac : List PV) (e_At : Int) (e_Op_z : Bool) (e_Op_f : Bool) (e_Op : List PV) (e_Hash : List PV) (e_Mac : List PV) (k : Res → Option Res) : Option Res := bif Jj (0 + (List.take 32 prev).length) 1 && true then bif eOk (EV.mk e_S_Body e_S_Mac e_At e_Op) then bif Jj (0 + (List.take 32 prev).length + (List.take (Jw (EV.mk e_S_Body e_S_Mac e_At e_Op)).length (pu IntKind.u8 (Jw (EV.mk e_S_Body e_S_Mac e_At e_Op)))).length) 1 && true then bif Jf IntKind.u8 (List.take (0 + (List.take 32 prev).length + (List.take (Jw (EV.mk e_S_Body e_S_Mac e_At e_Op)).length (pu IntKind.u8 (Jw (EV.mk e_S_Body e_S_Mac e_At e_Op)))).length) (List.take (0 + (List.take 32 prev).length) (List.take 32 prev) ++ List.take (Jw (EV.mk e_S_Body e_S_Mac e_At e_Op)).length (pu IntKind.u8 (Jw (EV.mk e_S_Body e_S_Mac e_At e_Op))))) && decide ((List.take (0 + (List.take 32 prev).length + (List.take (Jw (EV.mk e_S_Body e_S_Mac e_At e_Op)).length (pu IntKind.u8 (Jw (EV.mk e_S_Body e_S_Mac e_At e_Op)))).length) (List.take (0 + (List.take 32 prev).length) (List.take 32 prev) ++ List.take (Jw (EV.mk e_S_Body e_S_Mac e_At e_Op)).length (pu IntKind.u8 (Jw (EV.mk e_S_Body e_S_Mac e_At e_Op))))).length ≤ 140737488355000) then k (Res.mk (.ar 37 (pu IntKind.u8 (Jt (Je (List.take (0 + (List.take 32 prev).length + (List.take (Jw (EV.mk e_S_Body e_S_Mac e_At e_Op)).length (pu IntKind.u8 (Jw (EV.mk e_S_Body e_S_Mac e_At e_Op)))).length) (List.take (0 + (List.take 32 prev).length) (List.take 32 prev) ++ List.take (Jw (EV.mk e_S_Body e_S_Mac e_At e_Op)).length (pu IntKind.u8 (Jw (EV.mk e_S_Body e_S_Mac e_At e_Op))))))))) [] []) else none else none else none else none
theorem e62 (f : Nat) (prev : List PV) (e_S_Body_z : Bool) (e_S_Body_f : Bool) (e_S_Body : List PV) (e_S_Mac : List PV) (e_At : Int) (e_Op_z : Bool) (e_Op_f : Bool) (e_Op : List PV) (e_Hash : List PV) (e_Mac : List PV) (k : Res → Option Res) : JR tau F62 Try.f62 (Try.f62.body.get!) Jnm [.ro] 0 [.ar 37 prev, .st 93 [.st 77 [.ro 5 e_S_Body_z e_S_Body_f e_S_Body, .ar 37 e_S_Mac], .sc (.int .i64 e_At), .ro 99 e_Op_z e_Op_f e_Op, .ar 37 e_Hash, .ar 37 e_Mac]] [] k = g62 f prev e_S_Body_z e_S_Body_f e_S_Body e_S_Mac e_At e_Op_z e_Op_f e_Op e_Hash e_Mac k := by kernel_rfl
theorem JyO (f : Nat) : Jg (Try.f62.body.get!) Jnm = [] := by kernel_rfl
theorem JyP (f : Nat) : ∀ q ∈ Jg (Try.f62.body.get!) Jnm, q.Ok tau Try.prog 0 := by
  rw [JyO f]; intro q hq; cases hq
theorem Jwu : Try.prog.funcs[62]? = some Try.f62 := by kernel_rfl
theorem Jwv : Try.f62.body = some (Try.f62.body.get!) := by kernel_rfl
theorem JyQ : Enters Try.prog 62 := enters_of Jwu (by kernel_rfl) Jwv
noncomputable def JkW : List PV → List Ent → (Res → Option Res) → Option Res
  | [.ar 37 prev, .st 93 [.st 77 [.ro 5 e_S_Body_z e_S_Body_f e_S_Body, .ar 37 e_S_Mac], .sc (.int .i64 e_At), .ro 99 e_Op_z e_Op_f e_Op, .ar 37 e_Hash, .ar 37 e_Mac]], [], k => g62 0 prev e_S_Body_z e_S_Body_f e_S_Body e_S_Mac e_At e_Op_z e_Op_f e_Op e_Hash e_Mac k
  | _, _, _ => none
noncomputable def s62 : Sig := { own := [], run := JkW }
theorem JyR : Ji tau Try.prog 62 s62 := J3 Jr JrO Js Jwu Jwv Jnm [.ro] 0 [] JkW (JyP 0) fun xs es k res hr => by
  unfold JkW at hr
  split at hr
  · exact ⟨rfl, 0, (e62 0 _ _ _ _ _ _ _ _ _ _ _  _).trans hr⟩
  · cases hr
-- FN
theorem EntRep.free_none {τ : Tab} {im : Im} {ow : Own} {i : Nat} {e : Ent} {w : World} (he : EntRep τ im ow i e w) (hf : e.free = true) {l : Loc} {b : Nat} (hl : ow i = some l) (hb : l.blk = some b) : im b = none := by
  obtain ⟨loc, h1, h2⟩ := he
  obtain rfl : loc = l := Option.some.inj (h1.symm.trans hl)
  cases e with
  | dead => cases hf
  | box fz t v =>
    obtain ⟨k1, k2, b', cells, el, fr, pre, mid, post, q1, q2, q3, q4, q5, q6, q7, q8⟩ := h2
    have : fz = false := by cases fz with | true => cases hf | false => rfl
    obtain rfl : b = b' := Option.some.inj (hb.symm.trans q1)
    exact q8.1 this
  | vec fz t nl els =>
    obtain ⟨k1, k2, k3⟩ := h2
    have : fz = false := by cases fz with | true => cases hf | false => rfl
    rcases k3 with k3 | ⟨_, b', cells, el, fr, pre, mid, post, q1, q2, q3, q4, q5, q6, q7, q8⟩
    · rw [k3.1] at hb; cases hb
    · obtain rfl : b = b' := Option.some.inj (hb.symm.trans q1)
      exact q8.1 this
theorem Ji.dead {τ : Tab} {P : Program} {g : FuncId} {sg : Sig} (h : Ji τ P g sg) :
    Ji τ P g { own := sg.own, run := fun xs es k => sg.run xs es fun r => bif r.news.isEmpty && decide (r.pars.length ≤ 15) then k ⟨r.val, r.pars, [.dead]⟩ else none } := by
  intro xs es k res hl hrun
  obtain ⟨r, hk, H⟩ := h xs es _ res hl hrun
  obtain ⟨hn, hk'⟩ := JI hk
  rw [Bool.and_eq_true, decide_eq_true_eq] at hn
  refine ⟨⟨r.val, r.pars, [.dead]⟩, hk', fun im ow w us hx hi => (H im ow w us hx hi).mono fun e w' hp => ?_⟩
  obtain ⟨u, im', ow', h1, h2, G⟩ := hp
  have hn0 : r.news = [] := List.isEmpty_iff.1 hn.1
  rw [hn0] at G
  have e16 : JE r.pars [] 16 = none := rfl
  have d16 : JE r.pars [.dead] 16 = some .dead := rfl
  have same : ∀ i, i ≠ 16 → JE r.pars [.dead] i = JE r.pars [] i := by
    intro i hi
    unfold JE
    by_cases h16 : i < 16
    · rw [if_pos h16, if_pos h16]
    · rw [if_neg h16, if_neg h16]
      obtain ⟨m, hm⟩ : ∃ m, i - 16 = m + 1 := ⟨i - 17, by omega⟩
      rw [hm]; rfl
  have o16 : ow' 16 = none := by
    cases ho : ow' 16 with
    | none => rfl
    | some l =>
      obtain ⟨e, he⟩ := G.inv.dom 16 l ho
      rw [e16] at he; cases he
  let ow2 : Own := QB ow' 16 ⟨none, 0, .box 0, 0⟩
  have t16 : ow2 16 = some ⟨none, 0, .box 0, 0⟩ := if_pos rfl
  have tne : ∀ i, i ≠ 16 → ow2 i = ow' i := fun i hi => if_neg hi
  have how : ∀ i l, ow' i = some l → ow2 i = some l := by
    intro i l hil
    by_cases h16 : i = 16
    · subst h16; rw [o16] at hil; cases hil
    · rw [tne i h16]; exact hil
  have live : ∀ i b, Live (JE r.pars [.dead]) ow2 i b → Live (JE r.pars []) ow' i b := by
    rintro i b ⟨e, l, q1, q2, q3, q4⟩
    by_cases h16 : i = 16
    · subst h16; rw [d16] at q1; obtain rfl := Option.some.inj q1; cases q2
    · exact ⟨e, l, by rw [← same i h16]; exact q1, q2, by rw [← tne i h16]; exact q3, q4⟩
  refine ⟨u, im', ow2, h1, Jc.mono (fun _ _ h => h) how _ _ h2, ⟨G.imX, fun i l hil => how i l (G.owX i l hil), ⟨G.inv.imOk, ?_, ?_, ?_⟩, G.size, G.keep, G.newim, fun i b hb => G.newlive i b (live i b hb), G.rest⟩⟩
  · intro i e he
    by_cases h16 : i = 16
    · subst h16; rw [d16] at he; obtain rfl := Option.some.inj he; exact ⟨_, t16, trivial⟩
    · rw [same i h16] at he
      have q := G.inv.ent i e he
      exact EntRep.keep (fun _ _ h => h) how (fun _ _ _ _ _ => rfl) (fun hf l b hl hb => q.free_none hf hl hb) q
  · intro i j b hi hj
    exact G.inv.inj i j b (live i b hi) (live j b hj)
  · intro i l hil
    by_cases h16 : i = 16
    · subst h16; exact ⟨_, d16⟩
    · rw [tne i h16] at hil
      obtain ⟨e, he⟩ := G.inv.dom i l hil
      exact ⟨e, by rw [same i h16]; exact he⟩


-- FN sign.Delta | sign.Open | sign.Entry | sign.Check | ref9.Delta | ref9.Open | ref9.Next | ref9.Entry | ref9.Check
noncomputable def h32 : List PV → Bool := hid fun h => Jf .u8 h && decide (h.length = 32)
theorem h32_iff {h : List PV} : h32 h = true ↔ Jf .u8 h = true ∧ h.length = 32 := by rw [h32, hid_eq, Bool.and_eq_true, decide_eq_true_eq]
noncomputable def kO3 : List PV → Bool := hid fun l => l.all fun p => kOk p.els
theorem Jdu {z0 f0 z1 f1 z2 f2 : Bool} {k0 k1 k2 : List PV} : kO3 [.ro 5 z0 f0 k0, .ro 5 z1 f1 k1, .ro 5 z2 f2 k2] = true ↔ kOk k0 = true ∧ kOk k1 = true ∧ kOk k2 = true := by
  rw [kO3, hid_eq]; simp [PV.els]
structure MK where
  (l : List PV) (d : Int) (t : List Int)
noncomputable def mcK : MK → List Int := hid fun m => Q1 (Je (Qs ⟨m.l, m.d⟩)) m.t
theorem Z4 (m : MK) : mcK m = Q1 (Je (Qs ⟨m.l, m.d⟩)) m.t := by rw [mcK, hid_eq]
theorem Ja5 (m : MK) : (mcK m).length = 32 := by rw [Z4]; exact GF _ _
structure NX where
  (p : List PV) (e : EV)
noncomputable def nxP : NX → List Int := hid fun x => Jt (Je x.p ++ Jw x.e)
theorem Jgn (x : NX) : nxP x = Jt (Je x.p ++ Jw x.e) := by rw [nxP, hid_eq]
theorem Ja6 (x : NX) : (nxP x).length = 32 := by rw [Jgn]; exact JX _
structure EM where
  (l : List PV) (d : Int) (e : EV) (h : List PV)
noncomputable def emP : EM → List Int := hid fun x => mcK ⟨x.l, x.d, Jw x.e ++ Je x.h⟩
theorem Ja7 (x : EM) : emP x = mcK ⟨x.l, x.d, Jw x.e ++ Je x.h⟩ := by rw [emP, hid_eq]
theorem Ja8 (x : EM) : (emP x).length = 32 := by rw [Ja7]; exact Ja5 _
structure EC where
  (l : List PV) (d : Int) (e : EV) (h m : List PV)
noncomputable def emC : EC → Bool := hid fun x => kIn x.d && (emP ⟨x.l, x.d, x.e, x.h⟩ == Je x.m)
theorem JkX (x : EC) : emC x = (kIn x.d && (emP ⟨x.l, x.d, x.e, x.h⟩ == Je x.m)) := by rw [emC, hid_eq]
structure SO where
  (l b m : List PV)
noncomputable def Z5 (x : SO) : Int := bif dE x.b == 0 then (bif kIn (dF 0 x.b) && (mcK ⟨x.l, dF 0 x.b, Je x.b⟩ == Je x.m) then 0 else 14) else dE x.b
noncomputable def soE : SO → Int := hid Z5
noncomputable def soF : Nat → SO → Int := hid fun i x => bif Z5 x == 0 then dF i x.b else 0
noncomputable def soH : SO → List Int := hid fun x => bif Z5 x == 0 then dH x.b else List.replicate 32 0
noncomputable def soO : SO → List PV := hid fun x => bif Z5 x == 0 then dO x.b else []
theorem Jgo (x : SO) : soE x = Z5 x := by rw [soE, hid_eq]
theorem Jgp (i : Nat) (x : SO) : soF i x = bif Z5 x == 0 then dF i x.b else 0 := by rw [soF, hid_eq]
theorem JkY (x : SO) : soH x = bif Z5 x == 0 then dH x.b else List.replicate 32 0 := by rw [soH, hid_eq]
theorem JkZ (x : SO) : soO x = bif Z5 x == 0 then dO x.b else [] := by rw [soO, hid_eq]
noncomputable def soP (x : SO) : PV := .tup [.st 73 [.st 45 [.sc (.int .i64 (soF 0 x)), .sc (.int .i64 (soF 1 x))], .sc (.int .i64 (soF 2 x)), .sc (.int .i64 (soF 3 x)), .ar 37 (pu .u8 (soH x)), .sc (.int .i64 (soF 4 x)), .ro 99 (soO x).isEmpty (soO x).isEmpty (soO x), .st 45 [.sc (.int .i64 (soF 5 x)), .sc (.int .i64 (soF 6 x))]], .sc (.int .i64 (soE x))]
theorem Jh2 {x : SO} {e : Int} (h : Z5 x = e) (h0 : (e == 0) = false) : soP x = Jh0 e := by
  simp only [soP, Jh0, Jgp, JkY, JkZ, Jgo, h, h0, cond_false, List.isEmpty_nil]
theorem JrP {x : SO} (h : Z5 x = 0) : soP x = .tup [.st 73 [.st 45 [.sc (.int .i64 (dF 0 x.b)), .sc (.int .i64 (dF 1 x.b))], .sc (.int .i64 (dF 2 x.b)), .sc (.int .i64 (dF 3 x.b)), .ar 37 (pu .u8 (dH x.b)), .sc (.int .i64 (dF 4 x.b)), .ro 99 (dO x.b).isEmpty (dO x.b).isEmpty (dO x.b), .st 45 [.sc (.int .i64 (dF 5 x.b)), .sc (.int .i64 (dF 6 x.b))]], .sc (.int .i64 0)] := by
  simp only [soP, Jgp, JkY, JkZ, Jgo, h, beq_self_eq_true, cond_true]
theorem fl1 (z f : Bool) (l : List PV) : Jk [.ro 5 z f l] = l := by simp [PV.els]
theorem fl2 (z f z' f' : Bool) (l l' : List PV) : Jk [.ro 5 z f l, .ro 5 z' f' l'] = l ++ l' := by simp [PV.els]
theorem QV {a b : List PV} (h : Jf .u8 a = true) (h' : Jf .u8 b = true) : Jf .u8 (a ++ b) = true := by
  induction a with
  | nil => exact h'
  | cons p ps ih =>
    have e : ∀ l : List PV, Jf .u8 (p :: l) = (p.isInt .u8 && Jf .u8 l) := fun l => rfl
    rw [e, Bool.and_eq_true] at h
    rw [List.cons_append, e, Bool.and_eq_true]; exact ⟨h.1, ih h.2⟩
theorem Zq (a b : List PV) : Je (a ++ b) = Je a ++ Je b := by simp [Je]
theorem JrQ {z0 f0 z1 f1 z2 f2 : Bool} {k0 k1 k2 : List PV} (h : kO3 [.ro 5 z0 f0 k0, .ro 5 z1 f1 k1, .ro 5 z2 f2 k2] = true) {d : Int} (hd : QM d 2 = true) :
    PV.isRo 5 (Jm (PV.st 31 [.ro 5 z0 f0 k0, .ro 5 z1 f1 k1, .ro 5 z2 f2 k2]) [d.toNat]) = true ∧ (Jm (PV.st 31 [.ro 5 z0 f0 k0, .ro 5 z1 f1 k1, .ro 5 z2 f2 k2]) [d.toNat]).els = Qs ⟨[.ro 5 z0 f0 k0, .ro 5 z1 f1 k1, .ro 5 z2 f2 k2], d⟩ := by
  rw [G0, WL, hd]
  simp only [QM, Bool.and_eq_true, decide_eq_true_eq] at hd
  have : d = 0 ∨ d = 1 ∨ d = 2 := by omega
  rcases this with rfl | rfl | rfl <;> exact ⟨rfl, rfl⟩
theorem Ja9 {z0 f0 z1 f1 z2 f2 : Bool} {k0 k1 k2 : List PV} (h : kO3 [.ro 5 z0 f0 k0, .ro 5 z1 f1 k1, .ro 5 z2 f2 k2] = true) (d : Int) : Jf .u8 (Qs ⟨[.ro 5 z0 f0 k0, .ro 5 z1 f1 k1, .ro 5 z2 f2 k2], d⟩) = true ∧ (Qs ⟨[.ro 5 z0 f0 k0, .ro 5 z1 f1 k1, .ro 5 z2 f2 k2], d⟩).length ≤ 1000000000 := by
  obtain ⟨a, b, c⟩ := Jdu.1 h
  have := Jmi (z0 := z0) (f0 := f0) (z1 := z1) (f1 := f1) (z2 := z2) (f2 := f2) a b c d
  rw [kOk, Bool.and_eq_true, decide_eq_true_eq] at this; exact this
theorem Jca {d : DV} (h : dOk d = true) : (dlB d).length ≤ 65618 := by rw [Ja2 h]; have := (X8.1 h).2.2.2; omega
theorem Xa {e : EV} (h : eOk e = true) : (Jw e).length ≤ 131114 := by rw [X7 h]; have := W7.1 h; omega
theorem Jww {b : List PV} (h : dE b = 0) : QM (dF 0 b) 2 = true := by
  rw [JeP] at h
  rw [JhZ, h]
  show QM (dv b).ad 2 = true
  have hq := h
  unfold dE0 at hq
  cases he : ((d9 b).e == 0) with
  | false => rw [he, cond_false] at hq; rw [hq] at he; cases he
  | true =>
    rw [he, cond_true] at hq
    cases h9 : decide ((d9 b).b.length > 0) with
    | true => rw [h9, cond_true] at hq; exact absurd hq (by decide)
    | false =>
      rw [h9, cond_false] at hq
      cases ho : (opE (dt b) == 0) with
      | false => rw [ho, cond_false] at hq; rw [hq] at ho; cases ho
      | true =>
        rw [ho, cond_true, Jdp] at hq
        unfold JkM at hq
        cases hi : inZ (dv b).ad 2 with
        | true => exact hi
        | false => rw [hi, Bool.false_and, cond_false] at hq; exact absurd hq (by decide)
/-! sign.Delta, ref9.Delta -/
noncomputable def Jgq : List PV → List Ent → (Res → Option Res) → Option Res
  | [.st 31 [.ro 5 z0 f0 k0, .ro 5 z1 f1 k1, .ro 5 z2 f2 k2], .st 73 [.st 45 [.sc (.int .i64 ad), .sc (.int .i64 au)], .sc (.int .i64 id1), .sc (.int .i64 ve), .ar 37 h, .sc (.int .i64 kd), .ro 99 oz of o, .st 45 [.sc (.int .i64 wd), .sc (.int .i64 wu)]]], [], k =>
    bif dOk ⟨ad, au, id1, ve, h, kd, o, wd, wu⟩ && kO3 [.ro 5 z0 f0 k0, .ro 5 z1 f1 k1, .ro 5 z2 f2 k2] then
      k ⟨.st 77 [.ro 5 false false (pu .u8 (dlB ⟨ad, au, id1, ve, h, kd, o, wd, wu⟩)), .ar 37 (pu .u8 (mcK ⟨[.ro 5 z0 f0 k0, .ro 5 z1 f1 k1, .ro 5 z2 f2 k2], ad, dlB ⟨ad, au, id1, ve, h, kd, o, wd, wu⟩⟩))], [], []⟩ else none
  | _, _, _ => none
noncomputable def Jwx : Sig := { own := [], run := Jgq }
theorem Jwy : Ji tau Try.prog 46 Jwx := Jys.of fun xs es k res hr => by
  change Jgq xs es k = some res at hr
  unfold Jgq at hr
  split at hr
  · rename_i z0 f0 k0 z1 f1 k1 z2 f2 k2 ad au id1 ve h kd oz of o wd wu
    obtain ⟨hc, hr⟩ := JI hr
    rw [Bool.and_eq_true] at hc
    have hK := Ja9 hc.2 ad
    have hs := Jca hc.1
    refine Eq.trans ?_ hr
    show g46 0 z0 f0 k0 z1 f1 k1 z2 f2 k2 ad au id1 ve h kd oz of o wd wu k = _
    unfold g46
    simp only [fl1, JK, Qf, JF]
    refine (Jb hc.1).trans ((Jb (by rw [hK.1]; simp; omega)).trans ?_)
    rw [Z4]
  · cases hr
/-! sign.Open, ref9.Open -/
noncomputable def Jgr : List PV → List Ent → (Res → Option Res) → Option Res
  | [.st 31 [.ro 5 z0 f0 k0, .ro 5 z1 f1 k1, .ro 5 z2 f2 k2], .st 77 [.ro 5 z f b, .ar 37 m]], [], k =>
    bif (slB z b && byB b) && (h32 m && kO3 [.ro 5 z0 f0 k0, .ro 5 z1 f1 k1, .ro 5 z2 f2 k2]) then
      k ⟨soP ⟨[.ro 5 z0 f0 k0, .ro 5 z1 f1 k1, .ro 5 z2 f2 k2], b, m⟩, [], []⟩ else none
  | _, _, _ => none
noncomputable def Jwz : Sig := { own := [], run := Jgr }
theorem JwA : Ji tau Try.prog 49 Jwz := JyE.of fun xs es k res hr => by
  change Jgr xs es k = some res at hr
  unfold Jgr at hr
  split at hr
  · rename_i z0 f0 k0 z1 f1 k1 z2 f2 k2 z f b m
    obtain ⟨hc, hr⟩ := JI hr
    simp only [Bool.and_eq_true] at hc
    have hK := Ja9 hc.2.2 (dF 0 b)
    obtain ⟨m1, m2⟩ := h32_iff.1 hc.2.1
    have hsl := (QZ.1 hc.1.1).2
    have hab := (Qy.1 hc.1.2).1
    refine Eq.trans ?_ hr
    show g49 0 z0 f0 k0 z1 f1 k1 z2 f2 k2 z f b m k = _
    generalize hx : SO.mk [.ro 5 z0 f0 k0, .ro 5 z1 f1 k1, .ro 5 z2 f2 k2] b m = x
    have hxb : x.b = b := by rw [← hx]
    have hE : Z5 x = Z5 x := rfl
    conv at hE => rhs; unfold Z5
    rw [hxb] at hE
    unfold g49
    simp only [fl1]
    refine (Jb (by rw [hc.1.1, hc.1.2]; rfl)).trans ?_
    cases he : (dE b == 0) with
    | false =>
      rw [he, cond_false] at hE
      rw [Jh2 hE he]
      exact Jb (by rw [bne, he]; rfl)
    | true =>
      rw [he, cond_true] at hE
      have hi := Jww (show dE b = 0 by simpa using he)
      have hk : kIn (dF 0 b) = true := by rw [Jgg]; exact hi
      rw [hk, Bool.true_and] at hE
      refine (JL (by rw [bne, he]; rfl)).trans ((JL (by rw [hk]; rfl)).trans ((Jb (by rw [hK.1, hab]; simp; omega)).trans ((Jb (by rw [JK, m1]; simp [GF, m2])).trans ?_)))
      have hmm : mcK ⟨x.l, dF 0 b, Je b⟩ = Q1 (Je (Qs ⟨[.ro 5 z0 f0 k0, .ro 5 z1 f1 k1, .ro 5 z2 f2 k2], dF 0 b⟩)) (Je b) := by rw [Z4, ← hx]
      have hxm : x.m = m := by rw [← hx]
      rw [hxm, hmm] at hE
      have hq : Qt (pu .u8 (Q1 (Je (Qs ⟨[.ro 5 z0 f0 k0, .ro 5 z1 f1 k1, .ro 5 z2 f2 k2], dF 0 b⟩)) (Je b))) m = (Q1 (Je (Qs ⟨[.ro 5 z0 f0 k0, .ro 5 z1 f1 k1, .ro 5 z2 f2 k2], dF 0 b⟩)) (Je b) == Je m) := by
        conv => lhs; rw [show m = pu .u8 (Je m) from (Qa m1)]
        exact Xn _ _ _
      rw [hq]
      cases hm : (Q1 (Je (Qs ⟨[.ro 5 z0 f0 k0, .ro 5 z1 f1 k1, .ro 5 z2 f2 k2], dF 0 b⟩)) (Je b) == Je m) with
      | false =>
        rw [hm, cond_false] at hE
        rw [Jh2 hE (by decide)]
        rfl
      | true =>
        rw [hm, cond_true] at hE
        rw [JrP hE, hxb]
        rfl
  · cases hr
/-! entries -/
noncomputable def Jgs : List PV → List Ent → (Res → Option Res) → Option Res
  | [.st 31 [.ro 5 z0 f0 k0, .ro 5 z1 f1 k1, .ro 5 z2 f2 k2], .sc (.int .i64 ho), .ar 37 pr, .st 77 [.ro 5 z f b, .ar 37 m], .sc (.int .i64 at1), .ro 99 oz of o], [], k =>
    bif (slB z b && eOk ⟨b, m, at1, o⟩) && (h32 pr && kO3 [.ro 5 z0 f0 k0, .ro 5 z1 f1 k1, .ro 5 z2 f2 k2]) then
      k ⟨.st 93 [.st 77 [.ro 5 z z b, .ar 37 m], .sc (.int .i64 at1), .ro 99 o.isEmpty false o, .ar 37 (pu .u8 (nxP ⟨pr, ⟨b, m, at1, o⟩⟩)), .ar 37 (pu .u8 (emP ⟨[.ro 5 z0 f0 k0, .ro 5 z1 f1 k1, .ro 5 z2 f2 k2], ho, ⟨b, m, at1, o⟩, pu .u8 (nxP ⟨pr, ⟨b, m, at1, o⟩⟩)⟩))], [], []⟩ else none
  | _, _, _ => none
noncomputable def JwB : Sig := { own := [], run := Jgs }
theorem JwC : Ji tau Try.prog 55 JwB := JyJ.of fun xs es k res hr => by
  change Jgs xs es k = some res at hr
  unfold Jgs at hr
  split at hr
  · rename_i z0 f0 k0 z1 f1 k1 z2 f2 k2 ho pr z f b m at1 oz of o
    obtain ⟨hc, hr⟩ := JI hr
    simp only [Bool.and_eq_true] at hc
    have hK := Ja9 hc.2.2 ho
    obtain ⟨p1, p2⟩ := h32_iff.1 hc.2.1
    obtain ⟨s1, s2⟩ := QZ.1 hc.1.1
    have hcl := Xa hc.1.2
    have heo := W7.1 hc.1.2
    have hol : o.length ≤ 1000 := (X6.1 heo.2.2.2.2.1).2.2
    have hnl := Ja6 ⟨pr, ⟨b, m, at1, o⟩⟩
    have htp : List.take 32 pr = pr := List.take_of_length_le (by omega)
    have hth : List.take 32 (pu .u8 (nxP ⟨pr, ⟨b, m, at1, o⟩⟩)) = pu .u8 (nxP ⟨pr, ⟨b, m, at1, o⟩⟩) := List.take_of_length_le (by rw [JF]; omega)
    have hnx : Jt (Je pr ++ Jw ⟨b, m, at1, o⟩) = nxP ⟨pr, ⟨b, m, at1, o⟩⟩ := by rw [Jgn]
    have hem : Q1 (Je (Qs ⟨[.ro 5 z0 f0 k0, .ro 5 z1 f1 k1, .ro 5 z2 f2 k2], ho⟩)) (Jw ⟨b, m, at1, o⟩ ++ nxP ⟨pr, ⟨b, m, at1, o⟩⟩) = emP ⟨[.ro 5 z0 f0 k0, .ro 5 z1 f1 k1, .ro 5 z2 f2 k2], ho, ⟨b, m, at1, o⟩, pu .u8 (nxP ⟨pr, ⟨b, m, at1, o⟩⟩)⟩ := by rw [Ja7, Z4, Qf]
    have hnil : (Ent.vec true 99 o.isEmpty o).nil = o.isEmpty := by simp [Ent.nil]
    refine Eq.trans ?_ hr
    show g55 0 z0 f0 k0 z1 f1 k1 z2 f2 k2 ho pr z f b m at1 oz of o k = _
    unfold g55
    cases z with
    | true =>
      obtain rfl := s1 rfl
      simp only [List.take_length, Nat.zero_add, fl2, htp, Zq, Qf, hnx, hth, hem, hnil]
      refine (Jb rfl).trans ((Jb (by simp [Jj]; omega)).trans ((Jb hc.1.2).trans ((Jb (by rw [QV p1 (JK _ _)]; simp; omega)).trans ((Jb (by rw [hK.1, QV (JK _ _) (JK _ _)]; simp; omega)).trans ?_))))
      rfl
    | false =>
      simp only [List.take_length, Nat.zero_add, fl2, htp, Zq, Qf, hnx, hth, hem, hnil]
      refine (JL rfl).trans ((Jb (by simp [Jj]; omega)).trans ((Jb (by simp [Jj]; omega)).trans ((Jb hc.1.2).trans ((Jb (by rw [QV p1 (JK _ _)]; simp; omega)).trans ((Jb (by rw [hK.1, QV (JK _ _) (JK _ _)]; simp; omega)).trans ?_)))))
      rfl
  · cases hr
noncomputable def Jgt : List PV → List Ent → (Res → Option Res) → Option Res
  | [.ar 37 pr, .st 93 [.st 77 [.ro 5 z f b, .ar 37 m], .sc (.int .i64 at1), .ro 99 oz of o, .ar 37 h, .ar 37 mc]], [], k =>
    bif h32 pr && eOk ⟨b, m, at1, o⟩ then k ⟨.ar 37 (pu .u8 (nxP ⟨pr, ⟨b, m, at1, o⟩⟩)), [], []⟩ else none
  | _, _, _ => none
noncomputable def JwD : Sig := { own := [], run := Jgt }
theorem JwE : Ji tau Try.prog 62 JwD := JyR.of fun xs es k res hr => by
  change Jgt xs es k = some res at hr
  unfold Jgt at hr
  split at hr
  · rename_i pr z f b m at1 oz of o h mc
    obtain ⟨hc, hr⟩ := JI hr
    rw [Bool.and_eq_true] at hc
    obtain ⟨p1, p2⟩ := h32_iff.1 hc.1
    have hcl := Xa hc.2
    have htp : List.take 32 pr = pr := List.take_of_length_le (by omega)
    have htc : List.take (Jw ⟨b, m, at1, o⟩).length (pu .u8 (Jw ⟨b, m, at1, o⟩)) = pu .u8 (Jw ⟨b, m, at1, o⟩) := List.take_of_length_le (by simp)
    have htn : List.take (pr.length + (Jw ⟨b, m, at1, o⟩).length) (pr ++ pu .u8 (Jw ⟨b, m, at1, o⟩)) = pr ++ pu .u8 (Jw ⟨b, m, at1, o⟩) := List.take_of_length_le (by simp)
    refine Eq.trans ?_ hr
    show g62 0 pr z f b m at1 oz of o h mc k = _
    unfold g62
    simp only [List.take_length, Nat.zero_add, htp, htc, JF, htn, Zq, Qf]
    refine (Jb (by simp [Jj]; omega)).trans ((Jb hc.2).trans ((Jb (by simp [Jj]; omega)).trans ((Jb (by rw [QV p1 (JK _ _)]; simp; omega)).trans ?_)))
    rw [Jgn]
  · cases hr
noncomputable def Jgu : List PV → List Ent → (Res → Option Res) → Option Res
  | [.st 31 [.ro 5 z0 f0 k0, .ro 5 z1 f1 k1, .ro 5 z2 f2 k2], .sc (.int .i64 ho), .st 93 [.st 77 [.ro 5 z f b, .ar 37 m], .sc (.int .i64 at1), .ro 99 oz of o, .ar 37 h, .ar 37 mc]], [], k =>
    bif eOk ⟨b, m, at1, o⟩ && (h32 h && (h32 mc && kO3 [.ro 5 z0 f0 k0, .ro 5 z1 f1 k1, .ro 5 z2 f2 k2])) then
      k ⟨.sc (.bool (emC ⟨[.ro 5 z0 f0 k0, .ro 5 z1 f1 k1, .ro 5 z2 f2 k2], ho, ⟨b, m, at1, o⟩, h, mc⟩)), [], []⟩ else none
  | _, _, _ => none
noncomputable def JwF : Sig := { own := [], run := Jgu }
theorem JwG : Ji tau Try.prog 60 JwF := JyN.of fun xs es k res hr => by
  change Jgu xs es k = some res at hr
  unfold Jgu at hr
  split at hr
  · rename_i z0 f0 k0 z1 f1 k1 z2 f2 k2 ho z f b m at1 oz of o h mc
    obtain ⟨hc, hr⟩ := JI hr
    simp only [Bool.and_eq_true] at hc
    obtain ⟨c1, c2, c3, c4⟩ := hc
    have hK := Ja9 c4 ho
    obtain ⟨p1, p2⟩ := h32_iff.1 c2
    obtain ⟨m1, m2⟩ := h32_iff.1 c3
    have hcl := Xa c1
    have hth : List.take 32 h = h := List.take_of_length_le (by omega)
    have hem : Q1 (Je (Qs ⟨[.ro 5 z0 f0 k0, .ro 5 z1 f1 k1, .ro 5 z2 f2 k2], ho⟩)) (Jw ⟨b, m, at1, o⟩ ++ Je h) = emP ⟨[.ro 5 z0 f0 k0, .ro 5 z1 f1 k1, .ro 5 z2 f2 k2], ho, ⟨b, m, at1, o⟩, h⟩ := by rw [Ja7, Z4]
    have hq : ∀ l : List Int, Qt (pu .u8 l) mc = (l == Je mc) := fun l => by
      conv => lhs; rw [show mc = pu .u8 (Je mc) from (Qa m1)]
      exact Xn _ _ _
    rw [JkX] at hr
    refine Eq.trans ?_ hr
    show g60 0 z0 f0 k0 z1 f1 k1 z2 f2 k2 ho z f b m at1 oz of o h mc k = _
    unfold g60
    cases kIn ho with
    | false => rfl
    | true =>
      simp only [fl2, hth, Zq, Qf, hem, hq, JK]
      refine (Jb rfl).trans ((Jb c1).trans ((Jb (by rw [hK.1, QV (JK _ _) p1]; simp; omega)).trans ((Jb (by rw [m1]; simp [Ja8, m2])).trans ?_)))
      rfl
  · cases hr
noncomputable def F42 : Fns := JG 60 JwF (JG 49 Jwz (JG 46 Jwx (JG 21 JqT (F0))))
theorem JrR : Jz tau Try.prog F42 := ((((JH).add JoC Jse).add Jwy Jyr).add JwA JyD).add JwG JyM
def Jnn : An := (.seq .leaf (.seq .leaf (.seq .leaf (.seq .leaf (.seq .leaf .leaf)))))
noncomputable def g42 (f : Nat) (k : Res → Option Res) : Option Res := bif dOk (DV.mk 0 0 0 0 [.sc (.int .u8 0), .sc (.int .u8 0), .sc (.int .u8 0), .sc (.int .u8 0), .sc (.int .u8 0), .sc (.int .u8 0), .sc (.int .u8 0), .sc (.int .u8 0), .sc (.int .u8 0), .sc (.int .u8 0), .sc (.int .u8 0), .sc (.int .u8 0), .sc (.int .u8 0), .sc (.int .u8 0), .sc (.int .u8 0), .sc (.int .u8 0), .sc (.int .u8 0), .sc (.int .u8 0), .sc (.int .u8 0), .sc (.int .u8 0), .sc (.int .u8 0), .sc (.int .u8 0), .sc (.int .u8 0), .sc (.int .u8 0), .sc (.int .u8 0), .sc (.int .u8 0), .sc (.int .u8 0), .sc (.int .u8 0), .sc (.int .u8 0), .sc (.int .u8 0), .sc (.int .u8 0), .sc (.int .u8 0)] 2 [] 0 0) && kO3 [.ro 5 false false (kb 0 []), .ro 5 false false (kb 1 []), .ro 5 false false (kb 2 [])] then bif slB false (pu IntKind.u8 (dlB (DV.mk 0 0 0 0 [.sc (.int .u8 0), .sc (.int .u8 0), .sc (.int .u8 0), .sc (.int .u8 0), .sc (.int .u8 0), .sc (.int .u8 0), .sc (.int .u8 0), .sc (.int .u8 0), .sc (.int .u8 0), .sc (.int .u8 0), .sc (.int .u8 0), .sc (.int .u8 0), .sc (.int .u8 0), .sc (.int .u8 0), .sc (.int .u8 0), .sc (.int .u8 0), .sc (.int .u8 0), .sc (.int .u8 0), .sc (.int .u8 0), .sc (.int .u8 0), .sc (.int .u8 0), .sc (.int .u8 0), .sc (.int .u8 0), .sc (.int .u8 0), .sc (.int .u8 0), .sc (.int .u8 0), .sc (.int .u8 0), .sc (.int .u8 0), .sc (.int .u8 0), .sc (.int .u8 0), .sc (.int .u8 0), .sc (.int .u8 0)] 2 [] 0 0))) && byB (pu IntKind.u8 (dlB (DV.mk 0 0 0 0 [.sc (.int .u8 0), .sc (.int .u8 0), .sc (.int .u8 0), .sc (.int .u8 0), .sc (.int .u8 0), .sc (.int .u8 0), .sc (.int .u8 0), .sc (.int .u8 0), .sc (.int .u8 0), .sc (.int .u8 0), .sc (.int .u8 0), .sc (.int .u8 0), .sc (.int .u8 0), .sc (.int .u8 0), .sc (.int .u8 0), .sc (.int .u8 0), .sc (.int .u8 0), .sc (.int .u8 0), .sc (.int .u8 0), .sc (.int .u8 0), .sc (.int .u8 0), .sc (.int .u8 0), .sc (.int .u8 0), .sc (.int .u8 0), .sc (.int .u8 0), .sc (.int .u8 0), .sc (.int .u8 0), .sc (.int .u8 0), .sc (.int .u8 0), .sc (.int .u8 0), .sc (.int .u8 0), .sc (.int .u8 0)] 2 [] 0 0))) && (h32 (pu IntKind.u8 (mcK (MK.mk [.ro 5 false false (kb 0 []), .ro 5 false false (kb 1 []), .ro 5 false false (kb 2 [])] 0 (dlB (DV.mk 0 0 0 0 [.sc (.int .u8 0), .sc (.int .u8 0), .sc (.int .u8 0), .sc (.int .u8 0), .sc (.int .u8 0), .sc (.int .u8 0), .sc (.int .u8 0), .sc (.int .u8 0), .sc (.int .u8 0), .sc (.int .u8 0), .sc (.int .u8 0), .sc (.int .u8 0), .sc (.int .u8 0), .sc (.int .u8 0), .sc (.int .u8 0), .sc (.int .u8 0), .sc (.int .u8 0), .sc (.int .u8 0), .sc (.int .u8 0), .sc (.int .u8 0), .sc (.int .u8 0), .sc (.int .u8 0), .sc (.int .u8 0), .sc (.int .u8 0), .sc (.int .u8 0), .sc (.int .u8 0), .sc (.int .u8 0), .sc (.int .u8 0), .sc (.int .u8 0), .sc (.int .u8 0), .sc (.int .u8 0), .sc (.int .u8 0)] 2 [] 0 0))))) && kO3 [.ro 5 false false (kb 0 []), .ro 5 false false (kb 1 []), .ro 5 false false (kb 2 [])]) then bif soE (SO.mk [.ro 5 false false (kb 0 []), .ro 5 false false (kb 1 []), .ro 5 false false (kb 2 [])] (pu IntKind.u8 (dlB (DV.mk 0 0 0 0 [.sc (.int .u8 0), .sc (.int .u8 0), .sc (.int .u8 0), .sc (.int .u8 0), .sc (.int .u8 0), .sc (.int .u8 0), .sc (.int .u8 0), .sc (.int .u8 0), .sc (.int .u8 0), .sc (.int .u8 0), .sc (.int .u8 0), .sc (.int .u8 0), .sc (.int .u8 0), .sc (.int .u8 0), .sc (.int .u8 0), .sc (.int .u8 0), .sc (.int .u8 0), .sc (.int .u8 0), .sc (.int .u8 0), .sc (.int .u8 0), .sc (.int .u8 0), .sc (.int .u8 0), .sc (.int .u8 0), .sc (.int .u8 0), .sc (.int .u8 0), .sc (.int .u8 0), .sc (.int .u8 0), .sc (.int .u8 0), .sc (.int .u8 0), .sc (.int .u8 0), .sc (.int .u8 0), .sc (.int .u8 0)] 2 [] 0 0))) (pu IntKind.u8 (mcK (MK.mk [.ro 5 false false (kb 0 []), .ro 5 false false (kb 1 []), .ro 5 false false (kb 2 [])] 0 (dlB (DV.mk 0 0 0 0 [.sc (.int .u8 0), .sc (.int .u8 0), .sc (.int .u8 0), .sc (.int .u8 0), .sc (.int .u8 0), .sc (.int .u8 0), .sc (.int .u8 0), .sc (.int .u8 0), .sc (.int .u8 0), .sc (.int .u8 0), .sc (.int .u8 0), .sc (.int .u8 0), .sc (.int .u8 0), .sc (.int .u8 0), .sc (.int .u8 0), .sc (.int .u8 0), .sc (.int .u8 0), .sc (.int .u8 0), .sc (.int .u8 0), .sc (.int .u8 0), .sc (.int .u8 0), .sc (.int .u8 0), .sc (.int .u8 0), .sc (.int .u8 0), .sc (.int .u8 0), .sc (.int .u8 0), .sc (.int .u8 0), .sc (.int .u8 0), .sc (.int .u8 0), .sc (.int .u8 0), .sc (.int .u8 0), .sc (.int .u8 0)] 2 [] 0 0)))))) == 0 then bif soF 4 (SO.mk [.ro 5 false false (kb 0 []), .ro 5 false false (kb 1 []), .ro 5 false false (kb 2 [])] (pu IntKind.u8 (dlB (DV.mk 0 0 0 0 [.sc (.int .u8 0), .sc (.int .u8 0), .sc (.int .u8 0), .sc (.int .u8 0), .sc (.int .u8 0), .sc (.int .u8 0), .sc (.int .u8 0), .sc (.int .u8 0), .sc (.int .u8 0), .sc (.int .u8 0), .sc (.int .u8 0), .sc (.int .u8 0), .sc (.int .u8 0), .sc (.int .u8 0), .sc (.int .u8 0), .sc (.int .u8 0), .sc (.int .u8 0), .sc (.int .u8 0), .sc (.int .u8 0), .sc (.int .u8 0), .sc (.int .u8 0), .sc (.int .u8 0), .sc (.int .u8 0), .sc (.int .u8 0), .sc (.int .u8 0), .sc (.int .u8 0), .sc (.int .u8 0), .sc (.int .u8 0), .sc (.int .u8 0), .sc (.int .u8 0), .sc (.int .u8 0), .sc (.int .u8 0)] 2 [] 0 0))) (pu IntKind.u8 (mcK (MK.mk [.ro 5 false false (kb 0 []), .ro 5 false false (kb 1 []), .ro 5 false false (kb 2 [])] 0 (dlB (DV.mk 0 0 0 0 [.sc (.int .u8 0), .sc (.int .u8 0), .sc (.int .u8 0), .sc (.int .u8 0), .sc (.int .u8 0), .sc (.int .u8 0), .sc (.int .u8 0), .sc (.int .u8 0), .sc (.int .u8 0), .sc (.int .u8 0), .sc (.int .u8 0), .sc (.int .u8 0), .sc (.int .u8 0), .sc (.int .u8 0), .sc (.int .u8 0), .sc (.int .u8 0), .sc (.int .u8 0), .sc (.int .u8 0), .sc (.int .u8 0), .sc (.int .u8 0), .sc (.int .u8 0), .sc (.int .u8 0), .sc (.int .u8 0), .sc (.int .u8 0), .sc (.int .u8 0), .sc (.int .u8 0), .sc (.int .u8 0), .sc (.int .u8 0), .sc (.int .u8 0), .sc (.int .u8 0), .sc (.int .u8 0), .sc (.int .u8 0)] 2 [] 0 0)))))) == 2 then bif eOk (EV.mk [] [.sc (.int .u8 0), .sc (.int .u8 0), .sc (.int .u8 0), .sc (.int .u8 0), .sc (.int .u8 0), .sc (.int .u8 0), .sc (.int .u8 0), .sc (.int .u8 0), .sc (.int .u8 0), .sc (.int .u8 0), .sc (.int .u8 0), .sc (.int .u8 0), .sc (.int .u8 0), .sc (.int .u8 0), .sc (.int .u8 0), .sc (.int .u8 0), .sc (.int .u8 0), .sc (.int .u8 0), .sc (.int .u8 0), .sc (.int .u8 0), .sc (.int .u8 0), .sc (.int .u8 0), .sc (.int .u8 0), .sc (.int .u8 0), .sc (.int .u8 0), .sc (.int .u8 0), .sc (.int .u8 0), .sc (.int .u8 0), .sc (.int .u8 0), .sc (.int .u8 0), .sc (.int .u8 0), .sc (.int .u8 0)] 0 []) && (h32 [.sc (.int .u8 0), .sc (.int .u8 0), .sc (.int .u8 0), .sc (.int .u8 0), .sc (.int .u8 0), .sc (.int .u8 0), .sc (.int .u8 0), .sc (.int .u8 0), .sc (.int .u8 0), .sc (.int .u8 0), .sc (.int .u8 0), .sc (.int .u8 0), .sc (.int .u8 0), .sc (.int .u8 0), .sc (.int .u8 0), .sc (.int .u8 0), .sc (.int .u8 0), .sc (.int .u8 0), .sc (.int .u8 0), .sc (.int .u8 0), .sc (.int .u8 0), .sc (.int .u8 0), .sc (.int .u8 0), .sc (.int .u8 0), .sc (.int .u8 0), .sc (.int .u8 0), .sc (.int .u8 0), .sc (.int .u8 0), .sc (.int .u8 0), .sc (.int .u8 0), .sc (.int .u8 0), .sc (.int .u8 0)] && (h32 [.sc (.int .u8 0), .sc (.int .u8 0), .sc (.int .u8 0), .sc (.int .u8 0), .sc (.int .u8 0), .sc (.int .u8 0), .sc (.int .u8 0), .sc (.int .u8 0), .sc (.int .u8 0), .sc (.int .u8 0), .sc (.int .u8 0), .sc (.int .u8 0), .sc (.int .u8 0), .sc (.int .u8 0), .sc (.int .u8 0), .sc (.int .u8 0), .sc (.int .u8 0), .sc (.int .u8 0), .sc (.int .u8 0), .sc (.int .u8 0), .sc (.int .u8 0), .sc (.int .u8 0), .sc (.int .u8 0), .sc (.int .u8 0), .sc (.int .u8 0), .sc (.int .u8 0), .sc (.int .u8 0), .sc (.int .u8 0), .sc (.int .u8 0), .sc (.int .u8 0), .sc (.int .u8 0), .sc (.int .u8 0)] && kO3 [.ro 5 false false (kb 0 []), .ro 5 false false (kb 1 []), .ro 5 false false (kb 2 [])])) then k (Res.mk (.sc (.bool !emC (EC.mk [.ro 5 false false (kb 0 []), .ro 5 false false (kb 1 []), .ro 5 false false (kb 2 [])] 0 (EV.mk [] [.sc (.int .u8 0), .sc (.int .u8 0), .sc (.int .u8 0), .sc (.int .u8 0), .sc (.int .u8 0), .sc (.int .u8 0), .sc (.int .u8 0), .sc (.int .u8 0), .sc (.int .u8 0), .sc (.int .u8 0), .sc (.int .u8 0), .sc (.int .u8 0), .sc (.int .u8 0), .sc (.int .u8 0), .sc (.int .u8 0), .sc (.int .u8 0), .sc (.int .u8 0), .sc (.int .u8 0), .sc (.int .u8 0), .sc (.int .u8 0), .sc (.int .u8 0), .sc (.int .u8 0), .sc (.int .u8 0), .sc (.int .u8 0), .sc (.int .u8 0), .sc (.int .u8 0), .sc (.int .u8 0), .sc (.int .u8 0), .sc (.int .u8 0), .sc (.int .u8 0), .sc (.int .u8 0), .sc (.int .u8 0)] 0 []) [.sc (.int .u8 0), .sc (.int .u8 0), .sc (.int .u8 0), .sc (.int .u8 0), .sc (.int .u8 0), .sc (.int .u8 0), .sc (.int .u8 0), .sc (.int .u8 0), .sc (.int .u8 0), .sc (.int .u8 0), .sc (.int .u8 0), .sc (.int .u8 0), .sc (.int .u8 0), .sc (.int .u8 0), .sc (.int .u8 0), .sc (.int .u8 0), .sc (.int .u8 0), .sc (.int .u8 0), .sc (.int .u8 0), .sc (.int .u8 0), .sc (.int .u8 0), .sc (.int .u8 0), .sc (.int .u8 0), .sc (.int .u8 0), .sc (.int .u8 0), .sc (.int .u8 0), .sc (.int .u8 0), .sc (.int .u8 0), .sc (.int .u8 0), .sc (.int .u8 0), .sc (.int .u8 0), .sc (.int .u8 0)] [.sc (.int .u8 0), .sc (.int .u8 0), .sc (.int .u8 0), .sc (.int .u8 0), .sc (.int .u8 0), .sc (.int .u8 0), .sc (.int .u8 0), .sc (.int .u8 0), .sc (.int .u8 0), .sc (.int .u8 0), .sc (.int .u8 0), .sc (.int .u8 0), .sc (.int .u8 0), .sc (.int .u8 0), .sc (.int .u8 0), .sc (.int .u8 0), .sc (.int .u8 0), .sc (.int .u8 0), .sc (.int .u8 0), .sc (.int .u8 0), .sc (.int .u8 0), .sc (.int .u8 0), .sc (.int .u8 0), .sc (.int .u8 0), .sc (.int .u8 0), .sc (.int .u8 0), .sc (.int .u8 0), .sc (.int .u8 0), .sc (.int .u8 0), .sc (.int .u8 0), .sc (.int .u8 0), .sc (.int .u8 0)]))) [] []) else none else k (Res.mk (.sc (.bool false)) [] []) else k (Res.mk (.sc (.bool false)) [] []) else none else none
theorem e42 (f : Nat) (k : Res → Option Res) : JR tau F42 Try.f42 (Try.f42.body.get!) Jnn [.ro] 0 [] [] k = g42 f k := by kernel_rfl
theorem JyS (f : Nat) : Jg (Try.f42.body.get!) Jnn = [] := by kernel_rfl
theorem JyT (f : Nat) : ∀ q ∈ Jg (Try.f42.body.get!) Jnn, q.Ok tau Try.prog 0 := by
  rw [JyS f]; intro q hq; cases hq
theorem JwH : Try.prog.funcs[42]? = some Try.f42 := by kernel_rfl
theorem JwI : Try.f42.body = some (Try.f42.body.get!) := by kernel_rfl
theorem JyU : Enters Try.prog 42 := enters_of JwH (by kernel_rfl) JwI
noncomputable def Jk0 : List PV → List Ent → (Res → Option Res) → Option Res
  | [], [], k => g42 0  k
  | _, _, _ => none
noncomputable def s42 : Sig := { own := [], run := Jk0 }
theorem JyV : Ji tau Try.prog 42 s42 := J3 Jr JrR Js JwH JwI Jnn [.ro] 0 [] Jk0 (JyT 0) fun xs es k res hr => by
  unfold Jk0 at hr
  split at hr
  · exact ⟨rfl, 0, (e42 0  _).trans hr⟩
  · cases hr
-- FN
theorem Jk1 {c : CV} (h : ckC c = 0) : 1 ≤ c.kd ∧ c.kd ≤ 3 ∧ 0 ≤ c.n ∧ c.n ≤ 120 ∧ c.s.size ≤ 120 := by
  rw [Jks] at h
  unfold JmP at h
  cases h1 : (c.kd == 1 || c.kd == 3) with
  | true =>
    rw [h1, cond_true] at h
    cases h2 : (decide (c.n < 1) || (decide (c.n > 120) || !(c.s.size == 0))) with
    | true => rw [h2, cond_true] at h; exact absurd h (by decide)
    | false =>
      simp only [Bool.or_eq_false_iff, decide_eq_false_iff_not, Bool.not_eq_false', beq_iff_eq] at h2
      simp only [Bool.or_eq_true, beq_iff_eq] at h1
      omega
  | false =>
    rw [h1, cond_false] at h
    cases h3 : (c.kd == 2) with
    | false => rw [h3, cond_false] at h; exact absurd h (by decide)
    | true =>
      rw [h3, cond_true] at h
      cases h2 : (!(c.n == 0) || c.s.size == 0) with
      | true => rw [h2, cond_true] at h; exact absurd h (by decide)
      | false =>
        rw [h2, cond_false] at h
        cases h4 : decide (zi c.s.size > 120) with
        | true => rw [h4, cond_true] at h; exact absurd h (by decide)
        | false =>
          simp only [Bool.or_eq_false_iff, Bool.not_eq_false', beq_iff_eq] at h2
          simp only [zi, decide_eq_false_iff_not] at h4
          simp only [beq_iff_eq] at h3
          omega
theorem JeQ : ∀ {l : List PV}, ckL l = 0 → ∀ p ∈ l, ckC (cv p) = 0
  | [], _, p, hp => by cases hp
  | q :: r, h, p, hp => by
      simp only [ckL] at h
      cases hq : (ckC (cv q) == 0) with
      | false => rw [hq, cond_false] at h; rw [h] at hq; exact absurd hq (by decide)
      | true =>
        rw [hq, cond_true] at h
        rcases List.mem_cons.1 hp with rfl | hp
        · simpa using hq
        · exact JeQ h p hp
theorem Jk2 {l : List PV} (h : ckO l = 0) : l.length ≤ 40 ∧ ∀ p ∈ l, ckC (cv p) = 0 := by
  rw [Jgc] at h
  unfold JmS at h
  cases hc : decide (zi l.length > 40) with
  | true => rw [hc, cond_true] at h; exact absurd h (by decide)
  | false =>
    rw [hc, cond_false] at h
    simp only [zi, decide_eq_false_iff_not] at hc
    exact ⟨by omega, JeQ h⟩
theorem QO {n : Int} (h : -1000000000000 ≤ n) (h2 : n ≤ 1000000000000) : i64B n = true := by
  unfold i64B; simp only [Bool.and_eq_true, decide_eq_true_eq]; omega
theorem Jba {n : Int} (h : 0 ≤ n) (h2 : n < 256) : IntKind.u8.wrap n = n := by
  have := WJ n; omega
theorem Jno {p : PV} (h : Y4 p = true) (hc : ckC (cv p) = 0) (r : List PV) : cpV ⟨pu .u8 (Y5 (cv p)) ++ r, 0⟩ = p ∧ cpN ⟨pu .u8 (Y5 (cv p)) ++ r, 0⟩ = ⟨r, 0⟩ := by
  obtain ⟨kd, n, s, rfl⟩ := JaX.1 h
  have hz := Jk1 hc
  have hcv : cv (.st 99 [.sc (.int .i64 kd), .sc (.int .i64 n), .sc (.string s)]) = ⟨kd, n, s⟩ := rfl
  rw [hcv] at hz ⊢
  simp only at hz
  have e1 : pu .u8 (Y5 ⟨kd, n, s⟩) ++ r = pu .u8 [IntKind.u8.wrap kd] ++ (pu .u8 (J4 n) ++ (pu .u8 (Qg s) ++ r)) := by
    simp only [Y5, JN, List.append_assoc]
  obtain ⟨t1, t2⟩ := Jhr (t := s) (by omega) r
  rw [e1]
  unfold cpV cpN
  rw [JaP, Zk, XQ (QO (by omega) (by omega)), QF, t1, t2, Jba (by omega) (by omega)]
  exact ⟨rfl, rfl⟩
theorem JeR : ∀ (l : List PV) (r : List PV), l.all Y4 = true → (∀ p ∈ l, ckC (cv p) = 0) → cpL l.length ⟨pu .u8 (Qc l) ++ r, 0⟩ = l ∧ cpR l.length ⟨pu .u8 (Qc l) ++ r, 0⟩ = ⟨r, 0⟩
  | [], r, _, _ => ⟨rfl, by simp [Qc, cpR]⟩
  | p :: l, r, h, hc => by
      rw [List.all_cons, Bool.and_eq_true] at h
      have e : pu .u8 (Qc (p :: l)) ++ r = pu .u8 (Y5 (cv p)) ++ (pu .u8 (Qc l) ++ r) := by
        simp only [Qc, List.flatMap_cons, JN, List.append_assoc]
      obtain ⟨a, b⟩ := Jno h.1 (hc p List.mem_cons_self) (pu .u8 (Qc l) ++ r)
      obtain ⟨c, d⟩ := JeR l r h.2 fun q hq => hc q (List.mem_cons_of_mem _ hq)
      rw [e, List.length_cons, cpL, cpR, a, b, c, d]
      exact ⟨rfl, rfl⟩
theorem Jnp {l : List PV} (h : l.all Y4 = true) (hc : ckO l = 0) : opE (pu .u8 (opB l)) = 0 ∧ opL (pu .u8 (opB l)) = l := by
  obtain ⟨h1, h2⟩ := Jk2 hc
  have e : pu .u8 (opB l) = pu .u8 [IntKind.u8.wrap (zi l.length)] ++ (pu .u8 (Qc l) ++ []) := by
    rw [Gf, JiD]; simp only [JN, List.append_nil]
  have hw : IntKind.u8.wrap (zi l.length) = (l.length : Int) := Jba (by simp only [zi]; omega) (by simp only [zi]; omega)
  have hn : JA 1 ⟨pu .u8 (opB l), 0⟩ = (l.length : Int) := by rw [e, JaP, hw]
  have hs : Ja 1 ⟨pu .u8 (opB l), 0⟩ = ⟨pu .u8 (Qc l) ++ [], 0⟩ := by rw [e, Zk]
  have hd : decide ((l.length : Int) > 40) = false := by simp; omega
  have hN : opN (pu .u8 (opB l)) = l.length := by unfold opN; rw [hn, hd, cond_false, Int.toNat_natCast]
  have hS : opS (pu .u8 (opB l)) = ⟨pu .u8 (Qc l) ++ [], 0⟩ := by unfold opS; rw [hn, hd, cond_false, hs]
  obtain ⟨a, b⟩ := JeR l [] h h2
  have hE : VM (pu .u8 (opB l)) = 0 := by unfold VM; rw [hN, hS, a, b, hc]; rfl
  rw [Jgi, Jdm, hE, hN, hS, a]
  exact ⟨rfl, rfl⟩
theorem JeS {d : DV} (h : dCk d = 0) : (0 ≤ d.ad ∧ d.ad ≤ 2) ∧ (0 ≤ d.au ∧ d.au ≤ 7) ∧ (0 ≤ d.id ∧ d.id ≤ 1073741824) ∧ (0 ≤ d.ve ∧ d.ve ≤ 1048576) ∧ (1 ≤ d.kd ∧ d.kd ≤ 3) ∧ ckO d.o = 0 ∧ (0 ≤ d.wd ∧ d.wd ≤ 2) ∧ (0 ≤ d.wu ∧ d.wu ≤ 7) := by
  have hnil : ckO [] = 0 := by rw [Jgc]; rfl
  rw [Jdp] at h
  unfold JkM at h
  cases h1 : (inZ d.ad 2 && (inZ d.au 7 && (inZ d.id 1073741824 && inZ d.ve 1048576))) with
  | false => rw [h1, cond_false] at h; exact absurd h (by decide)
  | true =>
    rw [h1, cond_true] at h
    simp only [Jdq, Bool.and_eq_true, decide_eq_true_eq] at h1
    cases hk : (d.kd == 1) with
    | true =>
      rw [hk, cond_true] at h
      cases hc : (ckO d.o == 0) with
      | false => rw [hc, cond_false] at h; rw [h] at hc; exact absurd hc (by decide)
      | true =>
        rw [hc, cond_true] at h
        cases hw : (d.wd == 0 && d.wu == 0) with
        | false => rw [hw, cond_false] at h; exact absurd h (by decide)
        | true =>
          simp only [Bool.and_eq_true, beq_iff_eq] at hw hk hc
          refine ⟨by omega, by omega, by omega, by omega, by omega, hc, by omega, by omega⟩
    | false =>
      rw [hk, cond_false] at h
      cases hk2 : (d.kd == 2 || d.kd == 3) with
      | false => rw [hk2, cond_false] at h; exact absurd h (by decide)
      | true =>
        rw [hk2, cond_true] at h
        cases hw : (d.o.isEmpty && (inZ d.wd 2 && inZ d.wu 7)) with
        | false => rw [hw, cond_false] at h; exact absurd h (by decide)
        | true =>
          simp only [Bool.and_eq_true, Bool.or_eq_true, beq_iff_eq, Jdq, decide_eq_true_eq, List.isEmpty_iff] at hw hk2
          refine ⟨by omega, by omega, by omega, by omega, by omega, by rw [hw.1]; exact hnil, by omega, by omega⟩
theorem Jk3 {d : DV} (ho : dOk d = true) (hb : byB d.h = true) (hc : dCk d = 0) :
    dE (pu .u8 (dlB d)) = 0 ∧ dv (pu .u8 (dlB d)) = d := by
  obtain ⟨o1, o2, o3, o4⟩ := X8.1 ho
  obtain ⟨c1, c2, c3, c4, c5, c6, c7, c8⟩ := JeS hc
  have hcp : d.o.all Y4 = true := (X6.1 o3).1
  obtain ⟨q1, q2⟩ := Jnp hcp c6
  have hbI : ∀ x ∈ Je d.h, 0 ≤ x ∧ x < 256 := (Qy.1 hb).2
  have hl : (Je d.h).length = 32 := by rw [QT]; exact o2
  have e : pu .u8 (dlB d) = pu .u8 (J4 d.ad) ++ (pu .u8 (J4 d.au) ++ (pu .u8 (J4 d.id) ++ (pu .u8 (J4 d.ve) ++ (pu .u8 (Je d.h) ++ (pu .u8 [IntKind.u8.wrap d.kd] ++ (pu .u8 (Qg (tx (pu .u8 (opB d.o)))) ++ (pu .u8 (J4 d.wd) ++ (pu .u8 (J4 d.wu) ++ [])))))))) := by
    rw [Jdi, JiE]; simp only [JN, List.append_assoc, List.append_nil]
  generalize hB : pu .u8 (dlB d) = B at *
  have n1 : JA 8 ⟨B, 0⟩ = d.ad := by rw [e]; exact XQ (QO (by omega) (by omega)) _
  have s1 : Ja 8 ⟨B, 0⟩ = ⟨pu .u8 (J4 d.au) ++ (pu .u8 (J4 d.id) ++ (pu .u8 (J4 d.ve) ++ (pu .u8 (Je d.h) ++ (pu .u8 [IntKind.u8.wrap d.kd] ++ (pu .u8 (Qg (tx (pu .u8 (opB d.o)))) ++ (pu .u8 (J4 d.wd) ++ (pu .u8 (J4 d.wu) ++ []))))))), 0⟩ := by rw [e]; exact QF _ _
  obtain ⟨r1, r2⟩ := Jkd (Je d.h) (pu .u8 [IntKind.u8.wrap d.kd] ++ (pu .u8 (Qg (tx (pu .u8 (opB d.o)))) ++ (pu .u8 (J4 d.wd) ++ (pu .u8 (J4 d.wu) ++ [])))) hbI
  rw [hl] at r1 r2
  have hd4 : d4 B = ⟨pu .u8 (Je d.h) ++ (pu .u8 [IntKind.u8.wrap d.kd] ++ (pu .u8 (Qg (tx (pu .u8 (opB d.o)))) ++ (pu .u8 (J4 d.wd) ++ (pu .u8 (J4 d.wu) ++ [])))), 0⟩ := by
    unfold d4; rw [s1, QF, QF, QF]
  have hd5 : d5 B = ⟨pu .u8 [IntKind.u8.wrap d.kd] ++ (pu .u8 (Qg (tx (pu .u8 (opB d.o)))) ++ (pu .u8 (J4 d.wd) ++ (pu .u8 (J4 d.wu) ++ []))), 0⟩ := by
    unfold d5; rw [hd4, hashS_eq]; exact r1
  have hV : hashV (d4 B) = Je d.h := by rw [hd4, hashV_eq]; exact r2
  obtain ⟨t1, t2⟩ := Jhr (t := tx (pu .u8 (opB d.o))) (by rw [Wz, JF]; exact o4) (pu .u8 (J4 d.wd) ++ (pu .u8 (J4 d.wu) ++ []))
  have hd7 : d7 B = ⟨pu .u8 (J4 d.wd) ++ (pu .u8 (J4 d.wu) ++ []), 0⟩ := by unfold d7; rw [hd5, Zk, t2]
  have hd9 : d9 B = ⟨[], 0⟩ := by unfold d9; rw [hd7, QF, QF]
  have hdt : dt B = pu .u8 (opB d.o) := by
    unfold dt; rw [hd5, Zk, t1]
    exact Jmq _ (Jji.2 (Jrp d.o))
  have hdv : dv B = d := by
    have h0 : dv B = ⟨JA 8 ⟨B, 0⟩, JA 8 (Ja 8 ⟨B, 0⟩), JA 8 (Ja 8 (Ja 8 ⟨B, 0⟩)), JA 8 (Ja 8 (Ja 8 (Ja 8 ⟨B, 0⟩))), pu .u8 (hashV (d4 B)), JA 1 (d5 B), opL (dt B), JA 8 (d7 B), JA 8 (Ja 8 (d7 B))⟩ := rfl
    rw [h0, n1, s1, XQ (QO (by omega) (by omega)), QF, XQ (QO (by omega) (by omega)), QF, XQ (QO (by omega) (by omega)), hV, hd5, JaP, hdt, q2, hd7, XQ (QO (by omega) (by omega)), QF, XQ (QO (by omega) (by omega)), Jba (by omega) (by omega), ← Qa o1]
  refine ⟨?_, hdv⟩
  rw [JeP]
  unfold dE0
  rw [hd9, hdt, q1, hdv, hc]; rfl
theorem JeT {b : List PV} {d : DV} (h : dE b = 0) (hv : dv b = d) (h1 : Jf .u8 d.h = true) :
    dF 0 b = d.ad ∧ dF 1 b = d.au ∧ dF 2 b = d.id ∧ dF 3 b = d.ve ∧ dF 4 b = d.kd ∧ dF 5 b = d.wd ∧ dF 6 b = d.wu ∧ pu .u8 (dH b) = d.h ∧ dO b = d.o := by
  have h0 : dE0 b = 0 := by rw [← JeP]; exact h
  have a : ∀ i, dF i b = dN b i := fun i => by rw [JhZ, h0]; rfl
  have hh : pu .u8 (dH b) = (dv b).h := by rw [JkQ, h0]; rfl
  have ho : dO b = (dv b).o := by rw [JkR, h0]; rfl
  refine ⟨?_, ?_, ?_, ?_, ?_, ?_, ?_, ?_, ?_⟩
  · rw [a, ← hv]; rfl
  · rw [a, ← hv]; rfl
  · rw [a, ← hv]; rfl
  · rw [a, ← hv]; rfl
  · rw [a, ← hv]; rfl
  · rw [a, ← hv]; rfl
  · rw [a, ← hv]; rfl
  · rw [hh, hv]
  · rw [ho, hv]
def JrS {α : Type} (n : Nat) (k : Nat → α) : α := Nat.rec (k 0) (fun m _ => k (m + 1)) n
theorem Jnq {α : Type} (n : Nat) (k : Nat → α) : JrS n k = k n := by cases n <;> rfl
def Jnr {α : Type} (x : Int) (k : Int → α) : α := match x with
  | .ofNat n => JrS n fun n => k (.ofNat n)
  | .negSucc n => JrS n fun n => k (.negSucc n)
theorem Jh3 {α : Type} (x : Int) (k : Int → α) : Jnr x k = k x := by cases x <;> simp only [Jnr, Jnq]
def Jbb {α : Type} : List Int → (List Int → α) → α
  | [], k => k []
  | x :: r, k => Jnr x fun x => Jbb r fun r => k (x :: r)
theorem VN {α : Type} : ∀ (l : List Int) (k : List Int → α), Jbb l k = k l
  | [], k => rfl
  | x :: r, k => by simp only [Jbb, Jh3, VN r]
def Jdv : Nat → List Int → List Int
  | 0, R => R
  | n + 1, R => Jnr (JlO (R.getD 15 0) (R.getD 14 0) (R.getD 6 0) (R.getD 1 0)) fun x => Jdv n (x :: R)
theorem G3 (L : List Int) (i j : Nat) (h : i + j + 1 = L.length) : L.reverse.getD i 0 = L.getD j 0 := by
  rw [List.getD_eq_getElem?_getD, List.getD_eq_getElem?_getD, List.getElem?_reverse (by omega)]
  congr 2; omega
theorem Jcb (bs : List Int) : ∀ (n i : Nat), Jdv n (Qi bs i).reverse = (Qi bs (i + n)).reverse
  | 0, i => rfl
  | n + 1, i => by
      have hl := JU bs i
      simp only [Jdv, Jh3]
      rw [G3 _ 15 i (by omega), G3 _ 14 (i + 1) (by omega), G3 _ 6 (i + 9) (by omega), G3 _ 1 (i + 14) (by omega)]
      have := Jcb bs n (i + 1)
      rw [Qi, List.reverse_append] at this
      rw [show i + (n + 1) = i + 1 + n from by omega, ← this]
      rfl
def Jh4 : List Int → List Int → List Int → List Int
  | k :: ks, w :: ws, t => Jbb (rnd k w t) fun t => Jh4 ks ws t
  | _, _, t => t
theorem JeU (W s : List Int) (hW : W.length = 64) : ∀ (d i : Nat), i + d = 64 → Jh4 (kks.drop i) (W.drop i) (Yz W s i) = Yz W s 64
  | 0, i, h => by
      obtain rfl : i = 64 := by omega
      rw [List.drop_of_length_le (l := W) (by rw [hW]; exact Nat.le_refl _)]
      cases kks.drop 64 <;> rfl
  | d + 1, i, h => by
      have h1 : i < kks.length := by show i < 64; omega
      have h2 : i < W.length := by omega
      rw [List.drop_eq_getElem_cons h1, List.drop_eq_getElem_cons h2]
      simp only [Jh4, VN]
      have := JeU W s hW d (i + 1) (by omega)
      rw [← this, Yz]
      simp only [List.getD_eq_getElem?_getD, List.getElem?_eq_getElem h1, List.getElem?_eq_getElem h2, Option.getD_some]
def JrT (s bs : List Int) : List Int :=
  Jbb ((List.range 16).map (Jbh bs)) fun w => Jbb (Jdv 48 w.reverse).reverse fun W => Jbb (Jh4 kks W s) fun t => (List.range 8).map fun i => ww (t.getD i 0 + s.getD i 0)
theorem Jns (s bs : List Int) : JrT s bs = Jej s bs := by
  simp only [JrT, VN]
  have h1 := Jcb bs 48 0
  rw [Qi, Nat.zero_add] at h1
  rw [h1, List.reverse_reverse]
  have h2 := JeU (Qi bs 48) s (JU bs 48) 64 0 rfl
  rw [List.drop_zero, List.drop_zero, Yz] at h2
  rw [h2]; rfl
def Jh5 (b : List Int) : Nat → List Int → List Int → List Int
  | 0, s, _ => s
  | n + 1, s, b' => Jbb (JrT s (b'.take 64)) fun s => Jh5 b n s (b'.drop 64)
theorem JeV (b : List Int) : ∀ (n i : Nat) , Jh5 b n (Q0 iv b i) (b.drop (64 * i)) = Q0 iv b (i + n)
  | 0, i => rfl
  | n + 1, i => by
      simp only [Jh5, VN, Jns, List.drop_drop]
      have := JeV b n (i + 1)
      rw [Q0, show 64 * (i + 1) = 64 * i + 64 from by omega] at this
      rw [this, show i + 1 + n = i + (n + 1) from by omega]
def JwJ (bs : List Int) (n : Nat) : List Int := Jbb (Qq bs) fun P => Jbb (Jh5 P n iv P) fun s => Jbb (Jiw s) fun r => r
theorem Jh6 (bs : List Int) : JwJ bs ((Qq bs).length / 64) = Jt bs := by
  rw [GZ]
  simp only [JwJ, VN]
  have := JeV (Qq bs) ((Qq bs).length / 64) 0
  rw [Q0, Nat.mul_zero, List.drop_zero, Nat.zero_add] at this
  rw [this]; rfl
-- FN law9.known
def JrU : List Int := [222, 87, 173, 32, 103, 237, 148, 204, 175, 52, 179, 142, 217, 35, 16, 25, 63, 14, 57, 74, 190, 160, 150, 87, 13, 59, 41, 224, 246, 97, 92, 43]
def Jk4 : List Int := [153, 23, 23, 68, 172, 113, 210, 173, 109, 178, 123, 198, 8, 243, 9, 87, 51, 187, 213, 49, 242, 44, 37, 15, 107, 179, 98, 137, 48, 46, 217, 95]
def k9L : List Int := [0, 0, 0, 0, 0, 0, 0, 0, 0, 0, 0, 0, 0, 0, 0, 0, 0, 0, 0, 0, 0, 0, 0, 0, 0, 0, 0, 0, 0, 0, 0, 0, 0, 0, 0, 0, 0, 0, 0, 0, 0, 0, 1, 0, 0, 0, 0, 0, 0, 0, 0, 0, 0, 0, 0, 0, 0, 0, 0, 0, 0, 0, 0, 0, 0, 0, 0, 0, 0, 0, 0, 0, 0, 0, 0, 0, 0]
theorem JwK : Jt ([93, 6, 54, 54, 54, 54, 54, 54, 54, 54, 54, 54, 54, 54, 54, 54, 54, 54, 54, 54, 54, 54, 54, 54, 54, 54, 54, 54, 54, 54, 54, 54, 54, 54, 54, 54, 54, 54, 54, 54, 54, 54, 54, 54, 54, 54, 54, 54, 54, 54, 54, 54, 54, 54, 54, 54, 54, 54, 54, 54, 54, 54, 54, 54] ++ k9L) = JrU := (Jh6 ([93, 6, 54, 54, 54, 54, 54, 54, 54, 54, 54, 54, 54, 54, 54, 54, 54, 54, 54, 54, 54, 54, 54, 54, 54, 54, 54, 54, 54, 54, 54, 54, 54, 54, 54, 54, 54, 54, 54, 54, 54, 54, 54, 54, 54, 54, 54, 54, 54, 54, 54, 54, 54, 54, 54, 54, 54, 54, 54, 54, 54, 54, 54, 54] ++ k9L)).symm.trans (by kernel_rfl)
theorem JrV : Jt ([55, 108, 92, 92, 92, 92, 92, 92, 92, 92, 92, 92, 92, 92, 92, 92, 92, 92, 92, 92, 92, 92, 92, 92, 92, 92, 92, 92, 92, 92, 92, 92, 92, 92, 92, 92, 92, 92, 92, 92, 92, 92, 92, 92, 92, 92, 92, 92, 92, 92, 92, 92, 92, 92, 92, 92, 92, 92, 92, 92, 92, 92, 92, 92] ++ JrU) = Jk4 := (Jh6 ([55, 108, 92, 92, 92, 92, 92, 92, 92, 92, 92, 92, 92, 92, 92, 92, 92, 92, 92, 92, 92, 92, 92, 92, 92, 92, 92, 92, 92, 92, 92, 92, 92, 92, 92, 92, 92, 92, 92, 92, 92, 92, 92, 92, 92, 92, 92, 92, 92, 92, 92, 92, 92, 92, 92, 92, 92, 92, 92, 92, 92, 92, 92, 92] ++ JrU)).symm.trans (by kernel_rfl)
theorem JrW : Q1 [107, 48] k9L = Jk4 := by
  have hk : Vv [107, 48] = [107, 48] ++ List.replicate 62 0 := by simp [Vv, JiA]
  rw [G1, Jew, hk]
  rw [show JS ([107, 48] ++ List.replicate 62 0) 54 = [93, 6, 54, 54, 54, 54, 54, 54, 54, 54, 54, 54, 54, 54, 54, 54, 54, 54, 54, 54, 54, 54, 54, 54, 54, 54, 54, 54, 54, 54, 54, 54, 54, 54, 54, 54, 54, 54, 54, 54, 54, 54, 54, 54, 54, 54, 54, 54, 54, 54, 54, 54, 54, 54, 54, 54, 54, 54, 54, 54, 54, 54, 54, 54] from by decide, show JS ([107, 48] ++ List.replicate 62 0) 92 = [55, 108, 92, 92, 92, 92, 92, 92, 92, 92, 92, 92, 92, 92, 92, 92, 92, 92, 92, 92, 92, 92, 92, 92, 92, 92, 92, 92, 92, 92, 92, 92, 92, 92, 92, 92, 92, 92, 92, 92, 92, 92, 92, 92, 92, 92, 92, 92, 92, 92, 92, 92, 92, 92, 92, 92, 92, 92, 92, 92, 92, 92, 92, 92] from by decide, JwK, JrV]
noncomputable def z32 : List PV := List.replicate 32 (.sc (.int .u8 0))
noncomputable def k9 : List PV := [.ro 5 false false (kb 0 []), .ro 5 false false (kb 1 []), .ro 5 false false (kb 2 [])]
theorem Jgv : kO3 k9 = true := Jdu.2 ⟨Jhs 0 rfl, Jhs 1 rfl, Jhs 2 rfl⟩
noncomputable def d9v : DV := ⟨0, 0, 0, 0, z32, 2, [], 0, 0⟩
theorem Jdw : opB [] = [0] := by rw [Gf]; rfl
theorem h32_z32 : h32 z32 = true := h32_iff.2 ⟨rfl, rfl⟩
theorem Jdx : dOk d9v = true := X8.2 ⟨rfl, rfl, X6.2 ⟨rfl, fun p hp => (by cases hp), by decide⟩, by show (opB []).length ≤ _; rw [Jdw]; decide⟩
theorem Jk5 : dCk d9v = 0 := by rw [Jdp]; rfl
theorem JwL : eOk ⟨[], z32, 0, []⟩ = true := W7.2 ⟨rfl, by decide, rfl, rfl, X6.2 ⟨rfl, fun p hp => (by cases hp), by decide⟩, by show (opB []).length ≤ _; rw [Jdw]; decide⟩
theorem JwM : Jw ⟨[], z32, 0, []⟩ ++ Je z32 = k9L := by
  rw [Ja0, JaZ]
  show Qg (tx []) ++ (Je z32 ++ (J4 0 ++ Qg (tx (pu .u8 (opB []))))) ++ Je z32 = _
  rw [Jdw, Q2, Q2, Wb]
  unfold XO
  rw [JaO, JaO]
  rfl
theorem JrX (d : DV) (h : byB d.h = true := by rfl) : byB (pu .u8 (dlB d)) = true := by
  rw [Jji]
  intro x hx
  rw [Jdi] at hx
  simp only [JiE, List.mem_append, List.mem_singleton] at hx
  rcases hx with h1 | h1 | h1 | h1 | h1 | h1 | h1 | h1 | h1
  · exact XP _ x h1
  · exact XP _ x h1
  · exact XP _ x h1
  · exact XP _ x h1
  · exact (Qy.1 h).2 x h1
  · rw [h1]; exact Zj _
  · exact Jex _ x h1
  · exact XP _ x h1
  · exact XP _ x h1
theorem JwN {l : List PV} {d : DV} (ho : dOk d = true) (hb : byB d.h = true) (hc : dCk d = 0) : Z5 ⟨l, pu .u8 (dlB d), pu .u8 (mcK ⟨l, d.ad, dlB d⟩)⟩ = 0 := by
  obtain ⟨t1, t2⟩ := Jk3 ho hb hc
  obtain ⟨f0, f1, f2, f3, f4, f5, f6, f7, f8⟩ := JeT t1 t2 (X8.1 ho).1
  have hk : kIn d.ad = true := by rw [Jgg]; have := (JeS hc).1; simp only [QM, Bool.and_eq_true, decide_eq_true_eq]; omega
  unfold Z5
  simp only [t1, f0, hk, Qf, beq_self_eq_true, Bool.and_self, cond_true]
theorem JyW : emC ⟨k9, 0, ⟨[], z32, 0, []⟩, z32, z32⟩ = false := by
  rw [JkX, Ja7, Z4]
  simp only [JwM]
  have hk : Qs ⟨k9, 0⟩ = pu .u8 [107, 48] := by
    rw [G0]; show kb 0 [] = _; rw [Jke]; rfl
  rw [hk, Qf, JrW]
  rw [show (Jk4 == Je z32) = false from by decide, Bool.and_false]
noncomputable def Jgw : List PV → List Ent → (Res → Option Res) → Option Res
  | [], [], k => k ⟨.sc (.bool true), [], []⟩
  | _, _, _ => none
noncomputable def JwO : Sig := { own := [], run := Jgw }
theorem JwP : Ji tau Try.prog 42 JwO := JyV.of fun xs es k res hr => by
  change Jgw xs es k = some res at hr
  unfold Jgw at hr
  split at hr
  · refine Eq.trans ?_ hr
    show g42 0 _ = _
    unfold g42
    have hz : [PV.sc (Value.int IntKind.u8 0), PV.sc (Value.int IntKind.u8 0), PV.sc (Value.int IntKind.u8 0), PV.sc (Value.int IntKind.u8 0), PV.sc (Value.int IntKind.u8 0), PV.sc (Value.int IntKind.u8 0), PV.sc (Value.int IntKind.u8 0), PV.sc (Value.int IntKind.u8 0), PV.sc (Value.int IntKind.u8 0), PV.sc (Value.int IntKind.u8 0), PV.sc (Value.int IntKind.u8 0), PV.sc (Value.int IntKind.u8 0), PV.sc (Value.int IntKind.u8 0), PV.sc (Value.int IntKind.u8 0), PV.sc (Value.int IntKind.u8 0), PV.sc (Value.int IntKind.u8 0), PV.sc (Value.int IntKind.u8 0), PV.sc (Value.int IntKind.u8 0), PV.sc (Value.int IntKind.u8 0), PV.sc (Value.int IntKind.u8 0), PV.sc (Value.int IntKind.u8 0), PV.sc (Value.int IntKind.u8 0), PV.sc (Value.int IntKind.u8 0), PV.sc (Value.int IntKind.u8 0), PV.sc (Value.int IntKind.u8 0), PV.sc (Value.int IntKind.u8 0), PV.sc (Value.int IntKind.u8 0), PV.sc (Value.int IntKind.u8 0), PV.sc (Value.int IntKind.u8 0), PV.sc (Value.int IntKind.u8 0), PV.sc (Value.int IntKind.u8 0), PV.sc (Value.int IntKind.u8 0)] = z32 := rfl
    have hk : [PV.ro 5 false false (kb 0 []), .ro 5 false false (kb 1 []), .ro 5 false false (kb 2 [])] = k9 := rfl
    have hd : DV.mk 0 0 0 0 z32 2 [] 0 0 = d9v := rfl
    simp only [hz, hk, hd]
    have hs := JwN (l := k9) Jdx rfl Jk5
    have had : d9v.ad = 0 := rfl
    rw [had] at hs
    have hsE : soE ⟨k9, pu .u8 (dlB d9v), pu .u8 (mcK ⟨k9, 0, dlB d9v⟩)⟩ = 0 := by rw [Jgo, hs]
    have hsF : soF 4 ⟨k9, pu .u8 (dlB d9v), pu .u8 (mcK ⟨k9, 0, dlB d9v⟩)⟩ = 2 := by
      rw [Jgp, hs]
      show dF 4 (pu .u8 (dlB d9v)) = 2
      obtain ⟨t1, t2⟩ := Jk3 Jdx rfl Jk5
      exact (JeT t1 t2 rfl).2.2.2.2.1
    have hby : byB (pu .u8 (dlB d9v)) = true := JrX _
    have hsl : slB false (pu .u8 (dlB d9v)) = true := QZ.2 ⟨fun h => (by cases h), by rw [JF]; have := Jca Jdx; omega⟩
    have hmk : h32 (pu .u8 (mcK ⟨k9, 0, dlB d9v⟩)) = true := h32_iff.2 ⟨JK _ _, by rw [JF]; exact Ja5 _⟩
    rw [hsE, hsF, JyW]
    refine (Jb (by rw [Jdx, Jgv]; rfl)).trans ((Jb (by rw [hsl, hby, hmk, Jgv]; rfl)).trans ((Jb rfl).trans ((Jb rfl).trans ((Jb (by rw [JwL, h32_z32, Jgv]; rfl)).trans rfl))))
  · cases hr
noncomputable def F45 : Fns := F0
theorem JrY : Jz tau Try.prog F45 := JH
def Jnt : An := (.seq .leaf (.seq .leaf (.seq (.seq .leaf (.cond .leaf .leaf)) (.seq .leaf .leaf))))
noncomputable def g45 (f : Nat) (at1 : Int) (n : Int) (k : Res → Option Res) : Option Res :=
  bif !decide (n = 0) && true then
    bif decide (at1.tmod n < 0) then
      k (Res.mk (PV.sc (Value.int IntKind.i64 (IntKind.i64.wrap (at1.tmod n + n)))) [] [])
    else k (Res.mk (PV.sc (Value.int IntKind.i64 (at1.tmod n))) [] [])
  else none
theorem e45 (f : Nat) (at1 : Int) (n : Int) (k : Res → Option Res) : JR tau F45 Try.f45 (Try.f45.body.get!) Jnt [.ro] 0 [.sc (.int .i64 at1), .sc (.int .i64 n)] [] k = g45 f at1 n k := by kernel_rfl
theorem JyX (f : Nat) : Jg (Try.f45.body.get!) Jnt = [] := by kernel_rfl
theorem JyY (f : Nat) : ∀ q ∈ Jg (Try.f45.body.get!) Jnt, q.Ok tau Try.prog 0 := by
  rw [JyX f]; intro q hq; cases hq
theorem JwQ : Try.prog.funcs[45]? = some Try.f45 := by kernel_rfl
theorem JwR : Try.f45.body = some (Try.f45.body.get!) := by kernel_rfl
theorem JyZ : Enters Try.prog 45 := enters_of JwQ (by kernel_rfl) JwR
noncomputable def Jk6 : List PV → List Ent → (Res → Option Res) → Option Res
  | [.sc (.int .i64 at1), .sc (.int .i64 n)], [], k => g45 0 at1 n k
  | _, _, _ => none
noncomputable def s45 : Sig := { own := [], run := Jk6 }
theorem Jy0 : Ji tau Try.prog 45 s45 := J3 Jr JrY Js JwQ JwR Jnt [.ro] 0 [] Jk6 (JyY 0) fun xs es k res hr => by
  unfold Jk6 at hr
  split at hr
  · exact ⟨rfl, 0, (e45 0 _ _  _).trans hr⟩
  · cases hr
-- FN law9.within
noncomputable def Jgx : List PV → List Ent → (Res → Option Res) → Option Res
  | [.sc (.int .i64 a), .sc (.int .i64 n)], [], k => bif okW n then k ⟨.sc (.int .i64 (a % n)), [], []⟩ else none
  | _, _, _ => none
noncomputable def JwS : Sig := { own := [], run := Jgx }
theorem JrZ (a n : Int) (h : 0 < n) (h2 : n < 1000000000000) (k : Res → Option Res) : g45 0 a n k = k ⟨.sc (.int .i64 (a % n)), [], []⟩ := by
  have hn : (n == 0) = false := by simp; omega
  have e := Int.tmod_eq_emod (a := a) (b := n)
  have e0 := Int.emod_nonneg a (show n ≠ 0 by omega)
  have e1 := Int.emod_lt_of_pos a h
  have hna : (n.natAbs : Int) = n := by omega
  unfold g45
  refine (Jb (by simp; omega)).trans ?_
  by_cases hc : a.tmod n < 0
  · refine (Jb (by simpa using hc)).trans ?_
    have : IntKind.i64.wrap (a.tmod n + n) = a % n := by
      split at e <;> (rw [wrap_i64 (by omega) (by omega)]; omega)
    rw [this]
  · refine (JL (by simpa using hc)).trans ?_
    have : a.tmod n = a % n := by split at e <;> omega
    rw [this]
theorem JwT : Ji tau Try.prog 45 JwS := Jy0.of fun xs es k res hr => by
  change Jgx xs es k = some res at hr
  unfold Jgx at hr
  split at hr
  · obtain ⟨hc, hr⟩ := JI hr
    simp only [Jje, Bool.and_eq_true, decide_eq_true_eq] at hc
    exact (JrZ _ _ hc.1 hc.2 _).trans hr
  · cases hr
noncomputable def F17 : Fns := JG 62 JwD (JG 59 Jrx (JG 58 Jm0 (JG 55 JwB (JG 45 JwS (JG 42 JwO (JG 36 JuX (JG 21 JqT (F0))))))))
theorem Jr0 : Jz tau Try.prog F17 := ((((((((JH).add JoC Jse).add JuY Jx6).add JwP JyU).add JwT JyZ).add JwC JyI).add JkE Jru).add Jpa JvG).add JwE JyQ
def Jnu : An := (.seq .leaf (.seq (.seq .leaf (.cond (.seq .leaf .leaf) .leaf)) (.seq (.seq .leaf (.cond (.seq .leaf .leaf) .leaf)) (.seq .leaf (.seq .leaf (.seq .leaf (.seq .leaf (.seq .leaf (.seq .leaf .leaf)))))))))
noncomputable def g17 (f : Nat) (key_z : Bool) (key_f : Bool) (key : List PV) (prev : List PV) (s_Body_z : Bool) (s_Body_f : Bool) (s_Body : List PV) (s_Mac : List PV) (at1 : Int) (host : Int) (k : Res → Option Res) : Option Res := bif decide (zi s_Body.length > 200) then k (Res.mk (.sc (.bool true)) [] []) else bif okW 1000 then bif okW 3 then bif slB s_Body_z s_Body && eOk (EV.mk s_Body s_Mac (at1 % 1000) []) && (h32 prev && kO3 [.ro 5 false false (kb 0 key), .ro 5 false false (kb 1 key), .ro 5 false false (kb 2 key)]) then bif PV.isInt IntKind.u8 (Jm (PV.st 93 [.st 77 [.ro 5 s_Body_z s_Body_z s_Body, .ar 37 s_Mac], .sc (.int .i64 (at1 % 1000)), .ro 99 true false [], .ar 37 (pu IntKind.u8 (nxP (NX.mk prev (EV.mk s_Body s_Mac (at1 % 1000) [])))), .ar 37 (pu IntKind.u8 (emP (EM.mk [.ro 5 false false (kb 0 key), .ro 5 false false (kb 1 key), .ro 5 false false (kb 2 key)] (host % 3) (EV.mk s_Body s_Mac (at1 % 1000) []) (pu IntKind.u8 (nxP (NX.mk prev (EV.mk s_Body s_Mac (at1 % 1000) [])))))))]) [4, 0]) && true then bif h32 prev && eOk (EV.mk s_Body s_Mac (at1 % 1000) []) then bif decide ((pu IntKind.u8 (nxP (NX.mk prev (EV.mk s_Body s_Mac (at1 % 1000) [])))).length = 32) && decide ((pu IntKind.u8 (nxP (NX.mk prev (EV.mk s_Body s_Mac (at1 % 1000) [])))).length = 32) && Jf IntKind.u8 (pu IntKind.u8 (nxP (NX.mk prev (EV.mk s_Body s_Mac (at1 % 1000) [])))) && Jf IntKind.u8 (pu IntKind.u8 (nxP (NX.mk prev (EV.mk s_Body s_Mac (at1 % 1000) [])))) && true then bif Qt (pu IntKind.u8 (nxP (NX.mk prev (EV.mk s_Body s_Mac (at1 % 1000) [])))) (pu IntKind.u8 (nxP (NX.mk prev (EV.mk s_Body s_Mac (at1 % 1000) [])))) then bif eOk (EV.mk s_Body s_Mac (at1 % 1000) []) then bif Jf IntKind.u8 (pu IntKind.u8 (Jw (EV.mk s_Body s_Mac (at1 % 1000) []))) && true then bif eOk (EV.mk s_Body s_Mac (at1 % 1000) []) then bif Jf IntKind.u8 (pu IntKind.u8 (Jw (EV.mk s_Body s_Mac (at1 % 1000) []))) && true then bif ZA (ByteArray.mk (Array.mk (Jl (false, pu IntKind.u8 (Jw (EV.mk s_Body s_Mac (at1 % 1000) []))).snd))) (ByteArray.mk (Array.mk (Jl (false, pu IntKind.u8 (Jw (EV.mk s_Body s_Mac (at1 % 1000) []))).snd))) then bif at1 % 1000 == at1 % 1000 then bif Jf IntKind.u8 s_Body && true then bif Jf IntKind.u8 s_Body && true then bif ZA (ByteArray.mk (Array.mk (Jl (s_Body_z, s_Body).snd))) (ByteArray.mk (Array.mk (Jl (s_Body_z, s_Body).snd))) then bif decide (s_Mac.length = 32) && decide (s_Mac.length = 32) && Jf IntKind.u8 s_Mac && Jf IntKind.u8 s_Mac && true then bif Qt s_Mac s_Mac then bif decide (0 ≤ host % 3) && decide (host % 3 < zi 3) && true then bif PV.isRo 5 (Jm (PV.st 31 [.ro 5 false false (kb 0 key), .ro 5 false false (kb 1 key), .ro 5 false false (kb 2 key)]) [(host % 3).toNat]) && true then bif eOk (EV.mk s_Body s_Mac (at1 % 1000) []) then bif Jj ((Jw (EV.mk s_Body s_Mac (at1 % 1000) [])).length + (List.take 32 (pu IntKind.u8 (nxP (NX.mk prev (EV.mk s_Body s_Mac (at1 % 1000) []))))).length) 1 && true then bif Jf IntKind.u8 (Jm (PV.st 31 [.ro 5 false false (kb 0 key), .ro 5 false false (kb 1 key), .ro 5 false false (kb 2 key)]) [(host % 3).toNat]).els && decide ((Jm (PV.st 31 [.ro 5 false false (kb 0 key), .ro 5 false false (kb 1 key), .ro 5 false false (kb 2 key)]) [(host % 3).toNat]).els.length ≤ 1000000000) && (Jf IntKind.u8 (List.take ((Jw (EV.mk s_Body s_Mac (at1 % 1000) [])).length + (List.take 32 (pu IntKind.u8 (nxP (NX.mk prev (EV.mk s_Body s_Mac (at1 % 1000) []))))).length) (List.take (Jw (EV.mk s_Body s_Mac (at1 % 1000) [])).length (pu IntKind.u8 (Jw (EV.mk s_Body s_Mac (at1 % 1000) []))) ++ List.take 32 (pu IntKind.u8 (nxP (NX.mk prev (EV.mk s_Body s_Mac (at1 % 1000) [])))))) && decide ((List.take ((Jw (EV.mk s_Body s_Mac (at1 % 1000) [])).length + (List.take 32 (pu IntKind.u8 (nxP (NX.mk prev (EV.mk s_Body s_Mac (at1 % 1000) []))))).length) (List.take (Jw (EV.mk s_Body s_Mac (at1 % 1000) [])).length (pu IntKind.u8 (Jw (EV.mk s_Body s_Mac (at1 % 1000) []))) ++ List.take 32 (pu IntKind.u8 (nxP (NX.mk prev (EV.mk s_Body s_Mac (at1 % 1000) [])))))).length ≤ 1000000000)) then bif decide ((pu IntKind.u8 (emP (EM.mk [.ro 5 false false (kb 0 key), .ro 5 false false (kb 1 key), .ro 5 false false (kb 2 key)] (host % 3) (EV.mk s_Body s_Mac (at1 % 1000) []) (pu IntKind.u8 (nxP (NX.mk prev (EV.mk s_Body s_Mac (at1 % 1000) []))))))).length = 32) && decide ((pu IntKind.u8 (Q1 (Je (Jm (PV.st 31 [.ro 5 false false (kb 0 key), .ro 5 false false (kb 1 key), .ro 5 false false (kb 2 key)]) [(host % 3).toNat]).els) (Je (List.take ((Jw (EV.mk s_Body s_Mac (at1 % 1000) [])).length + (List.take 32 (pu IntKind.u8 (nxP (NX.mk prev (EV.mk s_Body s_Mac (at1 % 1000) []))))).length) (List.take (Jw (EV.mk s_Body s_Mac (at1 % 1000) [])).length (pu IntKind.u8 (Jw (EV.mk s_Body s_Mac (at1 % 1000) []))) ++ List.take 32 (pu IntKind.u8 (nxP (NX.mk prev (EV.mk s_Body s_Mac (at1 % 1000) []))))))))).length = 32) && Jf IntKind.u8 (pu IntKind.u8 (emP (EM.mk [.ro 5 false false (kb 0 key), .ro 5 false false (kb 1 key), .ro 5 false false (kb 2 key)] (host % 3) (EV.mk s_Body s_Mac (at1 % 1000) []) (pu IntKind.u8 (nxP (NX.mk prev (EV.mk s_Body s_Mac (at1 % 1000) []))))))) && Jf IntKind.u8 (pu IntKind.u8 (Q1 (Je (Jm (PV.st 31 [.ro 5 false false (kb 0 key), .ro 5 false false (kb 1 key), .ro 5 false false (kb 2 key)]) [(host % 3).toNat]).els) (Je (List.take ((Jw (EV.mk s_Body s_Mac (at1 % 1000) [])).length + (List.take 32 (pu IntKind.u8 (nxP (NX.mk prev (EV.mk s_Body s_Mac (at1 % 1000) []))))).length) (List.take (Jw (EV.mk s_Body s_Mac (at1 % 1000) [])).length (pu IntKind.u8 (Jw (EV.mk s_Body s_Mac (at1 % 1000) []))) ++ List.take 32 (pu IntKind.u8 (nxP (NX.mk prev (EV.mk s_Body s_Mac (at1 % 1000) []))))))))) && true then k (Res.mk (.sc (.bool (Qt (pu IntKind.u8 (emP (EM.mk [.ro 5 false false (kb 0 key), .ro 5 false false (kb 1 key), .ro 5 false false (kb 2 key)] (host % 3) (EV.mk s_Body s_Mac (at1 % 1000) []) (pu IntKind.u8 (nxP (NX.mk prev (EV.mk s_Body s_Mac (at1 % 1000) []))))))) (pu IntKind.u8 (Q1 (Je (Jm (PV.st 31 [.ro 5 false false (kb 0 key), .ro 5 false false (kb 1 key), .ro 5 false false (kb 2 key)]) [(host % 3).toNat]).els) (Je (List.take ((Jw (EV.mk s_Body s_Mac (at1 % 1000) [])).length + (List.take 32 (pu IntKind.u8 (nxP (NX.mk prev (EV.mk s_Body s_Mac (at1 % 1000) []))))).length) (List.take (Jw (EV.mk s_Body s_Mac (at1 % 1000) [])).length (pu IntKind.u8 (Jw (EV.mk s_Body s_Mac (at1 % 1000) []))) ++ List.take 32 (pu IntKind.u8 (nxP (NX.mk prev (EV.mk s_Body s_Mac (at1 % 1000) [])))))))))))) [] []) else none else none else none else none else none else none else k (Res.mk (.sc (.bool false)) [] []) else none else k (Res.mk (.sc (.bool false)) [] []) else none else none else k (Res.mk (.sc (.bool false)) [] []) else k (Res.mk (.sc (.bool false)) [] []) else none else none else none else none else k (Res.mk (.sc (.bool false)) [] []) else none else none else none else none else none else none
theorem e17 (f : Nat) (key_z : Bool) (key_f : Bool) (key : List PV) (prev : List PV) (s_Body_z : Bool) (s_Body_f : Bool) (s_Body : List PV) (s_Mac : List PV) (at1 : Int) (host : Int) (k : Res → Option Res) : JR tau F17 Try.f17 (Try.f17.body.get!) Jnu [.ro] 0 [.ro 5 key_z key_f key, .ar 37 prev, .st 77 [.ro 5 s_Body_z s_Body_f s_Body, .ar 37 s_Mac], .sc (.int .i64 at1), .sc (.int .i64 host)] [] k = g17 f key_z key_f key prev s_Body_z s_Body_f s_Body s_Mac at1 host k := by kernel_rfl
theorem Jy1 (f : Nat) : Jg (Try.f17.body.get!) Jnu = [] := by kernel_rfl
theorem Jy2 (f : Nat) : ∀ q ∈ Jg (Try.f17.body.get!) Jnu, q.Ok tau Try.prog 0 := by
  rw [Jy1 f]; intro q hq; cases hq
theorem Jr1 : Try.prog.funcs[17]? = some Try.f17 := by kernel_rfl
theorem Jy3 : Try.f17.body = some (Try.f17.body.get!) := by kernel_rfl



-- FN slices.EqualFunc[[][]byte,[][]byte,[]byte,[]byte] | ref16.Same
structure MS where
  (c : C13) (b : List PV)
noncomputable def Jk7 (T : TypeId) : List TypeId := match tau.und T with | some (.struct fds) => fds.toList.map (·.type) | _ => []
theorem Jk8 {τ : Tab} {n : Nat} : ∀ (ts : List TypeId) (ps : List PV), ts.length = ps.length → (∀ (i : Nat) (t : TypeId) (q : PV), ts[i]? = some t → ps[i]? = some q → Ty τ n t q) → TyL τ n ts ps
  | [], [], _, _ => trivial
  | t :: ts, p :: ps, hl, h => ⟨h 0 t p rfl rfl, Jk8 ts ps (by simpa using hl) fun i t q h1 h2 => h (i + 1) t q (by simpa using h1) (by simpa using h2)⟩
  | [], _ :: _, hl, _ => by simp at hl
  | _ :: _, [], hl, _ => by simp at hl
theorem JeW {τ : Tab} {n : Nat} {t : TypeId} {ts : List TypeId} {ps : List PV} (h : TyL τ n (t :: ts) ps) : ∃ p r, ps = p :: r ∧ Ty τ n t p ∧ TyL τ n ts r := by
  cases ps with
  | nil => exact h.elim
  | cons p r => exact ⟨p, r, rfl, h.1, h.2⟩
theorem JiF {n : Nat} {T : TypeId} {tys : List TypeId} {p : PV} (hc : Jk7 T = tys) (hne : tys ≠ []) (h : Ty tau (n + 1) T p) : ∃ fs, p = .st T fs ∧ TyL tau n tys fs := by
  unfold Jk7 at hc
  split at hc
  · rename_i fds hu
    obtain ⟨fs, rfl, hl, hf⟩ := Jis hu h
    refine ⟨fs, rfl, Jk8 tys fs (by rw [← hc]; simpa using hl.symm) fun i t q h1 h2 => ?_⟩
    rw [← hc, List.getElem?_map] at h1
    rw [Array.getElem?_toList] at h1
    cases hfi : fds[i]? with
    | none => rw [hfi] at h1; cases h1
    | some f =>
      rw [hfi] at h1
      obtain rfl := Option.some.inj h1
      exact hf i f q hfi h2
  · exact absurd hc.symm hne
theorem Jk9 {n : Nat} {p : PV} (h : Ty tau (n + 1) 3 p) : ∃ x, p = .sc (.int .i64 x) ∧ i64B x = true := by
  have u : tau.und 3 = some (.int .i64) := by kernel_rfl
  obtain ⟨x, rfl, hx⟩ := Jjb u h
  refine ⟨x, rfl, ?_⟩
  have e1 : IntKind.i64.min = -9223372036854775808 := rfl
  have e2 : IntKind.i64.max = 9223372036854775807 := rfl
  simp only [Lit.wf, e1, e2, Bool.and_eq_true, decide_eq_true_eq] at hx
  simp only [i64B, Bool.and_eq_true, decide_eq_true_eq]
  omega
theorem Jla {n : Nat} : ∀ (l : List PV), (∀ q ∈ l, Ty tau (n + 1) 5 q) → byB l = true
  | [], _ => rfl
  | p :: ps, h => by
      have u : tau.und 5 = some (.int .u8) := by kernel_rfl
      obtain ⟨x, rfl, hx⟩ := Jjb u (h p List.mem_cons_self)
      have ih := Jla ps fun q hq => h q (List.mem_cons_of_mem _ hq)
      have e1 : IntKind.u8.min = 0 := rfl
      have e2 : IntKind.u8.max = 255 := rfl
      simp only [Lit.wf, e1, e2, Bool.and_eq_true, decide_eq_true_eq] at hx
      have e : byB (PV.sc (.int .u8 x) :: ps) = (((PV.sc (.int .u8 x)).isInt .u8 && (decide (0 ≤ (PV.sc (.int .u8 x)).int) && decide ((PV.sc (.int .u8 x)).int < 256))) && byB ps) := rfl
      rw [e, ih, Bool.and_true, Bool.and_eq_true, Bool.and_eq_true]
      exact ⟨rfl, decide_eq_true (by show 0 ≤ x; omega), decide_eq_true (by show x < 256; omega)⟩
theorem JeX {n : Nat} {p : PV} (h : Ty tau (n + 2) 29 p) : ∃ z b, p = .ro 5 z false b ∧ (z = true → b = []) ∧ b.length ≤ maxLen ∧ byB b = true := by
  have u : tau.und 29 = some (.slice 5) := by kernel_rfl
  obtain ⟨z, b, rfl, h1, h2, h3⟩ := Jja u h
  exact ⟨z, b, rfl, h1, h2, Jla b h3⟩
theorem Jh7 {n : Nat} {p : PV} (h : Ty tau (n + 2) 37 p) : ∃ l, p = .ar 37 l ∧ l.length = 32 ∧ byB l = true := by
  have u : tau.und 37 = some (.array 32 5) := by kernel_rfl
  obtain ⟨l, rfl, h1, h2⟩ := Jjc u h
  exact ⟨l, rfl, h1, Jla l h2⟩
theorem JiG {n : Nat} {p : PV} (h : Ty tau (n + 3) 77 p) : ∃ z b m, p = .st 77 [.ro 5 z false b, .ar 37 m] ∧ (z = true → b = []) ∧ b.length ≤ maxLen ∧ byB b = true ∧ m.length = 32 ∧ byB m = true := by
  obtain ⟨fs, rfl, hf⟩ := JiF (n := n + 2) (T := 77) (tys := [29, 37]) (by kernel_rfl) (List.cons_ne_nil _ _) h
  obtain ⟨p, q, rfl, h1, h2⟩ := JxW hf
  obtain ⟨z, b, rfl, r1, r2, r3⟩ := JeX h1
  obtain ⟨m, rfl, r4, r5⟩ := Jh7 h2
  exact ⟨z, b, m, rfl, r1, r2, r3, r4, r5⟩

-- FN wire.Bytes
structure WM where
  (l : List PV) (c : C13) (b : List PV)

-- FN
theorem Jpx {n : Int} (h : 0 < n) (h2 : n < 1000000000000) : okW n = true := by rw [Jje, Bool.and_eq_true, decide_eq_true_eq, decide_eq_true_eq]; exact ⟨h, h2⟩
theorem Jy4 {b m : List PV} {at1 : Int} (hb : byB b = true) (hl : b.length ≤ 65535) (hm : byB m = true) (hm2 : m.length = 32) : eOk ⟨b, m, at1, []⟩ = true :=
  W7.2 ⟨(Qy.1 hb).1, hl, (Qy.1 hm).1, hm2, X6.2 ⟨rfl, fun p hp => (by cases hp), Nat.zero_le _⟩, by show (opB []).length ≤ _; rw [Gf, JiD]; simp [Qc]⟩
theorem h32_by {l : List PV} (h : byB l = true) (h2 : l.length = 32) : h32 l = true := h32_iff.2 ⟨(Qy.1 h).1, h2⟩
theorem Jcc (s : ByteArray) : ZA s s = true := by rw [JgP]; exact decide_eq_true rfl
theorem Y9 {l : List PV} (h : Jf .u8 l = true) : Qt l l = true := by
  rw [Qa h, Xn]; exact beq_self_eq_true _
-- FN law9.SignChain
theorem Jlb (kz kf : Bool) (key prev : List PV) (z f : Bool) (b m : List PV) (at1 host : Int) (hk : byB key = true) (hp : byB prev = true) (hp2 : prev.length = 32) (hz : z = true → b = []) (hb : byB b = true) (hm : byB m = true) (hm2 : m.length = 32) (k : Res → Option Res) :
    g17 0 kz kf key prev z f b m at1 host k = k ⟨.sc (.bool true), [], []⟩ := by
  unfold g17
  by_cases hl : b.length > 200
  · exact Jb (by simp only [zi, decide_eq_true_eq]; omega)
  refine (JL (by simp only [zi, decide_eq_false_iff_not]; omega)).trans ((Jb (Jpx (by decide) (by decide))).trans ((Jb (Jpx (by decide) (by decide))).trans ?_))
  have he : eOk ⟨b, m, at1 % 1000, []⟩ = true := Jy4 hb (by omega) hm hm2
  have hkk : ∀ i, kOk (kb i key) = true := fun i => Jhs i (Qy.1 hk).1
  have hK : kO3 [.ro 5 false false (kb 0 key), .ro 5 false false (kb 1 key), .ro 5 false false (kb 2 key)] = true := Jdu.2 ⟨hkk 0, hkk 1, hkk 2⟩
  have h32p := h32_by hp hp2
  have hsl : slB z b = true := QZ.2 ⟨hz, by omega⟩
  have had1 := Int.emod_nonneg host (show (3 : Int) ≠ 0 by decide)
  have had2 := Int.emod_lt_of_pos host (show (0 : Int) < 3 by decide)
  have hin : QM (host % 3) 2 = true := by simp only [QM, Bool.and_eq_true, decide_eq_true_eq]; omega
  obtain ⟨q1, q2⟩ := JrQ hK hin
  have hko := Ja9 hK (host % 3)
  have hcl := Xa he
  generalize EV.mk b m (at1 % 1000) [] = ev at *
  have hnl := Ja6 ⟨prev, ev⟩
  generalize hnx : nxP ⟨prev, ev⟩ = nx at *
  have hth : List.take 32 (pu .u8 nx) = pu .u8 nx := List.take_of_length_le (by rw [JF]; omega)
  have hte : List.take ((Jw ev).length + nx.length) (List.take (Jw ev).length (pu .u8 (Jw ev)) ++ pu .u8 nx) = pu .u8 (Jw ev ++ nx) := by
    rw [List.take_of_length_le (l := pu .u8 (Jw ev)) (by simp), ← JN]; exact List.take_of_length_le (by simp)
  have hel := Ja8 ⟨[.ro 5 false false (kb 0 key), .ro 5 false false (kb 1 key), .ro 5 false false (kb 2 key)], host % 3, ev, pu .u8 nx⟩
  have hem : Q1 (Je (Qs ⟨[.ro 5 false false (kb 0 key), .ro 5 false false (kb 1 key), .ro 5 false false (kb 2 key)], host % 3⟩)) (Jw ev ++ nx) = emP ⟨[.ro 5 false false (kb 0 key), .ro 5 false false (kb 1 key), .ro 5 false false (kb 2 key)], host % 3, ev, pu .u8 nx⟩ := by rw [Ja7, Z4, Qf]
  simp only [hth, JF, hte, q2, Qf, hem]
  generalize emP ⟨[.ro 5 false false (kb 0 key), .ro 5 false false (kb 1 key), .ro 5 false false (kb 2 key)], host % 3, ev, pu .u8 nx⟩ = em at *
  have hc0 : (PV.isInt .u8 (Jm (PV.st 93 [PV.st 77 [.ro 5 z z b, .ar 37 m], .sc (.int .i64 (at1 % 1000)), .ro 99 true false [], .ar 37 (pu .u8 nx), .ar 37 (pu .u8 em)]) [4, 0]) && true) = true := by
    have : Jm (PV.st 93 [PV.st 77 [.ro 5 z z b, .ar 37 m], .sc (.int .i64 (at1 % 1000)), .ro 99 true false [], .ar 37 (pu .u8 nx), .ar 37 (pu .u8 em)]) [4, 0] = (pu .u8 em).getD 0 .top := rfl
    rw [this, JT (by omega)]; rfl
  have hab := (Qy.1 hb).1
  have ham := (Qy.1 hm).1
  refine (Jb (by rw [hsl, he, h32p, hK]; rfl)).trans ((Jb hc0).trans ((Jb (by rw [he, h32p]; rfl)).trans ((Jb (by simp [hnl])).trans ((Jb (Y9 (JK _ _))).trans ((Jb he).trans ((Jb (by simp)).trans ((Jb he).trans ((Jb (by simp)).trans ((Jb (Jcc _)).trans ((Jb (by simp)).trans ((Jb (by rw [hab]; rfl)).trans ((Jb (by rw [hab]; rfl)).trans ((Jb (Jcc _)).trans ?_)))))))))))))
  refine (Jb (by rw [ham]; simp [hm2])).trans ((Jb (Y9 ham)).trans ((Jb (by simp [zi]; omega)).trans ((Jb (by rw [q1]; rfl)).trans ((Jb he).trans ((Jb (by simp [Jj]; omega)).trans ((Jb (by rw [hko.1, JK]; simp; omega)).trans ((Jb (by simp [hel])).trans ?_)))))))
  rw [Y9 (JK _ _)]
noncomputable def Jgy : List PV → List Ent → (Res → Option Res) → Option Res
  | [.ro 5 kz kf key, .ar 37 prev, .st 77 [.ro 5 z f b, .ar 37 m], .sc (.int .i64 at1), .sc (.int .i64 host)], [], k => bif byB key && ((byB prev && decide (prev.length = 32)) && (((!z || b.isEmpty) && byB b) && (byB m && decide (m.length = 32)))) then k ⟨.sc (.bool true), [], []⟩ else none
  | _, _, _ => none
noncomputable def JwU : Sig := { own := [], run := Jgy }
theorem JwV : Ji tau Try.prog 17 JwU := Ji.mk' fun xs es k res hl hr => by
  change Jgy xs es k = some res at hr
  unfold Jgy at hr
  split at hr
  · rename_i kz kf key prev z f b m at1 host
    obtain ⟨hc, hr⟩ := JI hr
    simp only [Bool.and_eq_true, decide_eq_true_eq, Bool.or_eq_true, Bool.not_eq_true', List.isEmpty_iff] at hc
    obtain ⟨c1, ⟨c2, c3⟩, ⟨c4, c5⟩, c6, c7⟩ := hc
    exact Qo Jr Jr0 Js Jr1 Jy3 Jnu [.ro] 0 0 (Jy2 0) hl rfl ((e17 0 kz kf key prev z f b m at1 host k).trans ((Jlb kz kf key prev z f b m at1 host c1 c2 c3 (fun h => c4.resolve_left (by rw [h]; decide)) c5 c6 c7 k).trans hr))
  · cases hr
theorem Jgz : ∀ pvs, TyL tau 4 [29, 37, 77, 3, 3] pvs → JwU.run pvs [] some = some ⟨.sc (.bool true), [], []⟩ := by
  intro pvs h
  obtain ⟨p1, r1, rfl, h1, hf⟩ := JeW h
  obtain ⟨p2, r2, rfl, h2, hf⟩ := JeW hf
  obtain ⟨p3, p4, p5, rfl, h3, h4, h5⟩ := JxX hf
  obtain ⟨kz, key, rfl, _, _, a1⟩ := JeX (n := 2) h1
  obtain ⟨prev, rfl, a2, a3⟩ := Jh7 (n := 2) h2
  obtain ⟨z, b, m, rfl, a4, _, a5, a6, a7⟩ := JiG (n := 1) h3
  obtain ⟨at1, rfl, _⟩ := Jk9 (n := 3) h4
  obtain ⟨host, rfl, _⟩ := Jk9 (n := 3) h5
  refine Jb ?_
  simp only [a1, a2, a3, a5, a6, a7, Bool.and_eq_true, decide_eq_true_eq, Bool.or_eq_true, Bool.not_eq_true', List.isEmpty_iff]
  refine ⟨trivial, ⟨trivial, trivial⟩, ⟨?_, trivial⟩, trivial, trivial⟩
  cases z with
  | true => exact .inr (a4 rfl)
  | false => exact .inl rfl
end Go.Proofs.Ytcklhipdldpkhaa.Rx
