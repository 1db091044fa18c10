/- What the functions of this law compute, and their plain laws. Conditions: none. -/
import Derived.Test.YthpmachmnoljeaaWaveletPlaysP5
namespace Go.Proofs.Ythpmachmnoljeaa.Rx
noncomputable section
open Go
set_option linter.unusedVariables false
set_option linter.unusedSimpArgs false
set_option maxRecDepth 100000
set_option maxHeartbeats 0
def N7 : Nat := 99
def F7 : Fns := Jt 25 JJR (Jt 24 JJP (Jt 23 JLj (Jt 22 JK5 (Jt 21 s21 (Jt 20 s20 (Jt 18 JxO (Jt 17 s17 (Jt 14 JKT (Jt 13 JCt (Jt 12 JJM (Jt 10 s10 (Jt 9 s9' (F0)))))))))))))
theorem JpY : Jq tau Try.prog F7 := (((((((((((((Js).add JN3 en9).add JN6 JN5).add JJO JN1).add Jzh JH0).add JKU JOC).add JOF JOE).add JuA JEk).add JOK JOJ).add JON JOM).add JK6 JOQ).add JLk JO0).add JJQ JNY).add JJS JMW
def JxW : Code := Qd (Try.f7.body.get!) [1, 1, 1, 1, 1, 1, 0, 1, 0, 0, 1, 0, 0, 1, 1, 1, 1, 1]
def JpZ : Nm := [(0, .any), (7, .any), (8, .any), (9, .any), (10, .any), (12, .any), (13, .any), (14, .any), (15, .any), (16, .any), (17, .any)]
def Jp0 : Nm := [(0, .any), (6, .any), (7, .any), (8, .any), (9, .any), (10, .any)]
def ZJ : An := (.seq (.seq .leaf (.cond (.seq .leaf .leaf) .leaf)) .leaf)
def JxX : Code := Qd (Try.f7.body.get!) [1, 1, 1, 1, 1, 1, 0, 1, 0, 0, 1, 0, 0, 1]
def Jp1 : Nm := [(0, .any), (7, .any), (8, .any), (9, .any), (10, .any), (11, .any)]
def Jp2 : Nm := [(0, .any), (6, .any), (7, .any), (8, .any), (9, .any), (10, .any)]
def YW (r2 : Qr) : An := (.seq .leaf (.seq .leaf (.seq .leaf (.cut JpZ N7 .leaf r2))))
def JxY : Code := Qd (Try.f7.body.get!) [1, 1, 1, 1, 1, 1, 0, 1, 0, 0]
def Jks : Nm := [(0, .any), (7, .any), (8, .any), (9, .any), (10, .any)]
def Jp3 : Nm := [(6, .any)]
def QI (r1 : Qr) : An := (.seq (.seq .leaf (.cond .leaf .leaf)) (.seq (.block none (.cut Jp1 N7 .leaf r1)) .leaf))
def an7 (r0 : Qr) : An := (.seq .leaf (.seq (.seq .leaf (.cond (.seq .leaf .leaf) .leaf)) (.seq (.seq .leaf (.cond (.seq .leaf .leaf) .leaf)) (.seq .leaf (.seq .leaf (.seq .leaf (.seq (.seq .leaf (.block none (.sum Jks N7 r0))) (.seq .leaf .leaf))))))))
def Ji0 (f : Nat) (rc : Bool -> Bool -> List PV -> Int -> Int -> Int -> List PV -> List PV -> List PV -> Int -> Int -> ByteArray -> Bool -> Bool -> List PV -> Int -> List PV -> Int -> Int -> ByteArray -> Bool -> Bool -> List PV -> Int -> List PV -> Int -> Int -> ByteArray -> Bool -> Bool -> List PV -> Int -> List PV -> Int -> Int -> ByteArray -> Bool -> Bool -> List PV -> Int -> List PV -> Int -> Int -> ByteArray -> Bool -> Bool -> List PV -> Int -> List PV -> Int -> Int -> ByteArray -> Bool -> Bool -> List PV -> Int -> List PV -> OR) (k0 : Bool -> Bool -> List PV -> Bool -> Int -> List PV -> List PV -> List PV -> Int -> Int -> ByteArray -> Bool -> Bool -> List PV -> Int -> List PV -> Int -> Int -> ByteArray -> Bool -> Bool -> List PV -> Int -> List PV -> OR) (k1 : Bool -> Bool -> List PV -> Int -> List PV -> List PV -> List PV -> Int -> Int -> ByteArray -> Bool -> Bool -> List PV -> Int -> List PV -> Int -> Int -> ByteArray -> Bool -> Bool -> List PV -> Int -> List PV -> OR) (v0 v1 : Bool) (v2 : List PV) (v3 v4 v5 : Int) (v6 v7 v8 : List PV) (v9 v10 : Int) (v11 : ByteArray) (v12 v13 : Bool) (v14 : List PV) (v15 : Int) (v16 : List PV) (v17 v18 : Int) (v19 : ByteArray) (v20 v21 : Bool) (v22 : List PV) (v23 : Int) (v24 : List PV) (v25 v26 : Int) (v27 : ByteArray) (v28 v29 : Bool) (v30 : List PV) (v31 : Int) (v32 : List PV) (v33 v34 : Int) (v35 : ByteArray) (v36 v37 : Bool) (v38 : List PV) (v39 : Int) (v40 : List PV) (v41 v42 : Int) (v43 : ByteArray) (v44 v45 : Bool) (v46 : List PV) (v47 : Int) (v48 : List PV) (v49 v50 : Int) (v51 : ByteArray) (v52 v53 : Bool) (v54 : List PV) (v55 : Int) (v56 : List PV) : OR := bif v4 != v5 then k0 v0 v1 v2 false v3 v6 v7 v8 v9 v10 v11 v12 v13 v14 v15 v16 v17 v18 v19 v20 v21 v22 v23 v24 else bif wOk (SV.mk v41 v42 v43 v46 v47 v48) && wOk (SV.mk v49 v50 v51 v54 v55 v56) then bif !JbL (SW.mk (SV.mk v41 v42 v43 v46 v47 v48) (SV.mk v49 v50 v51 v54 v55 v56)) then k0 v0 v1 v2 false v3 v6 v7 v8 v9 v10 v11 v12 v13 v14 v15 v16 v17 v18 v19 v20 v21 v22 v23 v24 else bif wOk (SV.mk v33 v34 v35 v38 v39 v40) && wOk (SV.mk v25 v26 v27 v30 v31 v32) then bif !JbL (SW.mk (SV.mk v33 v34 v35 v38 v39 v40) (SV.mk v25 v26 v27 v30 v31 v32)) then k0 v0 v1 v2 false v3 v6 v7 v8 v9 v10 v11 v12 v13 v14 v15 v16 v17 v18 v19 v20 v21 v22 v23 v24 else bif wOk (SV.mk v41 v42 v43 v46 v47 v48) && wOk (SV.mk v49 v50 v51 v54 v55 v56) then bif !JbL (SW.mk (SV.mk v41 v42 v43 v46 v47 v48) (SV.mk v49 v50 v51 v54 v55 v56)) then k0 v0 v1 v2 false v3 v6 v7 v8 v9 v10 v11 v12 v13 v14 v15 v16 v17 v18 v19 v20 v21 v22 v23 v24 else k1 v0 v1 v2 v3 v6 v7 v8 v41 v42 v43 v44 v45 v46 v47 v48 v49 v50 v51 v52 v53 v54 v55 v56 else none else none else none
def Jkt (f : Nat) (k0 : Bool -> Bool -> List
 PV -> Bool -> Int -> List
 PV -> List
 PV -> List
 PV -> Int -> Int -> ByteArray -> Bool -> Bool -> List
 PV -> Int -> List
 PV -> Int -> Int -> ByteArray -> Bool -> Bool -> List
 PV -> Int -> List
 PV -> OR) (k1 : Bool -> Bool -> List
 PV -> Int -> List
 PV -> List
 PV -> List
 PV -> Int -> Int -> ByteArray -> Bool -> Bool -> List
 PV -> Int -> List
 PV -> Int -> Int -> ByteArray -> Bool -> Bool -> List
 PV -> Int -> List
 PV -> OR) : Nat -> Bool -> Bool -> List
 PV -> Int -> Int -> Int -> List
 PV -> List
 PV -> List
 PV -> Int -> Int -> ByteArray -> Bool -> Bool -> List
 PV -> Int -> List
 PV -> Int -> Int -> ByteArray -> Bool -> Bool -> List
 PV -> Int -> List
 PV -> Int -> Int -> ByteArray -> Bool -> Bool -> List
 PV -> Int -> List
 PV -> Int -> Int -> ByteArray -> Bool -> Bool -> List
 PV -> Int -> List PV -> Int -> Int -> ByteArray -> Bool -> Bool -> List PV -> Int -> List PV -> Int -> Int -> ByteArray -> Bool -> Bool -> List PV -> Int -> List PV -> OR
 | 0, _, _, _, _, _, _, _, _, _, _, _, _, _, _, _, _, _, _, _, _, _, _, _, _, _, _, _, _, _, _, _, _, _, _, _, _, _, _, _, _, _, _, _, _, _, _, _, _, _, _, _, _, _, _, _, _, _ => none
 | n + 1, v0, v1, v2, v3, v4, v5, v6, v7, v8, v9, v10, v11, v12, v13, v14, v15, v16, v17, v18, v19, v20, v21, v22, v23, v24, v25, v26, v27, v28, v29, v30, v31, v32, v33, v34, v35, v36, v37, v38, v39, v40, v41, v42, v43, v44, v45, v46, v47, v48, v49, v50, v51, v52, v53, v54, v55, v56 => Ji0 f (Jkt f k0 k1 n) k0 k1 v0 v1 v2 v3 v4 v5 v6 v7 v8 v9 v10 v11 v12 v13 v14 v15 v16 v17 v18 v19 v20 v21 v22 v23 v24 v25 v26 v27 v28 v29 v30 v31 v32 v33 v34 v35 v36 v37 v38 v39 v40 v41 v42 v43 v44 v45 v46 v47 v48 v49 v50 v51 v52 v53 v54 v55 v56
def JdC (k : Kont) := fun x0 x1 x2 x3 x4 x5 x6 x7 x8 x9 x10 x11 x12 x13 x14 x15 x16 x17 x18 x19 x20 x21 x22 x23 => k Ex.ret (Ji Jp0 N7 [.ro 69 x0 x1 x2, .sc (.bool x3), .ptr 1600 [], .ptr 1601 [], .ptr 1602 [], .sc (.int .i64 x4)] [(1600, .box false 31 (PV.st 31 [.ro 5 false false x5, .ro 5 false false x6, .ro 5 false false x7])), (1601, .box false 39 (PV.st 39 [.st 34 [.sc (.int .i64 x8), .sc (.int .i64 x9)], .sc (.string x10), .ro 42 x11 x12 x13, .sc (.int .i64 x14), .ar 37 x15])), (1602, .box false 58 (PV.st 58 [.st 34 [.sc (.int .i64 x16), .sc (.int .i64 x17)], .sc (.string x18), .ro 42 x19 x20 x21, .sc (.int .i64 x22), .ar 37 x23]))])
def JdD (k : Kont) := fun x0 x1 x2 x3 x4 x5 x6 x7 x8 x9 x10 x11 x12 x13 x14 x15 x16 x17 x18 x19 x20 x21 x22 => k Ex.normal (Ji Jp0 N7 [.ro 69 x0 x1 x2, PV.top, .ptr 1600 [], .ptr 1601 [], .ptr 1602 [], .sc (.int .i64 x3)] [(1600, .box false 31 (PV.st 31 [.ro 5 false false x4, .ro 5 false false x5, .ro 5 false false x6])), (1601, .box false 39 (PV.st 39 [.st 34 [.sc (.int .i64 x7), .sc (.int .i64 x8)], .sc (.string x9), .ro 42 x10 x11 x12, .sc (.int .i64 x13), .ar 37 x14])), (1602, .box false 58 (PV.st 58 [.st 34 [.sc (.int .i64 x15), .sc (.int .i64 x16)], .sc (.string x17), .ro 42 x18 x19 x20, .sc (.int .i64 x21), .ar 37 x22]))])
def JuO (f : Nat) (k : Kont) (n : Nat) (v0 v1 : Bool) (v2 : List PV) (v3 v4 v5 : Int) (v6 v7 v8 : List PV) (v9 v10 : Int) (v11 : ByteArray) (v12 v13 : Bool) (v14 : List PV) (v15 : Int) (v16 : List PV) (v17 v18 : Int) (v19 : ByteArray) (v20 v21 : Bool) (v22 : List PV) (v23 : Int) (v24 : List PV) (v25 v26 : Int) (v27 : ByteArray) (v28 v29 : Bool) (v30 : List PV) (v31 : Int) (v32 : List PV) (v33 v34 : Int) (v35 : ByteArray) (v36 v37 : Bool) (v38 : List PV) (v39 : Int) (v40 : List PV) (v41 v42 : Int) (v43 : ByteArray) (v44 v45 : Bool) (v46 : List PV) (v47 : Int) (v48 : List PV) (v49 v50 : Int) (v51 : ByteArray) (v52 v53 : Bool) (v54 : List PV) (v55 : Int) (v56 : List PV) : OR := JqS (fun s k => ev tau F7 0 0 JxW (ZJ ) s k) n (Ji JpZ N7 [.ro 69 v0 v1 v2, .ptr 1600 [], .ptr 1601 [], .ptr 1602 [], .sc (.int .i64 v3), .ptr 1603 [], .ptr 1604 [], .ptr 1605 [], .sc (.int .i64 v4), .ptr 1606 [], .sc (.int .i64 v5)] [(1600, .box false 31 (PV.st 31 [.ro 5 false false v6, .ro 5 false false v7, .ro 5 false false v8])), (1601, .box false 39 (PV.st 39 [.st 34 [.sc (.int .i64 v9), .sc (.int .i64 v10)], .sc (.string v11), .ro 42 v12 v13 v14, .sc (.int .i64 v15), .ar 37 v16])), (1602, .box false 58 (PV.st 58 [.st 34 [.sc (.int .i64 v17), .sc (.int .i64 v18)], .sc (.string v19), .ro 42 v20 v21 v22, .sc (.int .i64 v23), .ar 37 v24])), (1603, .box false 58 (PV.st 58 [.st 34 [.sc (.int .i64 v25), .sc (.int .i64 v26)], .sc (.string v27), .ro 42 v28 v29 v30, .sc (.int .i64 v31), .ar 37 v32])), (1604, .box false 39 (PV.st 39 [.st 34 [.sc (.int .i64 v33), .sc (.int .i64 v34)], .sc (.string v35), .ro 42 v36 v37 v38, .sc (.int .i64 v39), .ar 37 v40])), (1605, .box false 39 (PV.st 39 [.st 34 [.sc (.int .i64 v41), .sc (.int .i64 v42)], .sc (.string v43), .ro 42 v44 v45 v46, .sc (.int .i64 v47), .ar 37 v48])), (1606, .box false 58 (PV.st 58 [.st 34 [.sc (.int .i64 v49), .sc (.int .i64 v50)], .sc (.string v51), .ro 42 v52 v53 v54, .sc (.int .i64 v55), .ar 37 v56]))]) (JG tau 0 Jp0 k)
theorem JEE (f : Nat) (k : Kont) (n : Nat) (v0 v1 : Bool) (v2 : List PV) (v3 v4 v5 : Int) (v6 v7 v8 : List PV) (v9 v10 : Int) (v11 : ByteArray) (v12 v13 : Bool) (v14 : List PV) (v15 : Int) (v16 : List PV) (v17 v18 : Int) (v19 : ByteArray) (v20 v21 : Bool) (v22 : List PV) (v23 : Int) (v24 : List PV) (v25 v26 : Int) (v27 : ByteArray) (v28 v29 : Bool) (v30 : List PV) (v31 : Int) (v32 : List PV) (v33 v34 : Int) (v35 : ByteArray) (v36 v37 : Bool) (v38 : List PV) (v39 : Int) (v40 : List PV) (v41 v42 : Int) (v43 : ByteArray) (v44 v45 : Bool) (v46 : List PV) (v47 : Int) (v48 : List PV) (v49 v50 : Int) (v51 : ByteArray) (v52 v53 : Bool) (v54 : List PV) (v55 : Int) (v56 : List PV) : JuO f k (n + 1) v0 v1 v2 v3 v4 v5 v6 v7 v8 v9 v10 v11 v12 v13 v14 v15 v16 v17 v18 v19 v20 v21 v22 v23 v24 v25 v26 v27 v28 v29 v30 v31 v32 v33 v34 v35 v36 v37 v38 v39 v40 v41 v42 v43 v44 v45 v46 v47 v48 v49 v50 v51 v52 v53 v54 v55 v56 = Ji0 f (JuO f k n) (JdC k) (JdD k) v0 v1 v2 v3 v4 v5 v6 v7 v8 v9 v10 v11 v12 v13 v14 v15 v16 v17 v18 v19 v20 v21 v22 v23 v24 v25 v26 v27 v28 v29 v30 v31 v32 v33 v34 v35 v36 v37 v38 v39 v40 v41 v42 v43 v44 v45 v46 v47 v48 v49 v50 v51 v52 v53 v54 v55 v56 := by kernel_rfl
theorem JuP (f : Nat) (k : Kont) : ∀ (n : Nat) (v0 v1 : Bool) (v2 : List PV) (v3 v4 v5 : Int) (v6 v7 v8 : List PV) (v9 v10 : Int) (v11 : ByteArray) (v12 v13 : Bool) (v14 : List PV) (v15 : Int) (v16 : List PV) (v17 v18 : Int) (v19 : ByteArray) (v20 v21 : Bool) (v22 : List PV) (v23 : Int) (v24 : List PV) (v25 v26 : Int) (v27 : ByteArray) (v28 v29 : Bool) (v30 : List PV) (v31 : Int) (v32 : List PV) (v33 v34 : Int) (v35 : ByteArray) (v36 v37 : Bool) (v38 : List PV) (v39 : Int) (v40 : List PV) (v41 v42 : Int) (v43 : ByteArray) (v44 v45 : Bool) (v46 : List PV) (v47 : Int) (v48 : List PV) (v49 v50 : Int) (v51 : ByteArray) (v52 v53 : Bool) (v54 : List PV) (v55 : Int) (v56 : List PV), JuO f k n v0 v1 v2 v3 v4 v5 v6 v7 v8 v9 v10 v11 v12 v13 v14 v15 v16 v17 v18 v19 v20 v21 v22 v23 v24 v25 v26 v27 v28 v29 v30 v31 v32 v33 v34 v35 v36 v37 v38 v39 v40 v41 v42 v43 v44 v45 v46 v47 v48 v49 v50 v51 v52 v53 v54 v55 v56 = Jkt f (JdC k) (JdD k) n v0 v1 v2 v3 v4 v5 v6 v7 v8 v9 v10 v11 v12 v13 v14 v15 v16 v17 v18 v19 v20 v21 v22 v23 v24 v25 v26 v27 v28 v29 v30 v31 v32 v33 v34 v35 v36 v37 v38 v39 v40 v41 v42 v43 v44 v45 v46 v47 v48 v49 v50 v51 v52 v53 v54 v55 v56 | 0, _, _, _, _, _, _, _, _, _, _, _, _, _, _, _, _, _, _, _, _, _, _, _, _, _, _, _, _, _, _, _, _, _, _, _, _, _, _, _, _, _, _, _, _, _, _, _, _, _, _, _, _, _, _, _, _, _ => rfl | n + 1, v0, v1, v2, v3, v4, v5, v6, v7, v8, v9, v10, v11, v12, v13, v14, v15, v16, v17, v18, v19, v20, v21, v22, v23, v24, v25, v26, v27, v28, v29, v30, v31, v32, v33, v34, v35, v36, v37, v38, v39, v40, v41, v42, v43, v44, v45, v46, v47, v48, v49, v50, v51, v52, v53, v54, v55, v56 => (JEE f k n v0 v1 v2 v3 v4 v5 v6 v7 v8 v9 v10 v11 v12 v13 v14 v15 v16 v17 v18 v19 v20 v21 v22 v23 v24 v25 v26 v27 v28 v29 v30 v31 v32 v33 v34 v35 v36 v37 v38 v39 v40 v41 v42 v43 v44 v45 v46 v47 v48 v49 v50 v51 v52 v53 v54 v55 v56).trans (congrArg (fun r => Ji0 f r (JdC k) (JdD k) v0 v1 v2 v3 v4 v5 v6 v7 v8 v9 v10 v11 v12 v13 v14 v15 v16 v17 v18 v19 v20 v21 v22 v23 v24 v25 v26 v27 v28 v29 v30 v31 v32 v33 v34 v35 v36 v37 v38 v39 v40 v41 v42 v43 v44 v45 v46 v47 v48 v49 v50 v51 v52 v53 v54 v55 v56) (by funext v0 v1 v2 v3 v4 v5 v6 v7 v8 v9 v10 v11 v12 v13 v14 v15 v16 v17 v18 v19 v20 v21 v22 v23 v24 v25 v26 v27 v28 v29 v30 v31 v32 v33 v34 v35 v36 v37 v38 v39 v40 v41 v42 v43 v44 v45 v46 v47 v48 v49 v50 v51 v52 v53 v54 v55 v56; exact JuP f k n v0 v1 v2 v3 v4 v5 v6 v7 v8 v9 v10 v11 v12 v13 v14 v15 v16 v17 v18 v19 v20 v21 v22 v23 v24 v25 v26 v27 v28 v29 v30 v31 v32 v33 v34 v35 v36 v37 v38 v39 v40 v41 v42 v43 v44 v45 v46 v47 v48 v49 v50 v51 v52 v53 v54 v55 v56))
def JqG (f : Nat) : List PV -> List (Nat × Ent) -> Kont -> OR
 | [.ro 69 v0 v1 v2, .ptr 1600 [], .ptr 1601 [], .ptr 1602 [], .sc (.int .i64 v3), .ptr 1603 [], .ptr 1604 [], .ptr 1605 [], .sc (.int .i64 v4),
 PV.ptr 1606 [],
 PV.sc
  (Value.int IntKind.i64
   v5)], [(1600, .box false 31 (PV.st 31 [.ro 5 false false v6, .ro 5 false false v7, .ro 5 false false v8])),
 (1601,
  Ent.box false 39
   (PV.st 39 [.st 34 [.sc (.int .i64 v9), .sc (.int .i64 v10)], .sc (.string v11), .ro 42 v12 v13 v14, .sc (.int .i64 v15), .ar 37 v16])),
 (1602,
  Ent.box false 58
   (PV.st 58 [.st 34 [.sc (.int .i64 v17), .sc (.int .i64 v18)], .sc (.string v19), .ro 42 v20 v21 v22, .sc (.int .i64 v23), .ar 37 v24])),
 (1603,
  Ent.box false 58
   (PV.st 58 [.st 34 [.sc (.int .i64 v25), .sc (.int .i64 v26)], .sc (.string v27), .ro 42 v28 v29 v30, .sc (.int .i64 v31), .ar 37 v32])),
 (1604,
  Ent.box false 39
   (PV.st 39 [.st 34 [.sc (.int .i64 v33), .sc (.int .i64 v34)], .sc (.string v35), .ro 42 v36 v37 v38, .sc (.int .i64 v39), .ar 37 v40])),
 (1605,
  Ent.box false 39
   (PV.st 39 [.st 34 [.sc (.int .i64 v41), .sc (.int .i64 v42)], .sc (.string v43), .ro 42 v44 v45 v46, .sc (.int .i64 v47), .ar 37 v48])),
 (1606,
  Ent.box false 58
   (PV.st 58
    [.st 34 [.sc (.int .i64 v49), .sc (.int .i64 v50)], .sc (.string v51), .ro 42 v52 v53 v54, .sc (.int .i64 v55),
     PV.ar 37
      v56]))], k => Jkt f (JdC k) (JdD k) f v0 v1 v2 v3 v4 v5 v6 v7 v8 v9 v10 v11 v12 v13 v14 v15 v16 v17 v18 v19 v20 v21 v22 v23 v24 v25 v26 v27 v28 v29 v30 v31 v32 v33 v34 v35 v36 v37 v38 v39 v40 v41 v42 v43 v44 v45 v46 v47 v48 v49 v50 v51 v52 v53 v54 v55 v56
 | _, _, _ => none
theorem JLl (f : Nat) : Jf JxW ZJ = [] := by kernel_rfl
theorem JLm (f : Nat) : (Item.c JxW JpZ N7 (JqG f)).Ok tau Try.prog 0 := Jjy Jn JpY Jo (x := ZJ) (nm2 := Jp0) (Jk _ _ (by rw [JLl f]; intro q hq; cases hq)) fun vs hp k res hr => by
 unfold JqG at hr
 split at hr
 · exact ⟨f, 0, (JuP f _ f _ _ _ _ _ _ _ _ _ _ _ _ _ _ _ _ _ _ _ _ _ _ _ _ _ _ _ _ _ _ _ _ _ _ _ _ _ _ _ _ _ _ _ _ _ _ _ _ _ _ _ _ _ _ _ _ _ ).trans hr⟩
 · cases hr
def Ji1 (f : Nat) (rc : Bool -> Bool -> List PV -> Int -> List PV -> List PV -> List PV -> Int -> Int -> ByteArray -> Bool -> Bool -> List PV -> Int -> List PV -> Int -> Int -> ByteArray -> Bool -> Bool -> List PV -> Int -> List PV -> List PV -> List PV -> Int -> List PV -> List PV -> List PV -> OR) (k0 : Bool -> Bool -> List PV -> Bool -> Int -> List PV -> List PV -> List PV -> Int -> Int -> ByteArray -> Bool -> Bool -> List PV -> Int -> List PV -> Int -> Int -> ByteArray -> Bool -> Bool -> List PV -> Int -> List PV -> OR) (k1 : Bool -> Bool -> List PV -> Int -> List PV -> List PV -> List PV -> Int -> Int -> ByteArray -> Bool -> Bool -> List PV -> Int -> List PV -> Int -> Int -> ByteArray -> Bool -> Bool -> List PV -> Int -> List PV -> OR) (v0 v1 : Bool) (v2 : List PV) (v3 : Int) (v4 v5 v6 : List PV) (v7 v8 : Int) (v9 : ByteArray) (v10 v11 : Bool) (v12 : List PV) (v13 : Int) (v14 : List PV) (v15 v16 : Int) (v17 : ByteArray) (v18 v19 : Bool) (v20 : List PV) (v21 : Int) (v22 v23 v24 : List PV) (v25 : Int) (v26 v27 v28 : List PV) : OR := bif sOk (SV.mk v7 v8 v9 v12 v13 v14) && eD (EW.mk v23 v24 v25 v26 v27 v28) && (zOk v10 v12 && slB false v23) then bif sOk (SV.mk v15 v16 v17 v20 v21 v22) && eD (EW.mk v23 v24 v25 v26 v27 v28) then Jkt f k0 k1 f v0 v1 v2 v3 (dsE (DX.mk (SV.mk v7 v8 v9 v12 v13 v14) (EW.mk v23 v24 v25 v26 v27 v28))) (dsE (DX.mk (SV.mk v15 v16 v17 v20 v21 v22) (EW.mk v23 v24 v25 v26 v27 v28))) v4 v5 v6 v7 v8 v9 v10 v11 v12 v13 v14 v15 v16 v17 v18 v19 v20 v21 v22 v7 v8 v9 v10 v11 v12 v13 v14 v7 v8 v9 v10 v11 v12 v13 v14 v7 v8 (dsD (DX.mk (SV.mk v7 v8 v9 v12 v13 v14) (EW.mk v23 v24 v25 v26 v27 v28))) (dsZ (DX.mk (SV.mk v7 v8 v9 v12 v13 v14) (EW.mk v23 v24 v25 v26 v27 v28)) v10) (dsZ (DX.mk (SV.mk v7 v8 v9 v12 v13 v14) (EW.mk v23 v24 v25 v26 v27 v28)) v10) (dsL (DX.mk (SV.mk v7 v8 v9 v12 v13 v14) (EW.mk v23 v24 v25 v26 v27 v28))) (dsV (DX.mk (SV.mk v7 v8 v9 v12 v13 v14) (EW.mk v23 v24 v25 v26 v27 v28))) (dsH (DX.mk (SV.mk v7 v8 v9 v12 v13 v14) (EW.mk v23 v24 v25 v26 v27 v28))) v15 v16 (dsD (DX.mk (SV.mk v15 v16 v17 v20 v21 v22) (EW.mk v23 v24 v25 v26 v27 v28))) (dsZ (DX.mk (SV.mk v15 v16 v17 v20 v21 v22) (EW.mk v23 v24 v25 v26 v27 v28)) v18) (dsF (DX.mk (SV.mk v15 v16 v17 v20 v21 v22) (EW.mk v23 v24 v25 v26 v27 v28)) v19) (dsL (DX.mk (SV.mk v15 v16 v17 v20 v21 v22) (EW.mk v23 v24 v25 v26 v27 v28))) (dsV (DX.mk (SV.mk v15 v16 v17 v20 v21 v22) (EW.mk v23 v24 v25 v26 v27 v28))) (dsH (DX.mk (SV.mk v15 v16 v17 v20 v21 v22) (EW.mk v23 v24 v25 v26 v27 v28))) else none else none
def Jku (f : Nat) (k0 : Bool -> Bool -> List
 PV -> Bool -> Int -> List
 PV -> List
 PV -> List
 PV -> Int -> Int -> ByteArray -> Bool -> Bool -> List
 PV -> Int -> List
 PV -> Int -> Int -> ByteArray -> Bool -> Bool -> List
 PV -> Int -> List
 PV -> OR) (k1 : Bool -> Bool -> List
 PV -> Int -> List
 PV -> List
 PV -> List
 PV -> Int -> Int -> ByteArray -> Bool -> Bool -> List
 PV -> Int -> List
 PV -> Int -> Int -> ByteArray -> Bool -> Bool -> List
 PV -> Int -> List
 PV -> OR) : Nat -> Bool -> Bool -> List
 PV -> Int -> List
 PV -> List
 PV -> List
 PV -> Int -> Int -> ByteArray -> Bool -> Bool -> List
 PV -> Int -> List PV -> Int -> Int -> ByteArray -> Bool -> Bool -> List PV -> Int -> List PV -> List PV -> List PV -> Int -> List PV -> List PV -> List PV -> OR
 | 0, _, _, _, _, _, _, _, _, _, _, _, _, _, _, _, _, _, _, _, _, _, _, _, _, _, _, _, _, _ => none
 | n + 1, v0, v1, v2, v3, v4, v5, v6, v7, v8, v9, v10, v11, v12, v13, v14, v15, v16, v17, v18, v19, v20, v21, v22, v23, v24, v25, v26, v27, v28 => Ji1 f (Jku f k0 k1 n) k0 k1 v0 v1 v2 v3 v4 v5 v6 v7 v8 v9 v10 v11 v12 v13 v14 v15 v16 v17 v18 v19 v20 v21 v22 v23 v24 v25 v26 v27 v28
def JdE (k : Kont) := fun x0 x1 x2 x3 x4 x5 x6 x7 x8 x9 x10 x11 x12 x13 x14 x15 x16 x17 x18 x19 x20 x21 x22 x23 => k Ex.ret (Ji Jp2 N7 [.ro 69 x0 x1 x2, .sc (.bool x3), .ptr 1600 [], .ptr 1601 [], .ptr 1602 [], .sc (.int .i64 x4)] [(1600, .box false 31 (PV.st 31 [.ro 5 false false x5, .ro 5 false false x6, .ro 5 false false x7])), (1601, .box false 39 (PV.st 39 [.st 34 [.sc (.int .i64 x8), .sc (.int .i64 x9)], .sc (.string x10), .ro 42 x11 x12 x13, .sc (.int .i64 x14), .ar 37 x15])), (1602, .box false 58 (PV.st 58 [.st 34 [.sc (.int .i64 x16), .sc (.int .i64 x17)], .sc (.string x18), .ro 42 x19 x20 x21, .sc (.int .i64 x22), .ar 37 x23]))])
def JdF (k : Kont) := fun x0 x1 x2 x3 x4 x5 x6 x7 x8 x9 x10 x11 x12 x13 x14 x15 x16 x17 x18 x19 x20 x21 x22 => k Ex.normal (Ji Jp2 N7 [.ro 69 x0 x1 x2, PV.top, .ptr 1600 [], .ptr 1601 [], .ptr 1602 [], .sc (.int .i64 x3)] [(1600, .box false 31 (PV.st 31 [.ro 5 false false x4, .ro 5 false false x5, .ro 5 false false x6])), (1601, .box false 39 (PV.st 39 [.st 34 [.sc (.int .i64 x7), .sc (.int .i64 x8)], .sc (.string x9), .ro 42 x10 x11 x12, .sc (.int .i64 x13), .ar 37 x14])), (1602, .box false 58 (PV.st 58 [.st 34 [.sc (.int .i64 x15), .sc (.int .i64 x16)], .sc (.string x17), .ro 42 x18 x19 x20, .sc (.int .i64 x21), .ar 37 x22]))])
def JuQ (f : Nat) (k : Kont) (n : Nat) (v0 v1 : Bool) (v2 : List PV) (v3 : Int) (v4 v5 v6 : List PV) (v7 v8 : Int) (v9 : ByteArray) (v10 v11 : Bool) (v12 : List PV) (v13 : Int) (v14 : List PV) (v15 v16 : Int) (v17 : ByteArray) (v18 v19 : Bool) (v20 : List PV) (v21 : Int) (v22 v23 v24 : List PV) (v25 : Int) (v26 v27 v28 : List PV) : OR := JqS (fun s k => ev tau F7 0 0 JxX (YW (JqG f)) s k) n (Ji Jp1 N7 [.ro 69 v0 v1 v2, .ptr 1600 [], .ptr 1601 [], .ptr 1602 [], .sc (.int .i64 v3), .ptr 1603 []] [(1600, .box false 31 (PV.st 31 [.ro 5 false false v4, .ro 5 false false v5, .ro 5 false false v6])), (1601, .box false 39 (PV.st 39 [.st 34 [.sc (.int .i64 v7), .sc (.int .i64 v8)], .sc (.string v9), .ro 42 v10 v11 v12, .sc (.int .i64 v13), .ar 37 v14])), (1602, .box false 58 (PV.st 58 [.st 34 [.sc (.int .i64 v15), .sc (.int .i64 v16)], .sc (.string v17), .ro 42 v18 v19 v20, .sc (.int .i64 v21), .ar 37 v22])), (1603, .box false 51 (PV.st 51 [.st 47 [.ro 5 false false v23, .ar 37 v24], .sc (.int .i64 v25), .ro 113 false false v26, .ar 37 v27, .ar 37 v28]))]) (JG tau 0 Jp2 k)
theorem JEF (f : Nat) (k : Kont) (n : Nat) (v0 v1 : Bool) (v2 : List PV) (v3 : Int) (v4 v5 v6 : List PV) (v7 v8 : Int) (v9 : ByteArray) (v10 v11 : Bool) (v12 : List PV) (v13 : Int) (v14 : List PV) (v15 v16 : Int) (v17 : ByteArray) (v18 v19 : Bool) (v20 : List PV) (v21 : Int) (v22 v23 v24 : List PV) (v25 : Int) (v26 v27 v28 : List PV) : JuQ f k (n + 1) v0 v1 v2 v3 v4 v5 v6 v7 v8 v9 v10 v11 v12 v13 v14 v15 v16 v17 v18 v19 v20 v21 v22 v23 v24 v25 v26 v27 v28 = Ji1 f (JuQ f k n) (JdE k) (JdF k) v0 v1 v2 v3 v4 v5 v6 v7 v8 v9 v10 v11 v12 v13 v14 v15 v16 v17 v18 v19 v20 v21 v22 v23 v24 v25 v26 v27 v28 := by kernel_rfl
theorem JuR (f : Nat) (k : Kont) : ∀ (n : Nat) (v0 v1 : Bool) (v2 : List PV) (v3 : Int) (v4 v5 v6 : List PV) (v7 v8 : Int) (v9 : ByteArray) (v10 v11 : Bool) (v12 : List PV) (v13 : Int) (v14 : List PV) (v15 v16 : Int) (v17 : ByteArray) (v18 v19 : Bool) (v20 : List PV) (v21 : Int) (v22 v23 v24 : List PV) (v25 : Int) (v26 v27 v28 : List PV), JuQ f k n v0 v1 v2 v3 v4 v5 v6 v7 v8 v9 v10 v11 v12 v13 v14 v15 v16 v17 v18 v19 v20 v21 v22 v23 v24 v25 v26 v27 v28 = Jku f (JdE k) (JdF k) n v0 v1 v2 v3 v4 v5 v6 v7 v8 v9 v10 v11 v12 v13 v14 v15 v16 v17 v18 v19 v20 v21 v22 v23 v24 v25 v26 v27 v28 | 0, _, _, _, _, _, _, _, _, _, _, _, _, _, _, _, _, _, _, _, _, _, _, _, _, _, _, _, _, _ => rfl | n + 1, v0, v1, v2, v3, v4, v5, v6, v7, v8, v9, v10, v11, v12, v13, v14, v15, v16, v17, v18, v19, v20, v21, v22, v23, v24, v25, v26, v27, v28 => (JEF f k n v0 v1 v2 v3 v4 v5 v6 v7 v8 v9 v10 v11 v12 v13 v14 v15 v16 v17 v18 v19 v20 v21 v22 v23 v24 v25 v26 v27 v28).trans (congrArg (fun r => Ji1 f r (JdE k) (JdF k) v0 v1 v2 v3 v4 v5 v6 v7 v8 v9 v10 v11 v12 v13 v14 v15 v16 v17 v18 v19 v20 v21 v22 v23 v24 v25 v26 v27 v28) (by funext v0 v1 v2 v3 v4 v5 v6 v7 v8 v9 v10 v11 v12 v13 v14 v15 v16 v17 v18 v19 v20 v21 v22 v23 v24 v25 v26 v27 v28; exact JuR f k n v0 v1 v2 v3 v4 v5 v6 v7 v8 v9 v10 v11 v12 v13 v14 v15 v16 v17 v18 v19 v20 v21 v22 v23 v24 v25 v26 v27 v28))
def JqH (f : Nat) : List PV -> List (Nat × Ent) -> Kont -> OR
 | [.ro 69 v0 v1 v2, .ptr 1600 [], .ptr 1601 [], .ptr 1602 [], .sc (.int .i64 v3),
 PV.ptr 1603
  []], [(1600, .box false 31 (PV.st 31 [.ro 5 false false v4, .ro 5 false false v5, .ro 5 false false v6])),
 (1601,
  Ent.box false 39
   (PV.st 39 [.st 34 [.sc (.int .i64 v7), .sc (.int .i64 v8)], .sc (.string v9), .ro 42 v10 v11 v12, .sc (.int .i64 v13), .ar 37 v14])),
 (1602,
  Ent.box false 58
   (PV.st 58 [.st 34 [.sc (.int .i64 v15), .sc (.int .i64 v16)], .sc (.string v17), .ro 42 v18 v19 v20, .sc (.int .i64 v21), .ar 37 v22])),
 (1603,
  Ent.box false 51
   (PV.st 51
    [.st 47 [.ro 5 false false v23, .ar 37 v24], .sc (.int .i64 v25), .ro 113 false false v26, .ar 37 v27,
     PV.ar 37
      v28]))], k => Jku f (JdE k) (JdF k) f v0 v1 v2 v3 v4 v5 v6 v7 v8 v9 v10 v11 v12 v13 v14 v15 v16 v17 v18 v19 v20 v21 v22 v23 v24 v25 v26 v27 v28
 | _, _, _ => none
theorem JLn (f : Nat) : Jf JxX (YW (JqG f)) = [.c JxW JpZ N7 (JqG f)] := by kernel_rfl
theorem JLo (f : Nat) : (Item.c JxX Jp1 N7 (JqH f)).Ok tau Try.prog 0 := Jjy Jn JpY Jo (x := (YW (JqG f))) (nm2 := Jp2) (Jk _ _ (by rw [JLn f]; simp only [List.forall_mem_cons, List.not_mem_nil, false_implies, implies_true, and_true]; exact JLm f)) fun vs hp k res hr => by
 unfold JqH at hr
 split at hr
 · exact ⟨f, 0, (JuR f _ f _ _ _ _ _ _ _ _ _ _ _ _ _ _ _ _ _ _ _ _ _ _ _ _ _ _ _ _ _ ).trans hr⟩
 · cases hr
abbrev V4 (v2 : List PV) (v3 : Int) := (SP.mk (PV.child 0 (v2.getD v3.toNat PV.top)).int (PV.child (0 + 1) (v2.getD v3.toNat PV.top)).int (PV.child (0 + 1 + 1) (v2.getD v3.toNat PV.top)).int (PV.child (0 + 1 + 1 + 1) (v2.getD v3.toNat PV.top)).els)
abbrev W9 (v2 : List PV) (v3 : Int) (v4 : List PV) (v5 : List PV) (v6 : List PV) (v15 : Int) (v16 : Int) (v17 : ByteArray) (v20 : List PV) (v21 : Int) (v22 : List PV) := (SX.mk (V4 v2 v3) [PV.ro 5 false false v4, PV.ro 5 false false v5, PV.ro 5 false false v6] (SV.mk v15 v16 v17 v20 v21 v22) v3)
def JfM (f : Nat) (rc : Bool -> Bool -> List PV -> Int -> List PV -> List PV -> List PV -> Int -> Int -> ByteArray -> Bool -> Bool -> List PV -> Int -> List PV -> Int -> Int -> ByteArray -> Bool -> Bool -> List PV -> Int -> List PV -> OR) (k0 : Bool -> OR) (k1 : OR) (v0 v1 : Bool) (v2 : List PV) (v3 : Int) (v4 v5 v6 : List PV) (v7 v8 : Int) (v9 : ByteArray) (v10 v11 : Bool) (v12 : List PV) (v13 : Int) (v14 : List PV) (v15 v16 : Int) (v17 : ByteArray) (v18 v19 : Bool) (v20 : List PV) (v21 : Int) (v22 : List PV) : OR := bif decide (v3 < zi v2.length) then bif decide (0 <= v3) && decide (v3 < zi v2.length) && (PV.isSt 69 #[Field.mk "Kind" 3 0 false "" "" 0, Field.mk "By" 3 1 false "" "" 8, Field.mk "Who" 3 2 false "" "" 16, Field.mk "Ns" 57 3 false "" "" 24].size (v2.getD v3.toNat PV.top) && (PV.isInt IntKind.i64 (PV.child 0 (v2.getD v3.toNat PV.top)) && (PV.isInt IntKind.i64 (PV.child (0 + 1) (v2.getD v3.toNat PV.top)) && (PV.isInt IntKind.i64 (PV.child (0 + 1 + 1) (v2.getD v3.toNat PV.top)) && (PV.isRo 3 (PV.child (0 + 1 + 1 + 1) (v2.getD v3.toNat PV.top)) && true))))) && true then bif sOk (SV.mk v15 v16 v17 v20 v21 v22) && spOk (V4 v2 v3) && (kO3 [.ro 5 false false v4, .ro 5 false false v5, .ro 5 false false v6] && kIn v15) then Jku f (fun _ _ _ x3_2 _ _ _ _ _ _ _ _ _ _ _ _ _ _ _ _ _ _ _ _ => k0 x3_2) (fun x0_3 x1_3 x2_3 x3_3 x4_3 x5_3 x6_3 x7_3 x8_3 x9_3 x10_3 x11_3 x12_3 x13_3 x14_3 x15_3 x16_3 x17_3 x18_3 x19_3 x20_3 x21_3 x22_3 => rc x0_3 x1_3 x2_3 (IntKind.i64.wrap (x3_3 + 1)) x4_3 x5_3 x6_3 x7_3 x8_3 x9_3 x10_3 x11_3 x12_3 x13_3 x14_3 x15_3 x16_3 x17_3 x18_3 x19_3 x20_3 x21_3 x22_3) f v0 v1 v2 v3 v4 v5 v6 v7 v8 v9 v10 v11 v12 v13 v14 v15 v16 v17 v18 v19 v20 v21 v22 (seB (W9 v2 v3 v4 v5 v6 v15 v16 v17 v20 v21 v22)) (seS (W9 v2 v3 v4 v5 v6 v15 v16 v17 v20 v21 v22)) v21 (seO (W9 v2 v3 v4 v5 v6 v15 v16 v17 v20 v21 v22)) (seH (W9 v2 v3 v4 v5 v6 v15 v16 v17 v20 v21 v22)) (seM (W9 v2 v3 v4 v5 v6 v15 v16 v17 v20 v21 v22)) else none else none else k1
def JfN (f : Nat) (k0 : Bool -> OR) (k1 : OR) : Nat -> Bool -> Bool -> List
 PV -> Int -> List PV -> List PV -> List PV -> Int -> Int -> ByteArray -> Bool -> Bool -> List PV -> Int -> List PV -> Int -> Int -> ByteArray -> Bool -> Bool -> List PV -> Int -> List PV -> OR
 | 0, _, _, _, _, _, _, _, _, _, _, _, _, _, _, _, _, _, _, _, _, _, _, _ => none
 | n + 1, v0, v1, v2, v3, v4, v5, v6, v7, v8, v9, v10, v11, v12, v13, v14, v15, v16, v17, v18, v19, v20, v21, v22 => JfM f (JfN f k0 k1 n) k0 k1 v0 v1 v2 v3 v4 v5 v6 v7 v8 v9 v10 v11 v12 v13 v14 v15 v16 v17 v18 v19 v20 v21 v22
def JdG (k : Kont) := fun x0 => k Ex.ret (Ji Jp3 N7 [.sc (.bool x0)] [])
def JdH (k : Kont) := k (Ex.exit 0) (Ji Jp3 N7 [PV.top] [])
def JuS (f : Nat) (k : Kont) (n : Nat) (v0 v1 : Bool) (v2 : List PV) (v3 : Int) (v4 v5 v6 : List PV) (v7 v8 : Int) (v9 : ByteArray) (v10 v11 : Bool) (v12 : List PV) (v13 : Int) (v14 : List PV) (v15 v16 : Int) (v17 : ByteArray) (v18 v19 : Bool) (v20 : List PV) (v21 : Int) (v22 : List PV) : OR := Jy tau 0 Jks (fun s k => ev tau F7 0 0 JxY (QI (JqH f)) s k) n (Ji Jks N7 [.ro 69 v0 v1 v2, .ptr 1600 [], .ptr 1601 [], .ptr 1602 [], .sc (.int .i64 v3)] [(1600, .box false 31 (PV.st 31 [.ro 5 false false v4, .ro 5 false false v5, .ro 5 false false v6])), (1601, .box false 39 (PV.st 39 [.st 34 [.sc (.int .i64 v7), .sc (.int .i64 v8)], .sc (.string v9), .ro 42 v10 v11 v12, .sc (.int .i64 v13), .ar 37 v14])), (1602, .box false 58 (PV.st 58 [.st 34 [.sc (.int .i64 v15), .sc (.int .i64 v16)], .sc (.string v17), .ro 42 v18 v19 v20, .sc (.int .i64 v21), .ar 37 v22]))]) (JG tau 0 Jp3 k)
theorem JEG (f : Nat) (k : Kont) (n : Nat) (v0 v1 : Bool) (v2 : List PV) (v3 : Int) (v4 v5 v6 : List PV) (v7 v8 : Int) (v9 : ByteArray) (v10 v11 : Bool) (v12 : List PV) (v13 : Int) (v14 : List PV) (v15 v16 : Int) (v17 : ByteArray) (v18 v19 : Bool) (v20 : List PV) (v21 : Int) (v22 : List PV) : JuS f k (n + 1) v0 v1 v2 v3 v4 v5 v6 v7 v8 v9 v10 v11 v12 v13 v14 v15 v16 v17 v18 v19 v20 v21 v22 = JfM f (JuS f k n) (JdG k) (JdH k) v0 v1 v2 v3 v4 v5 v6 v7 v8 v9 v10 v11 v12 v13 v14 v15 v16 v17 v18 v19 v20 v21 v22 := by kernel_rfl
theorem JuT (f : Nat) (k : Kont) : ∀ (n : Nat) (v0 v1 : Bool) (v2 : List PV) (v3 : Int) (v4 v5 v6 : List PV) (v7 v8 : Int) (v9 : ByteArray) (v10 v11 : Bool) (v12 : List PV) (v13 : Int) (v14 : List PV) (v15 v16 : Int) (v17 : ByteArray) (v18 v19 : Bool) (v20 : List PV) (v21 : Int) (v22 : List PV), JuS f k n v0 v1 v2 v3 v4 v5 v6 v7 v8 v9 v10 v11 v12 v13 v14 v15 v16 v17 v18 v19 v20 v21 v22 = JfN f (JdG k) (JdH k) n v0 v1 v2 v3 v4 v5 v6 v7 v8 v9 v10 v11 v12 v13 v14 v15 v16 v17 v18 v19 v20 v21 v22 | 0, _, _, _, _, _, _, _, _, _, _, _, _, _, _, _, _, _, _, _, _, _, _, _ => rfl | n + 1, v0, v1, v2, v3, v4, v5, v6, v7, v8, v9, v10, v11, v12, v13, v14, v15, v16, v17, v18, v19, v20, v21, v22 => (JEG f k n v0 v1 v2 v3 v4 v5 v6 v7 v8 v9 v10 v11 v12 v13 v14 v15 v16 v17 v18 v19 v20 v21 v22).trans (congrArg (fun r => JfM f r (JdG k) (JdH k) v0 v1 v2 v3 v4 v5 v6 v7 v8 v9 v10 v11 v12 v13 v14 v15 v16 v17 v18 v19 v20 v21 v22) (by funext v0 v1 v2 v3 v4 v5 v6 v7 v8 v9 v10 v11 v12 v13 v14 v15 v16 v17 v18 v19 v20 v21 v22; exact JuT f k n v0 v1 v2 v3 v4 v5 v6 v7 v8 v9 v10 v11 v12 v13 v14 v15 v16 v17 v18 v19 v20 v21 v22))
def Jn0 (f : Nat) : List PV -> List (Nat × Ent) -> Kont -> OR
 | [.ro 69 v0 v1 v2, .ptr 1600 [], .ptr 1601 [], .ptr 1602 [],
 PV.sc
  (Value.int IntKind.i64
   v3)], [(1600, .box false 31 (PV.st 31 [.ro 5 false false v4, .ro 5 false false v5, .ro 5 false false v6])),
 (1601,
  Ent.box false 39
   (PV.st 39 [.st 34 [.sc (.int .i64 v7), .sc (.int .i64 v8)], .sc (.string v9), .ro 42 v10 v11 v12, .sc (.int .i64 v13), .ar 37 v14])),
 (1602,
  Ent.box false 58
   (PV.st 58
    [.st 34 [.sc (.int .i64 v15), .sc (.int .i64 v16)], .sc (.string v17), .ro 42 v18 v19 v20, .sc (.int .i64 v21),
     PV.ar 37
      v22]))], k => JfN f (JdG k) (JdH k) f v0 v1 v2 v3 v4 v5 v6 v7 v8 v9 v10 v11 v12 v13 v14 v15 v16 v17 v18 v19 v20 v21 v22
 | _, _, _ => none
theorem JLp (f : Nat) : Jf JxY (QI (JqH f)) = [.c JxX Jp1 N7 (JqH f)] := by kernel_rfl
theorem JLq (f : Nat) : (Item.l JxY Jks N7 (Jn0 f)).Ok tau Try.prog 0 := Ju Jn JpY Jo (x := (QI (JqH f))) (nm2 := Jp3) (Jk _ _ (by rw [JLp f]; simp only [List.forall_mem_cons, List.not_mem_nil, false_implies, implies_true, and_true]; exact JLo f)) fun vs hp k res hr => by
 unfold Jn0 at hr
 split at hr
 · exact ⟨f, 0, (JuT f _ f _ _ _ _ _ _ _ _ _ _ _ _ _ _ _ _ _ _ _ _ _ _ _ ).trans hr⟩
 · cases hr
abbrev Jp4 (y0 : Int) (id_N : Int) (y1 : Int) (y2 : Int) := (List.take (apI (apI (apI (apI [] (y0 % 3)) (id_N % 100)) (y1 % 3)) (y2 % 8)).length (apI (apI (apI (apI [] (y0 % 3)) (id_N % 100)) (y1 % 3)) (y2 % 8)))
def g7 (f : Nat) (l_z l_f : Bool) (l : List PV) (y0 id_N y1 y2 : Int) (k : KR) : OR := bif !decide (zi l.length <= 25) then k (Res.mk (.sc (.bool true)) [] []) else bif okW 3 then bif okW 100 then bif okW 3 then bif okW 8 then bif Vj (Nw4.mk (y0 % 3) (id_N % 100) (y1 % 3) (y2 % 8)) then bif okL (apI [] (y0 % 3)).length (apI [] (y0 % 3)) then bif okL (apI (apI [] (y0 % 3)) (id_N % 100)).length (apI (apI [] (y0 % 3)) (id_N % 100)) then bif okL (apI (apI (apI [] (y0 % 3)) (id_N % 100)) (y1 % 3)).length (apI (apI (apI [] (y0 % 3)) (id_N % 100)) (y1 % 3)) then bif Jl IntKind.u8 (Jp4 y0 id_N y1 y2) && decide ((Jp4 y0 id_N y1 y2).length <= 140737488355000) then JfN f (fun x0_4 => k (Res.mk (.sc (.bool x0_4)) [] [])) (k (Res.mk (.sc (.bool true)) [] [])) f l_z l_f l (0) (kb 0 []) (kb 1 []) (kb 2 []) (y0 % 3) (id_N % 100) (ByteArray.mk (Array.mk [])) false false ([.st 42 [.sc (.int .i64 (y1 % 3)), .sc (.int .i64 (y2 % 8))]]) (0) (pu IntKind.u8 (Jib (Nw4.mk (y0 % 3) (id_N % 100) (y1 % 3) (y2 % 8)))) (y0 % 3) (id_N % 100) (ByteArray.mk (Array.mk [])) false false ([.st 42 [.sc (.int .i64 (y1 % 3)), .sc (.int .i64 (y2 % 8))]]) (0) (pu IntKind.u8 (JX (JD (Jp4 y0 id_N y1 y2)))) else none else none else none else none else none else none else none else none else none
theorem e7 (f : Nat) (l_z l_f : Bool) (l : List PV) (y0 id_N y1 y2 : Int) (k : KR) : JJ tau F7 Try.f7 (Try.f7.body.get!) (an7 (Jn0 f)) [.ro] 0 [.ro 69 l_z l_f l, .st 34 [.sc (.int .i64 y0), .sc (.int .i64 id_N)], .st 42 [.sc (.int .i64 y1), .sc (.int .i64 y2)]] [] k = g7 f l_z l_f l y0 id_N y1 y2 k := by kernel_rfl
theorem it7 (f : Nat) : Jf (Try.f7.body.get!) (an7 (Jn0 f)) = [.l JxY Jks N7 (Jn0 f)] := by kernel_rfl
theorem ia7 (f : Nat) : ∀ q ∈ Jf (Try.f7.body.get!) (an7 (Jn0 f)), q.Ok tau Try.prog 0 := by rw [it7 f]; exact JL (JLq f) (fun _ h => nomatch h)
theorem fo7 : Try.prog.funcs[7]? = some Try.f7 := by kernel_rfl
theorem bo7 : Try.f7.body = some (Try.f7.body.get!) := by kernel_rfl
-- FN
def isStt : PV -> Bool
 | .st t [.st t2 [.sc (.int .i64 _), .sc (.int .i64 _)], .sc (.string _), .ro t3 _ _ _, .sc (.int .i64 _), .ar t4 _] => t == 58 && (t2 == 34 && (t3 == 42 && t4 == 37))
 | _ => false
def sv (p : PV) : SV := ⟨((p.child 0).child 0).int, ((p.child 0).child 1).int, (p.child 1).str, (p.child 2).els, (p.child 3).int, (p.child 4).els⟩
theorem JgO {p : PV} : isStt p = true ↔ ∃ s z f, p = stP s z f := by
 constructor
 · intro h
   unfold isStt at h
   split at h
   · rename_i t t2 a b d t3 z f l v t4 hs
     simp only [Bool.and_eq_true, beq_iff_eq] at h
     obtain ⟨rfl, rfl, rfl, rfl⟩ := h
     exact ⟨⟨a, b, d, l, v, hs⟩, z, f, rfl⟩
   · cases h
 · rintro ⟨s, z, f, rfl⟩; rfl
def Jn1 : PV -> Bool
 | .st t [.sc (.int .i64 _), .sc (.int .i64 _), .sc (.int .i64 _), .ro t2 _ _ _] => t == 69 && t2 == 3
 | _ => false
def sp (p : PV) : SP := ⟨(p.child 0).int, (p.child 1).int, (p.child 2).int, (p.child 3).els⟩
theorem JuU {p : PV} : Jn1 p = true ↔ ∃ s z f, p = .st 69 [.sc (.int .i64 s.kd), .sc (.int .i64 s.by1), .sc (.int .i64 s.who), .ro 3 z f s.ns] /\ sp p = s := by
 constructor
 · intro h
   unfold Jn1 at h
   split at h
   · rename_i t a b c t2 z f l
     simp only [Bool.and_eq_true, beq_iff_eq] at h
     obtain ⟨rfl, rfl⟩ := h
     exact ⟨⟨a, b, c, l⟩, z, f, rfl, rfl⟩
   · cases h
 · rintro ⟨s, z, f, rfl, _⟩; rfl
def stpX (K : List PV) (p : SP) (i : Int) (s : SV) : DX := ⟨s, seW ⟨p, K, s, i⟩⟩
def stpN (K : List PV) (p : SP) (i : Int) (q : PV) : PV := stP (dsS (stpX K p i (sv q))) (dsZ (stpX K p i (sv q)) (q.child 2).nl) (dsF (stpX K p i (sv q)) (q.child 2).fl)
def bld (K : List PV) : List PV -> Int -> PV -> List (PV × PV)
 | [], _, _ => []
 | p :: ps, i, q =>
  bif dsE0 (stpX K (sp p) i (sv q)) == 0 then (ewP (seW ⟨sp p, K, sv q, i⟩), stpN K (sp p) i q) :: bld K ps (i + 1) (stpN K (sp p) i q)
  else bld K ps (i + 1) q
structure BOk (i : Int) (q : PV) : Prop where
 st : isStt q = true
 ok : sOk (sv q) = true
 by1 : byB (sv q).hash = true
 ih : (sv q).ih = 0
 iN : (sv q).iN = 3
 ver : (sv q).ver <= i
theorem Jp5 (bs : List Int) : ∀ x ∈ JX bs, 0 <= x /\ x < 256 := by
 intro x hx
 rw [Jdp] at hx
 obtain ⟨i, _, rfl⟩ := List.mem_map.1 hx
 exact Jdq _
theorem JuV (x : NX) : byB (pu .u8 (nxP x)) = true := Jlp.2 (by rw [Jff]; exact Jp5 _)
theorem BOk.next {K : List PV} {p : SP} {i : Int} {q : PV} (h : BOk i q) (hp : spOk p = true) (hi : i < 1000) (h0 : 0 <= i) : BOk (i + 1) (stpN K p i q) where
 st := rfl
 ok := by
  show sOk (dsS (stpX K p i (sv q))) = true
  exact Jpz (x := stpX K p i (sv q)) h.ok (JnY (x := ⟨p, K, sv q, i⟩) h.ok hp h.by1) (by have := h.ver; show (sv q).ver < 1000000; omega)
 by1 := by
  show byB (dsH (stpX K p i (sv q))) = true
  rw [Jcr]
  cases dsE0 (stpX K p i (sv q)) == 0 with
  | true => exact JuV _
  | false => exact h.by1
 ih := h.ih
 iN := h.iN
 ver := by
  show dsV (stpX K p i (sv q)) <= i + 1
  have := h.ver
  rw [G3]
  cases dsE0 (stpX K p i (sv q)) == 0 with
  | true => show (sv q).ver + 1 <= i + 1; omega
  | false => show (sv q).ver <= i + 1; omega
theorem BOk.up {i j : Int} {q : PV} (h : BOk i q) (hj : i <= j) : BOk j q := { h with ver := by have := h.ver; omega }
-- FN
def Jp : An := (.seq (.seq .leaf (.cond .leaf .leaf)) (.seq (.block none (.seq .leaf (.seq .leaf (.seq .leaf (.cond .leaf .leaf))))) .leaf))
-- FN law13.Build
structure BL where
 (K l : List PV)
def h0L : List PV := apI (apI (apI (apI [] 0) 3) 0) 1
def q0 : PV := stP ⟨0, 3, ByteArray.mk (Array.mk []), [adP ⟨0, 1⟩], 0, pu .u8 (JX (JD (List.take h0L.length h0L)))⟩ false false
def bS : BL -> List PV := hid fun x => q0 :: (bld x.K x.l 0 q0).map Prod.snd
def bE : BL -> List PV := hid fun x => (bld x.K x.l 0 q0).map Prod.fst
-- FN
structure Stp (K : List PV) (q : PV) (x : PV × PV) : Prop where
 ex : ∃ p i, spOk p = true /\ x.1 = ewP (seW ⟨p, K, sv q, i⟩) /\ x.2 = stpN K p i q /\ dsE0 (stpX K p i (sv q)) = 0
def Chn (K : List PV) : PV -> List (PV × PV) -> Prop
 | _, [] => True
 | q, x :: r => Stp K q x /\ Chn K x.2 r
def sts (q : PV) (r : List (PV × PV)) : List PV := q :: r.map Prod.snd
theorem JuW {K : List PV} : ∀ (r : List (PV × PV)) (q : PV), Chn K q r -> ∀ (j : Nat) (hj : j < r.length), Stp K ((sts q r).getD j .top) (r[j]'hj)
 | x :: r, q, h, 0, hj => h.1
 | x :: r, q, h, j + 1, hj => JuW r x.2 h.2 j (by simpa using hj)
theorem Stp.ver {K : List PV} {q : PV} {x : PV × PV} (h : Stp K q x) : (sv x.2).ver = (sv q).ver + 1 := by
 obtain ⟨p, i, h1, h2, h3, h4⟩ := h.ex
 rw [h3]
 show dsV (stpX K p i (sv q)) = _
 rw [G3, h4]; rfl
structure BldOk (K l : List PV) (n : Nat) : Prop where
 eE : bE ⟨K, l⟩ = (bld K l 0 q0).map Prod.fst
 eS : bS ⟨K, l⟩ = sts q0 (bld K l 0 q0)
 chn : Chn K q0 (bld K l 0 q0)
 len : (bld K l 0 q0).length = n
 le : n <= 25
 ok : ∀ j, j <= n -> BOk 25 ((bS ⟨K, l⟩).getD j .top)
 vr : ∀ j, j <= n -> (sv ((bS ⟨K, l⟩).getD j .top)).ver = j
theorem BldOk.step {K l : List PV} {n : Nat} (h : BldOk K l n) {j : Nat} (hj : j < n) : Stp K ((bS ⟨K, l⟩).getD j .top) ((bE ⟨K, l⟩).getD j .top, (bS ⟨K, l⟩).getD (j + 1) .top) := by
 have hj' : j < (bld K l 0 q0).length := by rw [h.len]; exact hj
 have := JuW _ _ h.chn j hj'
 rw [← h.eS] at this
 have e1 : (bE ⟨K, l⟩).getD j .top = ((bld K l 0 q0)[j]'hj').1 := by
  rw [h.eE, List.getD_eq_getElem?_getD, List.getElem?_map, List.getElem?_eq_getElem hj']; rfl
 have e2 : (bS ⟨K, l⟩).getD (j + 1) .top = ((bld K l 0 q0)[j]'hj').2 := by
  rw [h.eS]
  show (List.map Prod.snd (bld K l 0 q0)).getD j .top = _
  rw [List.getD_eq_getElem?_getD, List.getElem?_map, List.getElem?_eq_getElem hj']; rfl
 rw [e1, e2]; exact this
theorem Stp.all {K : List PV} {q e q' : PV} (h : Stp K q (e, q')) (hq : BOk 25 q) : ∃ s z f w, q = stP s z f /\ e = ewP w /\ eD w = true /\ dsE0 ⟨s, w⟩ = 0 /\ q' = stP (dsS ⟨s, w⟩) (dsZ ⟨s, w⟩ z) (dsF ⟨s, w⟩ f) /\ w.at1 = s.ver /\ dE w.b = 0 /\ w.h = pu .u8 (nxP ⟨s.hash, ZI w⟩) := by
 obtain ⟨p, i, h1, h2, h3, h4⟩ := h.ex
 obtain ⟨s, z, f, rfl⟩ := JgO.1 hq.st
 have hD := JnY (x := ⟨p, K, s, i⟩) hq.ok h1 hq.by1
 refine ⟨s, z, f, seW ⟨p, K, s, i⟩, rfl, h2, hD, h4, h3, rfl, ?_, rfl⟩
 have h4 : dsE0 ⟨s, seW ⟨p, K, s, i⟩⟩ = 0 := h4
 unfold dsE0 at h4
 cases hc : (dE (seW ⟨p, K, s, i⟩).b != 0) with
 | false => simpa [bne] using hc
 | true => simp only [hc, cond_true] at h4; exact h4

-- FN law13.upon
structure UX where
 (K : List PV) (s : SV) (a w : AV) (kd : Int)
-- FN
theorem JEH : kO3 [.ro 5 false false (kb 0 []), .ro 5 false false (kb 1 []), .ro 5 false false (kb 2 [])] = true := by
 have hkk : ∀ i, kOk (kb i []) = true := fun i => JJL i rfl
 exact Jpl.2 ⟨hkk 0, hkk 1, hkk 2⟩
structure WOk (n : Int) (s : SV) (z : Bool) : Prop where
 ok : sOk s = true
 by1 : byB s.hash = true
 ih : kIn s.ih = true
 zo : z = true -> s.l = []
 ver : s.ver <= n
theorem WOk.zOk {n : Int} {s : SV} {z : Bool} (h : WOk n s z) : zOk z s.l = true := JdA.2 h.zo
theorem Jp6 {x : DX} {z : Bool} (hz : z = true -> x.s.l = []) : dsZ x z = true -> dsL x = [] := by
 rw [Jfp, Jfo]
 cases dsE0 x == 0 with
 | true => exact JnN hz
 | false => exact hz
theorem WOk.next {n : Int} {s : SV} {z : Bool} {w : EW} (h : WOk n s z) (he : eD w = true) (hb : dsE0 ⟨s, w⟩ = 0 -> byB w.h = true) (hn : n < 1000000) : WOk (n + 1) (dsS ⟨s, w⟩) (dsZ ⟨s, w⟩ z) where
 ok := Jpz (x := ⟨s, w⟩) h.ok he (by have := h.ver; show s.ver < 1000000; omega)
 by1 := by
  show byB (dsH ⟨s, w⟩) = true
  rw [Jcr]
  cases hc : dsE0 ⟨s, w⟩ == 0 with
  | true => exact hb (by simpa using hc)
  | false => exact h.by1
 ih := h.ih
 zo := Jp6 h.zo
 ver := by
  show dsV ⟨s, w⟩ <= n + 1
  have := h.ver
  rw [G3]
  cases dsE0 ⟨s, w⟩ == 0 with
  | true => show s.ver + 1 <= n + 1; omega
  | false => show s.ver <= n + 1; omega
theorem JLr {s : SV} {w : EW} (hw : Jl .u8 w.h = true) (h : dsE0 ⟨s, w⟩ = 0) : byB w.h = true := by
 unfold dsE0 at h
 simp only at h
 cases h1 : (dE w.b != 0) with
 | true => rw [h1] at h; have h : dE w.b = 0 := h; rw [h] at h1; exact absurd h1 (by decide)
 | false =>
 rw [h1, cond_false] at h
 cases h2 : (w.at1 != s.ver) with
 | true => rw [h2, cond_true] at h; exact absurd h (by decide)
 | false =>
 rw [h2, cond_false] at h
 cases h3 : decide (dF 3 w.b > s.ver) with
 | true => rw [h3, cond_true] at h; exact absurd h (by decide)
 | false =>
 rw [h3, cond_false] at h
 cases h4 : (!hasP ⟨s.l, auA w.b⟩) with
 | true => rw [h4, cond_true] at h; exact absurd h (by decide)
 | false =>
 rw [h4, cond_false] at h
 cases h5 : (chE ⟨s, w⟩ != 0) with
 | true => rw [h5] at h; have h : chE ⟨s, w⟩ = 0 := h; rw [h] at h5; exact absurd h5 (by decide)
 | false =>
 rw [h5, cond_false] at h
 cases h6 : (!J3 w.h (pu .u8 (nxP ⟨s.hash, ZI w⟩))) with
 | true => rw [h6] at h; exact absurd h (by decide)
 | false =>
  have h6 : J3 w.h (pu .u8 (nxP ⟨s.hash, ZI w⟩)) = true := by simpa using h6
  rw [Qy hw, Jcd] at h6
  have e : JD w.h = nxP ⟨s.hash, ZI w⟩ := by simpa using h6
  rw [Qy hw, e]; exact JuV _
theorem WOk.next' {n : Int} {s : SV} {z : Bool} {w : EW} (h : WOk n s z) (he : eD w = true) (hn : n < 1000000) : WOk (n + 1) (dsS ⟨s, w⟩) (dsZ ⟨s, w⟩ z) :=
 h.next he (JLr (h32_iff.1 (Jcs.1 he).2.2.2).1) hn
theorem WOk.up {n m : Int} {s : SV} {z : Bool} (h : WOk n s z) (hm : n <= m) : WOk m s z := { h with ver := by have := h.ver; omega }
theorem JEI {w : EW} (h : eD w = true) : slB false w.b = true := by
 obtain ⟨h1, h2, h3, h4⟩ := Jcs.1 h
 have : w.b.length <= 65535 := (Xd.1 h2).2.1
 exact Xw.2 ⟨fun h => (by cases h), by omega⟩
theorem JLs {ih iN : Int} {a : AV} {h : List PV} (hi : kIn ih = true) (ha : inZ a.d 2 = true) (hu : inZ a.u 7 = true) (hh : byB h = true) (h32' : h.length = 32) : WOk 0 ⟨ih, iN, ByteArray.mk (Array.mk []), [adP a], 0, h⟩ false where
 ok := by
  refine Ys.2 ⟨QF.2 ⟨rfl, rfl, by show 1 <= 8; decide⟩, h32_iff.2 ⟨(Xb.1 hh).1, h32'⟩, by show (0 : Int) <= 0; decide, by show (0 : Int) <= 1000000; decide, by show 0 <= 120; decide, ?_⟩
  show (inA [a.d, 2, a.u, 7] && true) = true
  rw [JjH, ha, hu]; rfl
 by1 := hh
 ih := hi
 zo := fun h => by cases h
 ver := Int.le_refl _
theorem JLt {d : Int} (h : inZ d 2 = true) : kIn d = true := by
 rw [Jfe]; rw [Ja2] at h; simp only [Bool.and_eq_true, decide_eq_true_eq] at h; simp only [Xy, Bool.and_eq_true, decide_eq_true_eq]; omega
theorem JuX {x m : Int} (h : 0 <= x) (h2 : x <= m) : inZ x m = true := by rw [Ja2]; simp; omega
theorem WOk.w {n : Int} {s : SV} {z : Bool} (h : WOk n s z) : wOk s = true := by
 obtain ⟨s1, s2, _⟩ := Ys.1 h.ok
 obtain ⟨p1, p2, p3⟩ := QF.1 s1
 exact VV.2 ⟨Xm.2 ⟨p1, by omega⟩, s2⟩
theorem JcE {s : SV} (h : wOk s = true) : JbL ⟨s, s⟩ = true := by
 obtain ⟨_, s2⟩ := VV.1 h
 rw [Jfq]; simp only [beq_self_eq_true, JqA, Jdu, Jgs, Jkh (h32_iff.1 s2).1, Bool.and_self]
def zOf (q : PV) : Bool := (q.child 2).nl
theorem JAa {K : List PV} : ∀ (r : List (PV × PV)) (q : PV), Chn K q r -> (zOf q = true -> (sv q).l = []) -> ∀ (j : Nat), j <= r.length -> zOf ((sts q r).getD j .top) = true -> (sv ((sts q r).getD j .top)).l = []
 | r, q, h, hz, 0, hj => hz
 | x :: r, q, h, hz, j + 1, hj => by
  have e : (sts q (x :: r)).getD (j + 1) .top = (sts x.2 r).getD j .top := rfl
  rw [e]
  refine JAa r x.2 h.2 ?_ j (by simpa using hj)
  obtain ⟨p, i, h1, h2, h3, h4⟩ := h.1.ex
  rw [h3]
  exact Jp6 (x := stpX K p i (sv q)) hz
theorem BldOk.z {K l : List PV} {n : Nat} (h : BldOk K l n) {j : Nat} (hj : j <= n) : zOf ((bS ⟨K, l⟩).getD j .top) = true -> (sv ((bS ⟨K, l⟩).getD j .top)).l = [] := by
 rw [h.eS]
 exact JAa _ _ h.chn (fun h => by cases h) j (by rw [h.len]; exact hj)
theorem BldOk.at {K l : List PV} {n : Nat} (h : BldOk K l n) {j : Nat} (hj : j <= n) : ∃ s z f, (bS ⟨K, l⟩).getD j .top = stP s z f /\ WOk 25 s z /\ s.ver = j /\ s.ih = 0 /\ s.iN = 3 := by
 have hb := h.ok j hj
 have hv := h.vr j hj
 have hz := h.z hj
 obtain ⟨s, z, f, hs⟩ := JgO.1 hb.st
 rw [hs] at hb hv hz
 exact ⟨s, z, f, hs, ⟨hb.ok, hb.by1, by rw [show s.ih = 0 from hb.ih, Jfe]; rfl, hz, hb.ver⟩, hv, hb.ih, hb.iN⟩
-- FN
theorem Jp7 {n : Nat} {p : PV} (h : Ty tau (n + 3) 69 p) : Jn1 p = true /\ spOk (sp p) = true := by
 obtain ⟨fs, rfl, hf⟩ := Jcq (n := n + 2) (T := 69) (tys := [3, 3, 3, 57]) (by kernel_rfl) (List.cons_ne_nil _ _) h
 obtain ⟨p1, r1, rfl, h1, hf⟩ := JtP hf
 obtain ⟨p2, p3, p4, rfl, h2, h3, h4⟩ := JJI hf
 obtain ⟨a, rfl, _⟩ := G2 h1
 obtain ⟨b, rfl, _⟩ := G2 h2
 obtain ⟨c, rfl, _⟩ := G2 h3
 obtain ⟨z, ns, rfl, _, h5, h6⟩ := Jxe h4
 have e1 : maxLen <= 9223372036854775807 := by decide
 exact ⟨rfl, JfL.2 ⟨h6, by show ns.length <= _; omega⟩⟩
theorem JuY {n : Nat} {p : PV} (h : Ty tau (n + 4) 22 p) : ∃ z l, p = .ro 69 z false l /\ l.all Jn1 = true /\ (∀ q ∈ l, spOk (sp q) = true) := by
 have u : tau.und 22 = some (.slice 69) := by kernel_rfl
 obtain ⟨z, b, rfl, h1, h2, h3⟩ := JjC u h
 exact ⟨z, b, rfl, List.all_eq_true.2 fun q hq => (Jp7 (h3 q hq)).1, fun q hq => (Jp7 (h3 q hq)).2⟩
-- FN
theorem h4_ints (a b c d : Int) : JD (apI (apI (apI (apI [] a) b) c) d) = Jia ⟨a, b, c, d⟩ := by
 simp only [Yw, Jia, Jc6, Q9]
 rfl
-- FN law13.WaveletPlays
theorem JLu {l : List PV} (hl : l.length <= 25) (h1 : l.all Jn1 = true) (h2 : ∀ p ∈ l, spOk (sp p) = true) (F : Nat) (k0 : Bool -> OR) (k1 : OR) (lz lf : Bool) : ∀ (d i n : Nat) (s : SV) (z z' f' : Bool), i + d = l.length -> d < n -> WOk i s z ->
  JfN (F + 1) k0 k1 n lz lf l (i : Int) (kb 0 []) (kb 1 []) (kb 2 []) s.ih s.iN s.doc z z s.l s.ver s.hash s.ih s.iN s.doc z' f' s.l s.ver s.hash = k1
 | 0, i, n + 1, s, z, z', f', hi, hn, hs => by
   simp only [JfN, JfM, W9, V4]
   exact Jd (by simp [zi]; omega)
 | d + 1, i, n + 1, s, z, z', f', hi, hn, hs => by
   have IH := JLu hl h1 h2 F k0 k1 lz lf d (i + 1) n
   have g1 : ((i : Int)).toNat = i := by omega
   have w1 : IntKind.i64.wrap ((i : Int) + 1) = ((i + 1 : Nat) : Int) := by rw [wrap_i64 (by omega) (by omega)]; omega
   have hmem : l.getD i .top ∈ l := by
     rw [List.getD_eq_getElem?_getD, List.getElem?_eq_getElem (by omega)]; exact List.getElem_mem _
   obtain ⟨p, nz, nf, hp, hsp⟩ := JuU.1 (List.all_eq_true.1 h1 _ hmem)
   have hpo : spOk p = true := by rw [← hsp]; exact h2 _ hmem
   have eS : SV.mk s.ih s.iN s.doc s.l s.ver s.hash = s := rfl
   have eP : SP.mk (PV.child 0 (PV.st 69 [.sc (.int .i64 p.kd), .sc (.int .i64 p.by1), .sc (.int .i64 p.who), .ro 3 nz nf p.ns])).int (PV.child (0 + 1) (PV.st 69 [.sc (.int .i64 p.kd), .sc (.int .i64 p.by1), .sc (.int .i64 p.who), .ro 3 nz nf p.ns])).int (PV.child (0 + 1 + 1) (PV.st 69 [.sc (.int .i64 p.kd), .sc (.int .i64 p.by1), .sc (.int .i64 p.who), .ro 3 nz nf p.ns])).int (PV.child (0 + 1 + 1 + 1) (PV.st 69 [.sc (.int .i64 p.kd), .sc (.int .i64 p.by1), .sc (.int .i64 p.who), .ro 3 nz nf p.ns])).els = p := rfl
   have eW := JgN ⟨p, [.ro 5 false false (kb 0 []), .ro 5 false false (kb 1 []), .ro 5 false false (kb 2 [])], s, i⟩
   have hD := JnY (x := ⟨p, [.ro 5 false false (kb 0 []), .ro 5 false false (kb 1 []), .ro 5 false false (kb 2 [])], s, i⟩) hs.ok hpo hs.by1
   have hb : seB ⟨p, [.ro 5 false false (kb 0 []), .ro 5 false false (kb 1 []), .ro 5 false false (kb 2 [])], s, i⟩ = (seW ⟨p, [.ro 5 false false (kb 0 []), .ro 5 false false (kb 1 []), .ro 5 false false (kb 2 [])], s, i⟩).b := by rw [seB, hid_eq]
   simp only at eW
   simp only [JfN, JfM, W9, V4, g1, w1, hp, eP, eS]
   simp only [Jku, Ji1, eS, eW]
   rw [hb]
   generalize seW ⟨p, [.ro 5 false false (kb 0 []), .ro 5 false false (kb 1 []), .ro 5 false false (kb 2 [])], s, i⟩ = w at *
   have hw := hs.next' hD (by omega)
   have hww := hw.w
   have hsw := hs.w
   simp only [Jkt, Ji0, eS]
   have eN : SV.mk s.ih s.iN (dsD ⟨s, w⟩) (dsL ⟨s, w⟩) (dsV ⟨s, w⟩) (dsH ⟨s, w⟩) = dsS ⟨s, w⟩ := rfl
   simp only [eN, w1]
   refine (Ja (by simp [zi]; omega)).trans ((Ja ?_).trans ((Ja ?_).trans ((Ja ?_).trans ((Ja ?_).trans ((Jd (bne_self_eq_false _)).trans ((Ja ?_).trans ((Jd ?_).trans ((Ja ?_).trans ((Jd ?_).trans ((Ja ?_).trans ((Jd ?_).trans ?_)))))))))))
   · have : (decide (0 <= (i : Int)) && decide ((i : Int) < zi l.length) && true && true) = true := by simp [zi]; omega
     exact this
   · rw [hs.ok, hpo, JEH, hs.ih]; rfl
   · rw [hs.ok, hD, hs.zOk, JEI hD]; rfl
   · rw [hs.ok, hD]; rfl
   · rw [hww]; rfl
   · rw [JcE hww]; rfl
   · rw [hsw]; rfl
   · rw [JcE hsw]; rfl
   · rw [hww]; rfl
   · rw [JcE hww]; rfl
   · exact IH (dsS ⟨s, w⟩) (dsZ ⟨s, w⟩ z) (dsZ ⟨s, w⟩ z') (dsF ⟨s, w⟩ f') (by omega) (by omega) (by have := hw; rwa [show (i : Int) + 1 = ((i + 1 : Nat) : Int) from by omega] at this)
theorem JxZ (z f : Bool) (l : List PV) (ih iN cd cu : Int) (h1 : l.all Jn1 = true) (h2 : ∀ p ∈ l, spOk (sp p) = true) (k : KR) : g7 50 z f l ih iN cd cu k = k ⟨.sc (.bool true), [], []⟩ := by
 unfold g7 Jp4
 by_cases hl : ¬ l.length <= 25
 · exact Ja (by simp [zi]; omega)
 have hl := Decidable.not_not.1 hl
 obtain ⟨m1, m2⟩ := Yr ih (m := 3) (by decide)
 obtain ⟨m3, m4⟩ := Yr iN (m := 100) (by decide)
 obtain ⟨m5, m6⟩ := Yr cd (m := 3) (by decide)
 obtain ⟨m7, m8⟩ := Yr cu (m := 8) (by decide)
 generalize ih % 3 = a at *
 generalize iN % 100 = b at *
 generalize cd % 3 = c at *
 generalize cu % 8 = e at *
 have hs4 : Vj ⟨a, b, c, e⟩ = true := by
   rw [Vj, hid_eq]; simp only [Bool.and_eq_true, decide_eq_true_eq]; omega
 have okl : ∀ l : List PV, l.length <= 1000 -> okL l.length l = true := fun l h => W1 (by omega)
 have hh : byB (pu .u8 (Jib ⟨a, b, c, e⟩)) = true := Jlp.2 (by rw [Jdv]; exact Jp5 _)
 have hh2 : (pu .u8 (Jib ⟨a, b, c, e⟩)).length = 32 := by rw [JI, Jdv]; exact Qu _
 have hlen : (apI (apI (apI (apI [] a) b) c) e).length = 32 := by simp only [Xc]; rfl
 have hall : Jl .u8 (apI (apI (apI (apI [] a) b) c) e) = true := by simp only [Yw, Q6, JO, Bool.and_true]; rfl
 have hn : JX (JD (apI (apI (apI (apI [] a) b) c) e)) = Jib ⟨a, b, c, e⟩ := by rw [h4_ints, Jdv]
 have w : ∀ n : Int, 0 < n -> n < 1000000000000 -> okW n = true := fun n h h2 => JzI h h2
 have hi : inZ a 2 = true := JuX m1 (by omega)
 have hc : inZ c 2 = true := JuX m5 (by omega)
 have he : inZ e 7 = true := JuX m7 (by omega)
 have hP : PV.st 42 [.sc (.int .i64 c), .sc (.int .i64 e)] = adP ⟨c, e⟩ := rfl
 have W0 := JLs (ih := a) (iN := b) (a := ⟨c, e⟩) (JLt hi) hc he hh hh2
 rw [List.take_length, hn, hP]
 refine (Jd (by simp [zi]; omega)).trans ((Ja (w _ (by decide) (by decide))).trans ((Ja (w _ (by decide) (by decide))).trans ((Ja (w _ (by decide) (by decide))).trans ((Ja (w _ (by decide) (by decide))).trans ((Ja hs4).trans ((Ja (okl _ (by simp only [Xc]; simp))).trans ((Ja (okl _ (by simp only [Xc]; simp))).trans ((Ja (okl _ (by simp only [Xc]; simp))).trans ((Ja (by rw [hall, hlen]; rfl)).trans ?_)))))))))
 exact JLu hl h1 h2 49 _ _ z f l.length 0 50 ⟨a, b, ByteArray.mk (Array.mk []), [adP ⟨c, e⟩], 0, pu .u8 (Jib ⟨a, b, c, e⟩)⟩ false false false (by omega) (by omega) W0
def JuZ : Jz
 | [.ro 69 z f l, .st 34 [.sc (.int .i64 ih), .sc (.int .i64 iN)], .st 42 [.sc (.int .i64 cd), .sc (.int .i64 cu)]], [], k => bif l.all Jn1 && l.all (fun p => spOk (sp p)) then k ⟨.sc (.bool true), [], []⟩ else none
 | _, _, _ => none
def s7' : Sig := { own := [], run := JuZ }
theorem JO2 : Jc tau Try.prog 7 s7' := Jc.mk' fun xs es k res hl hr => by
 change JuZ xs es k = some res at hr
 unfold JuZ at hr
 split at hr
 · rename_i z f l ih iN cd cu
   obtain ⟨hc, hr⟩ := Jv hr
   rw [Bool.and_eq_true] at hc
   exact J2 Jn JpY Jo fo7 bo7 (an7 (Jn0 50)) [.ro] 0 0 (ia7 50) hl rfl ((e7 50 z f l ih iN cd cu k).trans ((JxZ z f l ih iN cd cu hc.1 (List.all_eq_true.1 hc.2) k).trans hr))
 · cases hr
theorem JqI : ∀ pvs, TyL tau 6 [22, 34, 42] pvs -> s7'.run pvs [] some = some ⟨.sc (.bool true), [], []⟩ := by
 intro pvs h
 obtain ⟨p1, p2, p3, rfl, h1, h2, h3⟩ := JJI h
 obtain ⟨z, l, rfl, a1, a2⟩ := JuY (n := 2) h1
 obtain ⟨fs2, rfl, hf2⟩ := Jcq (n := 5) (T := 34) (tys := [3, 3]) (by kernel_rfl) (List.cons_ne_nil _ _) h2
 obtain ⟨q1, q2, rfl, c1, c2⟩ := JJH hf2
 obtain ⟨a, rfl, _⟩ := G2 c1
 obtain ⟨b, rfl, _⟩ := G2 c2
 obtain ⟨fs3, rfl, hf3⟩ := Jcq (n := 5) (T := 42) (tys := [3, 3]) (by kernel_rfl) (List.cons_ne_nil _ _) h3
 obtain ⟨q3, q4, rfl, c3, c4⟩ := JJH hf3
 obtain ⟨c, rfl, _⟩ := G2 c3
 obtain ⟨e, rfl, _⟩ := G2 c4
 exact Ja (by rw [a1, List.all_eq_true.2 a2]; rfl)
end
end Go.Proofs.Ythpmachmnoljeaa.Rx
