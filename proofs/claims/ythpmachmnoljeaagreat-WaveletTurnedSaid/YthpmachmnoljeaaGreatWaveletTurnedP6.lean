/- What the functions of this law compute, and their plain laws. Conditions: none. -/
import Derived.Test.YthpmachmnoljeaaGreatWaveletTurnedP5
namespace Go.Proofs.YthpmachmnoljeaaGreat.Rx
noncomputable section
open Go
set_option linter.unusedVariables false
set_option linter.unusedSimpArgs false
set_option maxRecDepth 100000
set_option maxHeartbeats 0
def F25 : Fns := F0
theorem JHa : Jp tau Tryz.prog F25 := Js
def JHb : An := (.seq .leaf (.seq .leaf .leaf))
def g25 (f : Nat) (y0 y1 : Int) (y2 : ByteArray) (y3 y4 : Bool) (y5 : List PV) (y6 : Int) (y7 : List PV) (k : KR) : OR := k (Res.mk (.st 49 [.st 46 [.sc (.int .i64 y0), .sc (.int .i64 y1)], .sc (.string y2), .ro 67 y3 y4 y5, .sc (.int .i64 y6), .ar 28 y7]) [] [])
theorem e25 (f : Nat) (y0 y1 : Int) (y2 : ByteArray) (y3 y4 : Bool) (y5 : List PV) (y6 : Int) (y7 : List PV) (k : KR) : JI tau F25 Tryz.f25 (Tryz.f25.body.get!) JHb [.ro] 0 [.st 56 [.st 46 [.sc (.int .i64 y0), .sc (.int .i64 y1)], .sc (.string y2), .ro 67 y3 y4 y5, .sc (.int .i64 y6), .ar 28 y7]] [] k = g25 f y0 y1 y2 y3 y4 y5 y6 y7 k := by kernel_rfl
theorem JRp (f : Nat) : ∀ q ∈ Jf (Tryz.f25.body.get!) JHb, q.Ok tau Tryz.prog 0 := Jv (by kernel_rfl)
theorem JNT : Tryz.prog.funcs[25]? = some Tryz.f25 := by kernel_rfl
theorem JNU : Tryz.f25.body = some (Tryz.f25.body.get!) := by kernel_rfl
theorem JRq : Enters Tryz.prog 25 := enters_of JNT (by kernel_rfl) JNU
def Jwu : Jy
 | [.st 56 [.st 46 [.sc (.int .i64 y0), .sc (.int .i64 y1)], .sc (.string y2), .ro 67 y3 y4 y5, .sc (.int .i64 y6), .ar 28 y7]], [], k => g25 0 y0 y1 y2 y3 y4 y5 y6 y7 k
 | _, _, _ => none
def s25 : Sig := { own := [], run := Jwu }
theorem JRr : Jc tau Tryz.prog 25 s25 := JN Jn JHa Jo JNT JNU JHb [.ro] 0 [] Jwu (JRp 0) fun xs es k res hr => by
 unfold Jwu at hr
 split at hr
 · exact ⟨rfl, 0, (e25 0 _ _ _ _ _ _ _ _  _).trans hr⟩
 · cases hr
def N3 : Nat := 165
def F3 : Fns := Jr 25 s25 (Jr 24 JNR (Jr 23 JFX (Jr 22 s22 (Jr 21 JNL (Jr 20 JFC (Jr 19 JGc (Jr 18 Jzl (Jr 17 JGk (Jr 16 JML (Jr 15 JMj (Jr 14 s14 (Jr 13 s13 (Jr 12 JMn (F0))))))))))))))
theorem Jq7 : Jp tau Tryz.prog F3 := ((((((((((((((Js).add JMo JOG).add JQq JQp).add JQt JQs).add JMl JQm).add JMM JQL).add JCl JMG).add Jvw JF5).add JCk JMB).add JB7 JFy).add JNM JRi).add JRl JRk).add JCj JMf).add JNS JRo).add JRr JRq
def JzZ : Code := Qd (Tryz.f3.body.get!) [1, 1, 1, 1, 1, 1, 1, 1, 1, 1, 0, 1, 0, 0]
def Jli : Nm := [(14, .any), (16, .ro), (17, .any)]
def Jq8 : Nm := [(10, .any)]
def JjI : An := (.seq (.seq .leaf (.cond .leaf .leaf)) (.seq (.block none (.seq .leaf (.seq .leaf (.seq .leaf (.cond (.seq .leaf .leaf) .leaf))))) .leaf))
def Jz0 : Code := Qd (Tryz.f3.body.get!) [1, 1, 1, 1, 1, 1, 1, 1]
def Jq9 : Nm := [(14, .any), (15, .bx (.st [.st [.ro, .any], .any, .ro, .any, .any]))]
def Jwv : Nm := [(10, .any)]
def Jf9 (r2 : Qt) : An := (.seq .leaf (.seq .leaf (.seq (.seq .leaf (.block none (.sum Jli N3 r2))) (.seq .leaf .leaf))))
def Jz1 : Code := Qd (Tryz.f3.body.get!) [1, 1, 1, 1, 1, 1, 1]
def Jra : Nm := [(2, .any), (3, .any), (6, .any), (9, .any), (14, .any), (15, .any)]
def Jww : Nm := [(10, .any)]
def JP (r1 : Qt) : An := (.cut Jq9 N3 (.seq .leaf (.block none (.seq .leaf (.cond .leaf (.seq .leaf (.cond .leaf (.seq .leaf (.cond .leaf (.seq .leaf (.cond (.seq (.seq .leaf (.cond (.seq .leaf .leaf) .leaf)) (.seq .leaf .leaf)) (.seq .leaf (.cond .leaf (.seq .leaf (.cond .leaf .leaf)))))))))))))) r1)
def an3 (r0 : Qt) : An := (.seq .leaf (.seq (.seq .leaf (.cond (.seq .leaf .leaf) .leaf)) (.seq (.seq .leaf (.cond (.seq .leaf .leaf) .leaf)) (.seq .leaf (.seq .leaf (.seq .leaf (.cut Jra N3 .leaf r0)))))))
abbrev JCN := List PV -> Int -> Int -> Int -> ByteArray -> Bool -> Bool -> List PV -> Int -> List PV -> OR
abbrev XS (v0 : List PV) (v1 : Int) := (PV.child 0 (PV.child 0 (v0.getD v1.toNat PV.top)))
abbrev QR (v0 : List PV) (v1 : Int) := (EW.mk (XS v0 v1).els (PV.child (0 + 1) (PV.child 0 (v0.getD v1.toNat PV.top))).els (PV.child (0 + 1) (v0.getD v1.toNat PV.top)).int (PV.child (0 + 1 + 1) (v0.getD v1.toNat PV.top)).els (PV.child (0 + 1 + 1 + 1) (v0.getD v1.toNat PV.top)).els (PV.child (0 + 1 + 1 + 1 + 1) (v0.getD v1.toNat PV.top)).els)
abbrev Gp (v0 : List PV) (v1 : Int) := (PV.isSt 34 #[Field.mk "S" 30 0 false "" "" 0, Field.mk "At" 3 33 false "" "" 56, Field.mk "Op" 32 34 false "" "" 64, Field.mk "Hash" 28 35 false "" "" 88, Field.mk "Mac" 28 67 false "" "" 120].size (v0.getD v1.toNat PV.top) && (PV.isSt (Field.mk "S" 30 0 false "" "" 0).type #[Field.mk "Body" 26 0 false "" "" 0, Field.mk "Mac" 28 1 false "" "" 24].size (PV.child 0 (v0.getD v1.toNat PV.top)) && (PV.isRo 5 (XS v0 v1) && (PV.isAr (Field.mk "Mac" 28 1 false "" "" 24).type (PV.child (0 + 1) (PV.child 0 (v0.getD v1.toNat PV.top))) && true)) && (PV.isInt IntKind.i64 (PV.child (0 + 1) (v0.getD v1.toNat PV.top)) && (PV.isRo 53 (PV.child (0 + 1 + 1) (v0.getD v1.toNat PV.top)) && (PV.isAr (Field.mk "Hash" 28 35 false "" "" 88).type (PV.child (0 + 1 + 1 + 1) (v0.getD v1.toNat PV.top)) && (PV.isAr (Field.mk "Mac" 28 67 false "" "" 120).type (PV.child (0 + 1 + 1 + 1 + 1) (v0.getD v1.toNat PV.top)) && true))))))
abbrev XT (v0 : List PV) (v1 : Int) (v2 : Int) (v3 : Int) (v4 : ByteArray) (v7 : List PV) (v8 : Int) (v9 : List PV) := (SV.mk v2 v3 (dsD (DX.mk (SV.mk v2 v3 v4 v7 v8 v9) (QR v0 v1))) (dsL (DX.mk (SV.mk v2 v3 v4 v7 v8 v9) (QR v0 v1))) (dsV (DX.mk (SV.mk v2 v3 v4 v7 v8 v9) (QR v0 v1))) (dsH (DX.mk (SV.mk v2 v3 v4 v7 v8 v9) (QR v0 v1))))
def Jga (f : Nat) (rc : JCN) (k0 : Bool -> OR) (k1 : OR) (v0 : List PV) (v1 v2 v3 : Int) (v4 : ByteArray) (v5 v6 : Bool) (v7 : List PV) (v8 : Int) (v9 : List PV) : OR := bif decide (v1 < 2) then bif decide (0 <= v1) && decide (v1 < zi v0.length) && (Gp v0 v1) && true then bif sOk (SV.mk v2 v3 v4 v7 v8 v9) && eD (QR v0 v1) && (zOk v5 v7 && slB (XS v0 v1).nl (XS v0 v1).els) then bif decide (0 <= v1) && decide (v1 < zi v0.length) && (Gp v0 v1) && true then bif sOk (SV.mk v2 v3 v4 v7 v8 v9) && eD (QR v0 v1) then bif dsE (DX.mk (SV.mk v2 v3 v4 v7 v8 v9) (QR v0 v1)) != dsE (DX.mk (SV.mk v2 v3 v4 v7 v8 v9) (QR v0 v1)) then k0 false else bif wOk (XT v0 v1 v2 v3 v4 v7 v8 v9) && wOk (XT v0 v1 v2 v3 v4 v7 v8 v9) then bif !Jha (SW.mk (XT v0 v1 v2 v3 v4 v7 v8 v9) (XT v0 v1 v2 v3 v4 v7 v8 v9)) then k0 false else rc v0 (IntKind.i64.wrap (v1 + 1)) v2 v3 v4 v5 v6 v7 v8 v9 else none else none else none else none else none else k1
def JdD (f : Nat) (k0 : Bool -> OR) (k1 : OR) : Nat -> JCN
 | 0 => fun _ _ _ _ _ _ _ _ _ _ => none
 | n + 1 => Jga f (JdD f k0 k1 n) k0 k1
def Jd9 (k : Kont) := fun x0 => k Ex.ret (Ji Jq8 N3 [.sc (.bool x0)] [])
def Jea (k : Kont) := k (Ex.exit 1) (Ji Jq8 N3 [PV.top] [])
def Jwx (f : Nat) (k : Kont) (n : Nat) (v0 : List PV) (v1 v2 v3 : Int) (v4 : ByteArray) (v5 v6 : Bool) (v7 : List PV) (v8 : Int) (v9 : List PV) : OR := Jx tau 0 Jli (fun s k => ev tau F3 0 0 JzZ (JjI ) s k) n (Ji Jli N3 [.ptr 2656 [], .ro 34 false false v0, .sc (.int .i64 v1)] [(2656, .box false 49 (PV.st 49 [.st 46 [.sc (.int .i64 v2), .sc (.int .i64 v3)], .sc (.string v4), .ro 67 v5 v6 v7, .sc (.int .i64 v8), .ar 28 v9]))]) (JG tau 0 Jq8 k)
theorem JHc (f : Nat) (k : Kont) (n : Nat) : Jwx f k (n + 1) = Jga f (Jwx f k n) (Jd9 k) (Jea k) := by kernel_rfl
theorem Jwy (f : Nat) (k : Kont) : ∀ n, Jwx f k n = JdD f (Jd9 k) (Jea k) n
 | 0 => rfl
 | n + 1 => (JHc f k n).trans (congrArg (fun r => Jga f r (Jd9 k) (Jea k)) (Jwy f k n))
def JrP (f : Nat) : List PV -> List (Nat × Ent) -> Kont -> OR
 | [.ptr 2656 [], .ro 34 false false v0,
 PV.sc
  (Value.int IntKind.i64
   v1)], [(2656,
  Ent.box false 49
   (PV.st 49
    [.st 46 [.sc (.int .i64 v2), .sc (.int .i64 v3)], .sc (.string v4), .ro 67 v5 v6 v7, .sc (.int .i64 v8),
     PV.ar 28 v9]))], k => JdD f (Jd9 k) (Jea k) f v0 v1 v2 v3 v4 v5 v6 v7 v8 v9
 | _, _, _ => none
theorem JNV (f : Nat) : Jf JzZ JjI = [] := by kernel_rfl
theorem JNW (f : Nat) : (Item.l JzZ Jli N3 (JrP f)).Ok tau Tryz.prog 0 := Jt Jn Jq7 Jo (x := JjI) (nm2 := Jq8) (Jl _ _ (by rw [JNV f]; intro q hq; cases hq)) fun vs hp k res hr => by
 unfold JrP at hr
 split at hr
 · rw [← Jwy f] at hr; exact ⟨f, 0, hr⟩
 · cases hr
abbrev JCO := Int -> Int -> ByteArray -> Bool -> Bool -> List PV -> Int -> List PV -> Bool -> Bool -> List PV -> List PV -> Int -> Bool -> Bool -> List PV -> List PV -> List PV -> OR
def JjJ (f : Nat) (rc : JCO) (k0 : Bool -> OR) (v0 v1 : Int) (v2 : ByteArray) (v3 v4 : Bool) (v5 : List PV) (v6 : Int) (v7 : List PV) (v8 v9 : Bool) (v10 v11 : List PV) (v12 : Int) (v13 v14 : Bool) (v15 v16 v17 : List PV) : OR := bif h32 v7 && eOk (EV.mk v10 v11 v12 v15) then JdD f k0 (k0 true) f ([.st 34 [.st 30 [.ro 5 v8 v9 v10, .ar 28 v11], .sc (.int .i64 v12), .ro 53 v13 v14 v15, .ar 28 v16, .ar 28 v17], .st 34 [.st 30 [.ro 5 v8 v9 v10, .ar 28 v11], .sc (.int .i64 v12), .ro 53 v13 v14 v15, .ar 28 (pu IntKind.u8 (nxP (NX.mk v7 (EV.mk v10 v11 v12 v15)))), .ar 28 v17]]) (0) v0 v1 v2 v3 v4 v5 v6 v7 else none
def Y5 (f : Nat) (k0 : Bool -> OR) : Nat -> JCO
 | 0 => fun _ _ _ _ _ _ _ _ _ _ _ _ _ _ _ _ _ _ => none
 | n + 1 => JjJ f (Y5 f k0 n) k0
def Jeb (k : Kont) := fun x0 => k Ex.ret (Ji Jwv N3 [.sc (.bool x0)] [])
def Jwz (f : Nat) (k : Kont) (n : Nat) (v0 v1 : Int) (v2 : ByteArray) (v3 v4 : Bool) (v5 : List PV) (v6 : Int) (v7 : List PV) (v8 v9 : Bool) (v10 v11 : List PV) (v12 : Int) (v13 v14 : Bool) (v15 v16 v17 : List PV) : OR := Jr2 (fun s k => ev tau F3 0 0 Jz0 (Jf9 (JrP f)) s k) n (Ji Jq9 N3 [.ptr 2656 [], .ptr 2657 []] [(2656, .box false 49 (PV.st 49 [.st 46 [.sc (.int .i64 v0), .sc (.int .i64 v1)], .sc (.string v2), .ro 67 v3 v4 v5, .sc (.int .i64 v6), .ar 28 v7])), (2657, .box false 34 (PV.st 34 [.st 30 [.ro 5 v8 v9 v10, .ar 28 v11], .sc (.int .i64 v12), .ro 53 v13 v14 v15, .ar 28 v16, .ar 28 v17]))]) (JG tau 0 Jwv k)
theorem JHd (f : Nat) (k : Kont) (n : Nat) : Jwz f k (n + 1) = JjJ f (Jwz f k n) (Jeb k) := by kernel_rfl
theorem JwA (f : Nat) (k : Kont) : ∀ n, Jwz f k n = Y5 f (Jeb k) n
 | 0 => rfl
 | n + 1 => (JHd f k n).trans (congrArg (fun r => JjJ f r (Jeb k)) (JwA f k n))
def JrQ (f : Nat) : List PV -> List (Nat × Ent) -> Kont -> OR
 | [.ptr 2656 [],
 PV.ptr 2657
  []], [(2656,
  Ent.box false 49
   (PV.st 49 [.st 46 [.sc (.int .i64 v0), .sc (.int .i64 v1)], .sc (.string v2), .ro 67 v3 v4 v5, .sc (.int .i64 v6), .ar 28 v7])),
 (2657,
  Ent.box false 34
   (PV.st 34
    [.st 30 [.ro 5 v8 v9 v10, .ar 28 v11], .sc (.int .i64 v12), .ro 53 v13 v14 v15, .ar 28 v16,
     PV.ar 28 v17]))], k => Y5 f (Jeb k) f v0 v1 v2 v3 v4 v5 v6 v7 v8 v9 v10 v11 v12 v13 v14 v15 v16 v17
 | _, _, _ => none
theorem JNX (f : Nat) : Jf Jz0 (Jf9 (JrP f)) = [.l JzZ Jli N3 (JrP f)] := by kernel_rfl
theorem JNY (f : Nat) : (Item.c Jz0 Jq9 N3 (JrQ f)).Ok tau Tryz.prog 0 := Jkj Jn Jq7 Jo (x := (Jf9 (JrP f))) (nm2 := Jwv) (Jl _ _ (by rw [JNX f]; simp only [List.forall_mem_cons, List.not_mem_nil, false_implies, implies_true, and_true]; exact JNW f)) fun vs hp k res hr => by
 unfold JrQ at hr
 split at hr
 · rw [← JwA f] at hr; exact ⟨f, 0, hr⟩
 · cases hr
abbrev JCP := Int -> Int -> Int -> Int -> Int -> Bool -> Bool -> List PV -> Bool -> Bool -> List PV -> List PV -> Int -> Bool -> Bool -> List PV -> List PV -> List PV -> Int -> Int -> ByteArray -> Bool -> Bool -> List PV -> Int -> List PV -> List PV -> List PV -> Int -> List PV -> List PV -> List PV -> OR
def JjK (f : Nat) (rc : JCP) (k0 : Bool -> OR) (v0 v1 v2 v3 v4 : Int) (v5 v6 : Bool) (v7 : List PV) (v8 v9 : Bool) (v10 v11 : List PV) (v12 : Int) (v13 v14 : Bool) (v15 v16 v17 : List PV) (v18 v19 : Int) (v20 : ByteArray) (v21 v22 : Bool) (v23 : List PV) (v24 : Int) (v25 v26 v27 : List PV) (v28 : Int) (v29 v30 v31 : List PV) : OR := bif okW 6 then bif v0 % 6 == 0 then bif okW 3 then Y5 f k0 f v18 v19 v20 v21 v22 v23 v24 v25 false false v26 v27 (IntKind.i64.wrap (IntKind.i64.wrap (v28 + v1 % 3) - 1)) false false v29 v30 v31 else none else bif v0 % 6 == 1 then bif okW 32 then bif decide (0 <= v1 % 32) && decide (v1 % 32 < zi 32) && true then bif PV.isInt IntKind.u8 (Jq (PV.st 34 [.st 30 [.ro 5 false false v26, .ar 28 v27], .sc (.int .i64 v28), .ro 53 false false v29, .ar 28 v30, .ar 28 v31]) [3, (v1 % 32).toNat]) && true then bif decide (0 <= v1 % 32) && decide (v1 % 32 < zi 32) && true then Y5 f k0 f v18 v19 v20 v21 v22 v23 v24 v25 false false v26 v27 v28 false false v29 (v30.set (v1 % 32).toNat (.sc (.int .u8 (JL BinOp.xor IntKind.u8 (Jq (PV.st 34 [.st 30 [.ro 5 false false v26, .ar 28 v27], .sc (.int .i64 v28), .ro 53 false false v29, .ar 28 v30, .ar 28 v31]) [3, (v1 % 32).toNat]).int 1)))) v31 else none else none else none else none else bif v0 % 6 == 2 then bif Je (0 + v29.length) 32 && true then bif Je (0 + v29.length + 1) 32 && true then Y5 f k0 f v18 v19 v20 v21 v22 v23 v24 v25 false false v26 v27 v28 false false (List.take (0 + v29.length + 1) (List.take (0 + v29.length) v29 ++ [.st 53 [.sc (.int .i64 2), .sc (.int .i64 0), .sc (.string (ByteArray.mk (Array.mk (u8l [120]))))]])) v30 v31 else none else none else bif v0 % 6 == 3 then bif zi v26.length == 0 then k0 false else bif Je (0 + v26.length) 1 && true then bif okW (zi (0 + v26.length)) then bif decide (0 <= v1 % zi (0 + v26.length)) && decide (v1 % zi (0 + v26.length) < zi (0 + v26.length)) && true then bif PV.isInt IntKind.u8 (Jq (v26.getD (0 + (v1 % zi (0 + v26.length)).toNat) PV.top) []) && true then bif okW 255 then bif decide (0 <= v1 % zi (0 + v26.length)) && decide (v1 % zi (0 + v26.length) < zi (0 + v26.length)) && true then Y5 f k0 f v18 v19 v20 v21 v22 v23 v24 v25 false false (List.take (0 + v26.length) (v26.set (0 + (v1 % zi (0 + v26.length)).toNat) (.sc (.int .u8 (JL BinOp.xor IntKind.u8 (Jq (v26.getD (0 + (v1 % zi (0 + v26.length)).toNat) PV.top) []).int (IntKind.u8.wrap (IntKind.i64.wrap (1 + v1 % 255)))))))) v27 v28 false false v29 v30 v31 else none else none else none else none else none else none else bif v0 % 6 == 4 then bif okW 50 then bif Jgl (v1 % 50) v7 then Y5 f k0 f v18 v19 v20 v21 v22 v23 v24 v25 false false v26 v27 v28 ((Q1 (MN.mk (v1 % 50) v7)).isEmpty) false (Q1 (MN.mk (v1 % 50) v7)) v30 v31 else none else none else bif v0 % 6 == 5 then Y5 f k0 f v18 v19 v20 v21 v22 v23 v24 v25 v8 v9 v10 v11 v12 v13 v14 v15 v16 v17 else Y5 f k0 f v18 v19 v20 v21 v22 v23 v24 v25 false false v26 v27 v28 false false v29 v30 v31 else none
def Jhd (f : Nat) (k0 : Bool -> OR) : Nat -> JCP
 | 0 => fun _ _ _ _ _ _ _ _ _ _ _ _ _ _ _ _ _ _ _ _ _ _ _ _ _ _ _ _ _ _ _ _ => none
 | n + 1 => JjK f (Jhd f k0 n) k0
def Jec (k : Kont) := fun x0 => k Ex.ret (Ji Jww N3 [.sc (.bool x0)] [])
def JwB (f : Nat) (k : Kont) (n : Nat) (v0 v1 v2 v3 v4 : Int) (v5 v6 : Bool) (v7 : List PV) (v8 v9 : Bool) (v10 v11 : List PV) (v12 : Int) (v13 v14 : Bool) (v15 v16 v17 : List PV) (v18 v19 : Int) (v20 : ByteArray) (v21 v22 : Bool) (v23 : List PV) (v24 : Int) (v25 v26 v27 : List PV) (v28 : Int) (v29 v30 v31 : List PV) : OR := Jr2 (fun s k => ev tau F3 0 0 Jz1 (JP (JrQ f)) s k) n (Ji Jra N3 [.sc (.int .i64 v0), .sc (.int .i64 v1), .ptr 2656 [], .ptr 2657 [], .ptr 2658 [], .ptr 2659 []] [(2656, .box false 25 (PV.st 25 [.sc (.int .i64 v2), .sc (.int .i64 v3), .sc (.int .i64 v4), .ro 3 v5 v6 v7])), (2657, .box false 34 (PV.st 34 [.st 30 [.ro 5 v8 v9 v10, .ar 28 v11], .sc (.int .i64 v12), .ro 53 v13 v14 v15, .ar 28 v16, .ar 28 v17])), (2658, .box false 49 (PV.st 49 [.st 46 [.sc (.int .i64 v18), .sc (.int .i64 v19)], .sc (.string v20), .ro 67 v21 v22 v23, .sc (.int .i64 v24), .ar 28 v25])), (2659, .box false 34 (PV.st 34 [.st 30 [.ro 5 false false v26, .ar 28 v27], .sc (.int .i64 v28), .ro 53 false false v29, .ar 28 v30, .ar 28 v31]))]) (JG tau 0 Jww k)
theorem JHe (f : Nat) (k : Kont) (n : Nat) : JwB f k (n + 1) = JjK f (JwB f k n) (Jec k) := by kernel_rfl
theorem JwC (f : Nat) (k : Kont) : ∀ n, JwB f k n = Jhd f (Jec k) n
 | 0 => rfl
 | n + 1 => (JHe f k n).trans (congrArg (fun r => JjK f r (Jec k)) (JwC f k n))
def JoR (f : Nat) : List PV -> List (Nat × Ent) -> Kont -> OR
 | [.sc (.int .i64 v0), .sc (.int .i64 v1), .ptr 2656 [], .ptr 2657 [], .ptr 2658 [],
 PV.ptr 2659
  []], [(2656, .box false 25 (PV.st 25 [.sc (.int .i64 v2), .sc (.int .i64 v3), .sc (.int .i64 v4), .ro 3 v5 v6 v7])),
 (2657, .box false 34 (PV.st 34 [.st 30 [.ro 5 v8 v9 v10, .ar 28 v11], .sc (.int .i64 v12), .ro 53 v13 v14 v15, .ar 28 v16, .ar 28 v17])),
 (2658,
  Ent.box false 49
   (PV.st 49 [.st 46 [.sc (.int .i64 v18), .sc (.int .i64 v19)], .sc (.string v20), .ro 67 v21 v22 v23, .sc (.int .i64 v24), .ar 28 v25])),
 (2659,
  Ent.box false 34
   (PV.st 34
    [.st 30 [.ro 5 false false v26, .ar 28 v27], .sc (.int .i64 v28), .ro 53 false false v29, .ar 28 v30,
     PV.ar 28
      v31]))], k => Jhd f (Jec k) f v0 v1 v2 v3 v4 v5 v6 v7 v8 v9 v10 v11 v12 v13 v14 v15 v16 v17 v18 v19 v20 v21 v22 v23 v24 v25 v26 v27 v28 v29 v30 v31
 | _, _, _ => none
theorem JNZ (f : Nat) : Jf Jz1 (JP (JrQ f)) = [.c Jz0 Jq9 N3 (JrQ f)] := by kernel_rfl
theorem JN0 (f : Nat) : (Item.c Jz1 Jra N3 (JoR f)).Ok tau Tryz.prog 0 := Jkj Jn Jq7 Jo (x := (JP (JrQ f))) (nm2 := Jww) (Jl _ _ (by rw [JNZ f]; simp only [List.forall_mem_cons, List.not_mem_nil, false_implies, implies_true, and_true]; exact JNY f)) fun vs hp k res hr => by
 unfold JoR at hr
 split at hr
 · rw [← JwC f] at hr; exact ⟨f, 0, hr⟩
 · cases hr
abbrev Jcq (l : List PV) := (bS (BL.mk [PV.ro 5 false false (kb 0 []), PV.ro 5 false false (kb 1 []), PV.ro 5 false false (kb 2 [])] l))
abbrev QB (l : List PV) := ((Jcq l).getD (IntKind.i64.wrap (zi (Jcq l).length - 1)).toNat PV.top)
abbrev Jhe (l : List PV) := (SV.mk (PV.child 0 (PV.child 0 (QB l))).int (PV.child (0 + 1) (PV.child 0 (QB l))).int (PV.child (0 + 1) (QB l)).str (PV.child (0 + 1 + 1) (QB l)).els (PV.child (0 + 1 + 1 + 1) (QB l)).int (PV.child (0 + 1 + 1 + 1 + 1) (QB l)).els)
abbrev Jcr (l : List PV) (y0 : Int) (p_By : Int) (y1 : Int) (p_Ns : List PV) := (SX.mk (SP.mk y0 p_By y1 p_Ns) [PV.ro 5 false false (kb 0 []), PV.ro 5 false false (kb 1 []), PV.ro 5 false false (kb 2 [])] (Jhe l) 99)
def g3 (f : Nat) (l_z l_f : Bool) (l : List PV) (y0 p_By y1 : Int) (y2 y3 : Bool) (p_Ns : List PV) (which n : Int) (y4 y5 : Bool) (y6 y7 : List PV) (y8 : Int) (y9 y10 : Bool) (y11 y12 y13 : List PV) (k : KR) : OR := bif !decide (zi l.length <= 25) then k (Res.mk (.sc (.bool true)) [] []) else bif decide (zi y6.length <= 300) then bif cOk y11 then bif !JmP y11 then k (Res.mk (.sc (.bool true)) [] []) else bif lOk l && kO3 [.ro 5 false false (kb 0 []), .ro 5 false false (kb 1 []), .ro 5 false false (kb 2 [])] then bif decide (0 <= IntKind.i64.wrap (zi (Jcq l).length - 1)) && decide (IntKind.i64.wrap (zi (Jcq l).length - 1) < zi (Jcq l).length) && (PV.isSt 49 #[Field.mk "Id" 46 0 false "" "" 0, Field.mk "Doc" 9 2 false "" "" 16, Field.mk "People" 47 3 false "" "" 32, Field.mk "Version" 3 4 false "" "" 56, Field.mk "Hash" 28 5 false "" "" 64].size (QB l) && (PV.isSt (Field.mk "Id" 46 0 false "" "" 0).type #[Field.mk "Host" 3 0 false "" "" 0, Field.mk "N" 3 1 false "" "" 8].size (PV.child 0 (QB l)) && (PV.isInt IntKind.i64 (PV.child 0 (PV.child 0 (QB l))) && (PV.isInt IntKind.i64 (PV.child (0 + 1) (PV.child 0 (QB l))) && true)) && ((PV.child (0 + 1) (QB l)).isStr && (PV.isRo 67 (PV.child (0 + 1 + 1) (QB l)) && (PV.isInt IntKind.i64 (PV.child (0 + 1 + 1 + 1) (QB l)) && (PV.isAr (Field.mk "Hash" 28 5 false "" "" 64).type (PV.child (0 + 1 + 1 + 1 + 1) (QB l)) && true)))))) && true then bif sOk (Jhe l) && spOk (SP.mk y0 p_By y1 p_Ns) && (kO3 [.ro 5 false false (kb 0 []), .ro 5 false false (kb 1 []), .ro 5 false false (kb 2 [])] && kIn (PV.child 0 (PV.child 0 (QB l))).int) then Jhd f (fun x0_9 => k (Res.mk (.sc (.bool x0_9)) [] [])) f which n y0 p_By y1 y2 y3 p_Ns y4 y5 y6 y7 y8 y9 y10 y11 y12 y13 ((PV.child 0 (PV.child 0 (QB l))).int) ((PV.child (0 + 1) (PV.child 0 (QB l))).int) ((PV.child (0 + 1) (QB l)).str) ((PV.child (0 + 1 + 1) (QB l)).nl) ((PV.child (0 + 1 + 1) (QB l)).fl) ((PV.child (0 + 1 + 1) (QB l)).els) ((PV.child (0 + 1 + 1 + 1) (QB l)).int) ((PV.child (0 + 1 + 1 + 1 + 1) (QB l)).els) (seB (Jcr l y0 p_By y1 p_Ns)) (seS (Jcr l y0 p_By y1 p_Ns)) ((PV.child (0 + 1 + 1 + 1) (QB l)).int) (seO (Jcr l y0 p_By y1 p_Ns)) (seH (Jcr l y0 p_By y1 p_Ns)) (seM (Jcr l y0 p_By y1 p_Ns)) else none else none else none else none else k (Res.mk (.sc (.bool true)) [] [])
theorem e3 (f : Nat) (l_z l_f : Bool) (l : List PV) (y0 p_By y1 : Int) (y2 y3 : Bool) (p_Ns : List PV) (which n : Int) (y4 y5 : Bool) (y6 y7 : List PV) (y8 : Int) (y9 y10 : Bool) (y11 y12 y13 : List PV) (k : KR) : JI tau F3 Tryz.f3 (Tryz.f3.body.get!) (an3 (JoR f)) [.ro] 0 [.ro 25 l_z l_f l, .st 25 [.sc (.int .i64 y0), .sc (.int .i64 p_By), .sc (.int .i64 y1), .ro 3 y2 y3 p_Ns], .sc (.int .i64 which), .sc (.int .i64 n), .st 34 [.st 30 [.ro 5 y4 y5 y6, .ar 28 y7], .sc (.int .i64 y8), .ro 53 y9 y10 y11, .ar 28 y12, .ar 28 y13]] [] k = g3 f l_z l_f l y0 p_By y1 y2 y3 p_Ns which n y4 y5 y6 y7 y8 y9 y10 y11 y12 y13 k := by kernel_rfl
theorem it3 (f : Nat) : Jf (Tryz.f3.body.get!) (an3 (JoR f)) = [.c Jz1 Jra N3 (JoR f)] := by kernel_rfl
theorem ia3 (f : Nat) : ∀ q ∈ Jf (Tryz.f3.body.get!) (an3 (JoR f)), q.Ok tau Tryz.prog 0 := by rw [it3 f]; exact JJ (JN0 f) (fun _ h => nomatch h)
theorem fo3 : Tryz.prog.funcs[3]? = some Tryz.f3 := by kernel_rfl
theorem bo3 : Tryz.f3.body = some (Tryz.f3.body.get!) := by kernel_rfl



structure Stp (K : List PV) (q : PV) (x : PV × PV) : Prop where
 ex : ∃ p i, spOk p = true /\ x.1 = ewP (seW ⟨p, K, sv q, i⟩) /\ x.2 = stpN K p i q /\ dsE0 (stpX K p i (sv q)) = 0
def Chn (K : List PV) : PV -> List (PV × PV) -> Prop
 | _, [] => True
 | q, x :: r => Stp K q x /\ Chn K x.2 r
theorem JjL {K : List PV} : ∀ (l : List PV) (i : Int) (q : PV), (∀ p ∈ l, spOk (sp p) = true) -> Chn K q (bld K l i q)
 | [], _, _, _ => trivial
 | p :: ps, i, q, h => by
  have h1 := h p List.mem_cons_self
  have h2 : ∀ r ∈ ps, spOk (sp r) = true := fun r hr => h r (List.mem_cons_of_mem _ hr)
  simp only [bld]
  cases hc : (dsE0 (stpX K (sp p) i (sv q)) == 0) with
  | true => exact ⟨⟨⟨sp p, i, h1, rfl, rfl, by simpa using hc⟩⟩, JjL ps _ _ h2⟩
  | false => exact JjL ps _ _ h2
def sts (q : PV) (r : List (PV × PV)) : List PV := q :: r.map Prod.snd
theorem JwD {K : List PV} : ∀ (r : List (PV × PV)) (q : PV), Chn K q r -> ∀ (j : Nat) (hj : j < r.length), Stp K ((sts q r).getD j .top) (r[j]'hj)
 | x :: r, q, h, 0, hj => h.1
 | x :: r, q, h, j + 1, hj => JwD r x.2 h.2 j (by simpa using hj)
theorem Stp.ver {K : List PV} {q : PV} {x : PV × PV} (h : Stp K q x) : (sv x.2).ver = (sv q).ver + 1 := by
 obtain ⟨p, i, h1, h2, h3, h4⟩ := h.ex
 rw [h3]
 show dsV (stpX K p i (sv q)) = _
 rw [Jam, h4]; rfl
theorem Jrb {K : List PV} : ∀ (r : List (PV × PV)) (q : PV), Chn K q r -> ∀ (j : Nat), j <= r.length -> (sv ((sts q r).getD j .top)).ver = (sv q).ver + j
 | r, q, h, 0, hj => by simp [sts]
 | x :: r, q, h, j + 1, hj => by
  have := Jrb r x.2 h.2 j (by simpa using hj)
  have e : (sts q (x :: r)).getD (j + 1) .top = (sts x.2 r).getD j .top := rfl
  rw [e, this, h.1.ver]; omega
structure BldOk (K l : List PV) (n : Nat) : Prop where
 eE : bE ⟨K, l⟩ = (bld K l 0 q0).map Prod.fst
 eS : bS ⟨K, l⟩ = sts q0 (bld K l 0 q0)
 chn : Chn K q0 (bld K l 0 q0)
 len : (bld K l 0 q0).length = n
 le : n <= 25
 ok : ∀ j, j <= n -> BOk 25 ((bS ⟨K, l⟩).getD j .top)
 vr : ∀ j, j <= n -> (sv ((bS ⟨K, l⟩).getD j .top)).ver = j
theorem Jz2 {K l : List PV} (h : lOk l = true) : BldOk K l (bld K l 0 q0).length := by
 obtain ⟨h1, h2, h3⟩ := Jd3.1 h
 have hlen := Jaq (K := K) l 0 q0
 have hS : bS ⟨K, l⟩ = sts q0 (bld K l 0 q0) := JCm _
 have hm : ∀ q ∈ sts q0 (bld K l 0 q0), BOk 25 q := fun q hq => by
   rcases List.mem_cons.1 hq with rfl | hq
   · exact JvI.up (by decide)
   · obtain ⟨x, hx, rfl⟩ := List.mem_map.1 hq
     exact (Jos l 0 q0 h2 (Int.le_refl _) (by omega) JvI x hx).up (by omega)
 have hc := JjL (K := K) l 0 q0 h2
 have hsl : (sts q0 (bld K l 0 q0)).length = (bld K l 0 q0).length + 1 := by simp [sts]
 refine ⟨JCn _, hS, hc, rfl, by omega, fun j hj => ?_, fun j hj => ?_⟩
 · rw [hS, List.getD_eq_getElem?_getD, List.getElem?_eq_getElem (by omega)]
   exact hm _ (List.getElem_mem _)
 · rw [hS, Jrb _ _ hc j hj]
   show (0 : Int) + j = j; omega
theorem BldOk.lenS {K l : List PV} {n : Nat} (h : BldOk K l n) : (bS ⟨K, l⟩).length = n + 1 := by rw [h.eS]; simp [sts, h.len]
theorem BldOk.step {K l : List PV} {n : Nat} (h : BldOk K l n) {j : Nat} (hj : j < n) : Stp K ((bS ⟨K, l⟩).getD j .top) ((bE ⟨K, l⟩).getD j .top, (bS ⟨K, l⟩).getD (j + 1) .top) := by
 have hj' : j < (bld K l 0 q0).length := by rw [h.len]; exact hj
 have := JwD _ _ h.chn j hj'
 rw [← h.eS] at this
 have e1 : (bE ⟨K, l⟩).getD j .top = ((bld K l 0 q0)[j]'hj').1 := by
  rw [h.eE, List.getD_eq_getElem?_getD, List.getElem?_map, List.getElem?_eq_getElem hj']; rfl
 have e2 : (bS ⟨K, l⟩).getD (j + 1) .top = ((bld K l 0 q0)[j]'hj').2 := by
  rw [h.eS]
  show (List.map Prod.snd (bld K l 0 q0)).getD j .top = _
  rw [List.getD_eq_getElem?_getD, List.getElem?_map, List.getElem?_eq_getElem hj']; rfl
 rw [e1, e2]; exact this
theorem Stp.all {K : List PV} {q e q' : PV} (h : Stp K q (e, q')) (hq : BOk 25 q) : ∃ s z f w, q = stP s z f /\ e = ewP w /\ eD w = true /\ dsE0 ⟨s, w⟩ = 0 /\ q' = stP (dsS ⟨s, w⟩) (dsZ ⟨s, w⟩ z) (dsF ⟨s, w⟩ f) /\ w.at1 = s.ver /\ dE w.b = 0 /\ w.h = pu .u8 (nxP ⟨s.hash, YI w⟩) := by
 obtain ⟨p, i, h1, h2, h3, h4⟩ := h.ex
 obtain ⟨s, z, f, rfl⟩ := Jc1.1 hq.st
 have hD := Jjm (x := ⟨p, K, s, i⟩) hq.ok h1 hq.by1
 refine ⟨s, z, f, seW ⟨p, K, s, i⟩, rfl, h2, hD, h4, h3, rfl, ?_, rfl⟩
 have h4 : dsE0 ⟨s, seW ⟨p, K, s, i⟩⟩ = 0 := h4
 unfold dsE0 at h4
 cases hc : (dE (seW ⟨p, K, s, i⟩).b != 0) with
 | false => simpa [bne] using hc
 | true => simp only [hc, cond_true] at h4; exact h4
theorem JwE : kO3 [.ro 5 false false (kb 0 []), .ro 5 false false (kb 1 []), .ro 5 false false (kb 2 [])] = true := by
 have hkk : ∀ i, kOk (kb i []) = true := fun i => JMi i rfl
 exact Jqm.2 ⟨hkk 0, hkk 1, hkk 2⟩
structure WOk (n : Int) (s : SV) (z : Bool) : Prop where
 ok : sOk s = true
 by1 : byB s.hash = true
 ih : kIn s.ih = true
 zo : z = true -> s.l = []
 ver : s.ver <= n
theorem WOk.zOk {n : Int} {s : SV} {z : Bool} (h : WOk n s z) : zOk z s.l = true := Jd7.2 h.zo
theorem Jrc {x : DX} {z : Bool} (hz : z = true -> x.s.l = []) : dsZ x z = true -> dsL x = [] := by
 rw [JfM, JfL]
 cases dsE0 x == 0 with
 | true => exact JoN hz
 | false => exact hz
theorem WOk.next {n : Int} {s : SV} {z : Bool} {w : EW} (h : WOk n s z) (he : eD w = true) (hb : dsE0 ⟨s, w⟩ = 0 -> byB w.h = true) (hn : n < 1000000) : WOk (n + 1) (dsS ⟨s, w⟩) (dsZ ⟨s, w⟩ z) where
 ok := JqC (x := ⟨s, w⟩) h.ok he (by have := h.ver; show s.ver < 1000000; omega)
 by1 := by
  show byB (dsH ⟨s, w⟩) = true
  rw [JcU]
  cases hc : dsE0 ⟨s, w⟩ == 0 with
  | true => exact hb (by simpa using hc)
  | false => exact h.by1
 ih := h.ih
 zo := Jrc h.zo
 ver := by
  show dsV ⟨s, w⟩ <= n + 1
  have := h.ver
  rw [Jam]
  cases dsE0 ⟨s, w⟩ == 0 with
  | true => show s.ver + 1 <= n + 1; omega
  | false => show s.ver <= n + 1; omega
theorem JN1 {s : SV} {w : EW} (hw : Jk .u8 w.h = true) (h : dsE0 ⟨s, w⟩ = 0) : byB w.h = true := by
 unfold dsE0 at h
 simp only at h
 cases h1 : (dE w.b != 0) with
 | true => rw [h1] at h; have h : dE w.b = 0 := h; rw [h] at h1; exact absurd h1 (by decide)
 | false =>
 rw [h1, cond_false] at h
 cases h2 : (w.at1 != s.ver) with
 | true => rw [h2, cond_true] at h; exact absurd h (by decide)
 | false =>
 rw [h2, cond_false] at h
 cases h3 : decide (dF 3 w.b > s.ver) with
 | true => rw [h3, cond_true] at h; exact absurd h (by decide)
 | false =>
 rw [h3, cond_false] at h
 cases h4 : (!hasP ⟨s.l, auA w.b⟩) with
 | true => rw [h4, cond_true] at h; exact absurd h (by decide)
 | false =>
 rw [h4, cond_false] at h
 cases h5 : (chE ⟨s, w⟩ != 0) with
 | true => rw [h5] at h; have h : chE ⟨s, w⟩ = 0 := h; rw [h] at h5; exact absurd h5 (by decide)
 | false =>
 rw [h5, cond_false] at h
 cases h6 : (!J6 w.h (pu .u8 (nxP ⟨s.hash, YI w⟩))) with
 | true => rw [h6] at h; exact absurd h (by decide)
 | false =>
  have h6 : J6 w.h (pu .u8 (nxP ⟨s.hash, YI w⟩)) = true := by simpa using h6
  rw [QC hw, JcF] at h6
  have e : JC w.h = nxP ⟨s.hash, YI w⟩ := by simpa using h6
  rw [QC hw, e]; exact JvH _
theorem WOk.next' {n : Int} {s : SV} {z : Bool} {w : EW} (h : WOk n s z) (he : eD w = true) (hn : n < 1000000) : WOk (n + 1) (dsS ⟨s, w⟩) (dsZ ⟨s, w⟩ z) :=
 h.next he (JN1 (h32_iff.1 (Wn.1 he).2.2.2).1) hn
theorem WOk.up {n m : Int} {s : SV} {z : Bool} (h : WOk n s z) (hm : n <= m) : WOk m s z := { h with ver := by have := h.ver; omega }
theorem WOk.w {n : Int} {s : SV} {z : Bool} (h : WOk n s z) : wOk s = true := by
 obtain ⟨s1, s2, _⟩ := Xm.1 h.ok
 obtain ⟨p1, p2, p3⟩ := QJ.1 s1
 exact Jd2.2 ⟨YZ.2 ⟨p1, by omega⟩, s2⟩
theorem JrR {s : SV} (h : wOk s = true) : Jha ⟨s, s⟩ = true := by
 obtain ⟨_, s2⟩ := Jd2.1 h
 rw [Jk5]; simp only [beq_self_eq_true, JrJ, JiQ, JgW, Jk4 (h32_iff.1 s2).1, Bool.and_self]
def zOf (q : PV) : Bool := (q.child 2).nl
theorem JCQ {K : List PV} : ∀ (r : List (PV × PV)) (q : PV), Chn K q r -> (zOf q = true -> (sv q).l = []) -> ∀ (j : Nat), j <= r.length -> zOf ((sts q r).getD j .top) = true -> (sv ((sts q r).getD j .top)).l = []
 | r, q, h, hz, 0, hj => hz
 | x :: r, q, h, hz, j + 1, hj => by
  have e : (sts q (x :: r)).getD (j + 1) .top = (sts x.2 r).getD j .top := rfl
  rw [e]
  refine JCQ r x.2 h.2 ?_ j (by simpa using hj)
  obtain ⟨p, i, h1, h2, h3, h4⟩ := h.1.ex
  rw [h3]
  exact Jrc (x := stpX K p i (sv q)) hz
theorem BldOk.z {K l : List PV} {n : Nat} (h : BldOk K l n) {j : Nat} (hj : j <= n) : zOf ((bS ⟨K, l⟩).getD j .top) = true -> (sv ((bS ⟨K, l⟩).getD j .top)).l = [] := by
 rw [h.eS]
 exact JCQ _ _ h.chn (fun h => by cases h) j (by rw [h.len]; exact hj)
theorem BldOk.at {K l : List PV} {n : Nat} (h : BldOk K l n) {j : Nat} (hj : j <= n) : ∃ s z f, (bS ⟨K, l⟩).getD j .top = stP s z f /\ WOk 25 s z /\ s.ver = j /\ s.ih = 0 /\ s.iN = 3 := by
 have hb := h.ok j hj
 have hv := h.vr j hj
 have hz := h.z hj
 obtain ⟨s, z, f, hs⟩ := Jc1.1 hb.st
 rw [hs] at hb hv hz
 exact ⟨s, z, f, hs, ⟨hb.ok, hb.by1, by rw [show s.ih = 0 from hb.ih, Jfh]; rfl, hz, hb.ver⟩, hv, hb.ih, hb.iN⟩
def ew (p : PV) : EW := ⟨((p.child 0).child 0).els, ((p.child 0).child 1).els, (p.child 1).int, (p.child 2).els, (p.child 3).els, (p.child 4).els⟩
def enP (w : EW) (z f oz of : Bool) : PV := .st 34 [.st 30 [.ro 5 z f w.b, .ar 28 w.m], .sc (.int .i64 w.at1), .ro 53 oz of w.o, .ar 28 w.h, .ar 28 w.mc]
structure FS where
 (s : SV) (z f : Bool)
def FS.next (t : FS) (p : PV) : FS := ⟨dsS ⟨t.s, ew p⟩, dsZ ⟨t.s, ew p⟩ t.z, dsF ⟨t.s, ew p⟩ t.f⟩
structure FX where
 (t : FS) (E : List PV)
theorem FS.ok {n : Int} {t : FS} {p : PV} (h : WOk n t.s t.z) (he : eD (ew p) = true) (hn : n < 1000000) : WOk (n + 1) (t.next p).s (t.next p).z := h.next' he hn
theorem JjM {n : Nat} {p : PV} (h : Ty tau (n + 3) 25 p) : Jk7 p = true /\ spOk (sp p) = true := by
 obtain ⟨fs, rfl, hf⟩ := Ge (n := n + 2) (T := 25) (tys := [3, 3, 3, 23]) (by kernel_rfl) (List.cons_ne_nil _ _) h
 obtain ⟨p1, r1, rfl, h1, hf⟩ := VK hf
 obtain ⟨p2, p3, p4, rfl, h2, h3, h4⟩ := Jzg hf
 obtain ⟨a, rfl, _⟩ := VL h1
 obtain ⟨b, rfl, _⟩ := VL h2
 obtain ⟨c, rfl, _⟩ := VL h3
 obtain ⟨z, ns, rfl, _, h5, h6⟩ := Jzi h4
 have e1 : maxLen <= 9223372036854775807 := by decide
 exact ⟨rfl, Jcc.2 ⟨h6, by show ns.length <= _; omega⟩⟩
theorem JwF {n : Nat} {p : PV} (h : Ty tau (n + 4) 22 p) : ∃ z l, p = .ro 25 z false l /\ l.all Jk7 = true /\ (∀ q ∈ l, spOk (sp q) = true) := by
 have u : tau.und 22 = some (.slice 25) := by kernel_rfl
 obtain ⟨z, b, rfl, h1, h2, h3⟩ := JaM u h
 exact ⟨z, b, rfl, List.all_eq_true.2 fun q hq => (JjM (h3 q hq)).1, fun q hq => (JjM (h3 q hq)).2⟩
theorem JN2 (F : Nat) (k0 : Bool -> OR) (k1 : OR) (n i : Nat) (E : List PV) (s : SV) (z f : Bool) (w : EW) (z1 f1 oz of : Bool) (hs : WOk 25 s z) (hi : i < 2) (hE : E.length = 2) (he : E.getD i .top = enP w z1 f1 oz of) (hw : eD w = true) (hz : z1 = true -> w.b = []) :
   JdD F k0 k1 (n + 1) E (i : Int) s.ih s.iN s.doc z f s.l s.ver s.hash = JdD F k0 k1 n E ((i + 1 : Nat) : Int) s.ih s.iN s.doc z f s.l s.ver s.hash := by
 have g1 := tI i
 have w1 := wI (i := i) (by omega)
 have eE : EW.mk (PV.child 0 (PV.child 0 (enP w z1 f1 oz of))).els (PV.child (0 + 1) (PV.child 0 (enP w z1 f1 oz of))).els (PV.child (0 + 1) (enP w z1 f1 oz of)).int (PV.child (0 + 1 + 1) (enP w z1 f1 oz of)).els (PV.child (0 + 1 + 1 + 1) (enP w z1 f1 oz of)).els (PV.child (0 + 1 + 1 + 1 + 1) (enP w z1 f1 oz of)).els = w := rfl
 have eS : SV.mk s.ih s.iN s.doc s.l s.ver s.hash = s := rfl
 have c3 : (PV.child 0 (PV.child 0 (enP w z1 f1 oz of))).nl = z1 := rfl
 have c4 : (PV.child 0 (PV.child 0 (enP w z1 f1 oz of))).els = w.b := rfl
 have eN : SV.mk s.ih s.iN (dsD ⟨s, w⟩) (dsL ⟨s, w⟩) (dsV ⟨s, w⟩) (dsH ⟨s, w⟩) = dsS ⟨s, w⟩ := rfl
 simp only [JdD, Jga, XT, Gp, QR, XS, g1, w1, he, eE, eS]
 simp only [c3, c4, eN]
 have hn := (hs.next' hw (by decide)).w
 have hslb : slB z1 w.b = true := XG.2 ⟨hz, by have : w.b.length <= 65535 := (Qx.1 (Wn.1 hw).2.1).2.1; omega⟩
 have hr : (decide (0 <= (i : Int)) && decide ((i : Int) < zi E.length) && true && true) = true := by simp [zi, hE]; omega
 refine (Ja (by simp; omega)).trans ((Ja ?_).trans ((Ja ?_).trans ((Ja ?_).trans ((Ja ?_).trans ((Jd (bne_self_eq_false _)).trans ((Ja ?_).trans ((Jd ?_).trans rfl)))))))
 · exact hr
 · rw [hs.ok, hw, hs.zOk, hslb]; rfl
 · exact hr
 · rw [hs.ok, hw]; rfl
 · rw [hn]; rfl
 · rw [JrR hn]; rfl
theorem JRs (F n : Nat) (k0 : Bool -> OR) (s : SV) (z f : Bool) (w : EW) (z1 f1 oz of : Bool) (hs : WOk 25 s z) (hw : eD w = true) (hz : z1 = true -> w.b = []) :
  Y5 (F + 3) k0 (n + 1) s.ih s.iN s.doc z f s.l s.ver s.hash z1 f1 w.b w.m w.at1 oz of w.o w.h w.mc = k0 true := by
 simp only [Y5, JjJ]
 obtain ⟨t1, t2, t3, t4⟩ := Wn.1 hw
 have hev : EV.mk w.b w.m w.at1 w.o = YI w := rfl
 have hw2 : eD ⟨w.b, w.m, w.at1, w.o, pu .u8 (nxP ⟨s.hash, YI w⟩), w.mc⟩ = true := Wn.2 ⟨t1, t2, t3, h32_iff.2 ⟨JO _ _, by rw [JD]; exact Yb _⟩⟩
 simp only [hev]
 refine (Ja (by rw [(Xm.1 hs.ok).2.1, t2]; rfl)).trans ?_
 refine (JN2 (F + 3) _ _ (F + 2) 0 _ s z f w z1 f1 oz of hs (by decide) rfl rfl hw hz).trans ((JN2 (F + 3) _ _ (F + 1) 1 _ s z f ⟨w.b, w.m, w.at1, w.o, pu .u8 (nxP ⟨s.hash, YI w⟩), w.mc⟩ z1 f1 oz of hs (by decide) rfl rfl hw2 hz).trans ?_)
 simp only [JdD, Jga, XT, Gp, QR, XS]
 exact Jd rfl
theorem JRt {x : SX} (hs : sOk x.s = true) (hp : spOk x.p = true) : (∀ p ∈ (seV x).o, isCp p = true) /\ (∀ p ∈ (seV x).o, (cv p).s.size <= 10) /\ (seV x).o.length <= 14 := by
 obtain ⟨s1, s2, s3, s4, s5, s6⟩ := Xm.1 hs
 have mk := JfB (n := zi x.s.doc.size) x.p.ns (by simp only [zi]; omega) (by simp only [zi]; omega)
 unfold seV
 cases x.p.kd % 6 == 4 with
 | true => exact ⟨fun p h => (by cases h), fun p h => (by cases h), Nat.zero_le _⟩
 | false =>
  cases x.p.kd % 6 == 5 with
  | true => exact ⟨fun p h => (by cases h), fun p h => (by cases h), Nat.zero_le _⟩
  | false => exact ⟨mk.cp, mk.sz, by have := mk.len; show (Q1 ⟨zi x.s.doc.size, x.p.ns⟩).length <= 14; omega⟩
theorem Jgb {l : List PV} {m n : Nat} (h1 : ∀ p ∈ l, isCp p = true) (h2 : ∀ p ∈ l, (cv p).s.size <= m) (h3 : l.length <= n) (hm : m <= 200) (hn : n <= 50) : cBy l = true /\ (opB l).length <= 65535 /\ cOk l = true := by
 have h4 := GZ m l h2
 have h5 : l.length * (m + 11) <= 50 * 211 := Nat.mul_le_mul (by omega) (by omega)
 refine ⟨JbB.2 ⟨List.all_eq_true.2 h1, fun p hp => by have := h2 p hp; omega, by omega⟩, ?_, Wh.2 ⟨List.all_eq_true.2 h1, by omega⟩⟩
 rw [JiH, JrF]; simp only [List.length_append, List.length_cons, List.length_nil]; omega
theorem Jlj {l : List PV} (h : Jk .u8 l = true) (i : Nat) (x : Int) : Jk .u8 (l.set i (.sc (.int .u8 x))) = true := by
 induction l generalizing i with
 | nil => exact h
 | cons p ps ih =>
  have e : ∀ (q : PV) (l : List PV), Jk .u8 (q :: l) = (q.isInt .u8 && Jk .u8 l) := fun _ _ => rfl
  rw [e, Bool.and_eq_true] at h
  cases i with
  | zero => rw [List.set_cons_zero, e, h.2]; rfl
  | succ i => rw [List.set_cons_succ, e, ih h.2 i, h.1]; rfl
theorem Jz3 {l : List PV} (h : byB l = true) (i : Nat) {x : Int} (hx : 0 <= x /\ x < 256) : byB (l.set i (.sc (.int .u8 x))) = true := by
 induction l generalizing i with
 | nil => exact h
 | cons p ps ih =>
  have e : ∀ (q : PV) (l : List PV), byB (q :: l) = ((q.isInt .u8 && (decide (0 <= q.int) && decide (q.int < 256))) && byB l) := fun _ _ => rfl
  rw [e, Bool.and_eq_true] at h
  cases i with
  | zero => rw [List.set_cons_zero, e, h.2, Bool.and_true, Bool.and_eq_true, Bool.and_eq_true]; exact ⟨rfl, decide_eq_true hx.1, decide_eq_true hx.2⟩
  | succ i => rw [List.set_cons_succ, e, ih h.2 i, h.1]; rfl
theorem Jrd {l : List PV} (h : Jk .u8 l = true) {i : Nat} (hi : i < l.length) : (l.getD i .top).isInt .u8 = true := by
 induction l generalizing i with
 | nil => simp at hi
 | cons p ps ih =>
  have e : Jk .u8 (p :: ps) = (p.isInt .u8 && Jk .u8 ps) := rfl
  rw [e, Bool.and_eq_true] at h
  cases i with
  | zero => exact h.1
  | succ i => simpa using ih h.2 (by simpa using hi)
theorem JRu (F n : Nat) (k0 : Bool -> OR) (which nn : Int) (q1 q2 q3 : Int) (nz nf : Bool) (ns : List PV) (rz rf : Bool) (rw : EW) (roz rof : Bool) (s : SV) (z f : Bool) (w : EW) (hs : WOk 25 s z) (hw : eD w = true) (hl : 0 < w.b.length) (ho1 : ∀ p ∈ w.o, isCp p = true) (ho2 : ∀ p ∈ w.o, (cv p).s.size <= 10) (ho3 : w.o.length <= 14) (hr : eD rw = true) (hrz : rz = true -> rw.b = []) (hns : Jk .i64 ns = true) (hns2 : ns.length <= 9223372036854775807) :
  Jhd (F + 4) k0 (n + 1) which nn q1 q2 q3 nz nf ns rz rf rw.b rw.m rw.at1 roz rof rw.o rw.h rw.mc s.ih s.iN s.doc z f s.l s.ver s.hash w.b w.m w.at1 w.o w.h w.mc = k0 true := by
 simp only [Jhd, JjK]
 obtain ⟨t1, t2, t3, t4⟩ := Wn.1 hw
 obtain ⟨o1, o2, o3, o4, o5, o6⟩ := Qx.1 t2
 obtain ⟨h1, h2⟩ := h32_iff.1 t4
 have ok : ∀ n : Int, 0 < n -> n < 1000000000000 -> okW n = true := fun n h h2 => JCi h h2
 have T : ∀ (w : EW) (z1 f1 oz of : Bool), eD w = true -> (z1 = true -> w.b = []) -> Y5 (F + 4) k0 (F + 4) s.ih s.iN s.doc z f s.l s.ver s.hash z1 f1 w.b w.m w.at1 oz of w.o w.h w.mc = k0 true := fun w z1 f1 oz of hw hz => JRs (F + 1) (F + 3) k0 s z f w z1 f1 oz of hs hw hz
 have nf' : ∀ b : List PV, (false = true -> b = []) := fun b h => by cases h
 refine (Ja (ok _ (by decide) (by decide))).trans ?_
 cases c0 : (which % 6 == 0) with
 | true =>
  refine (Ja rfl).trans ((Ja (ok _ (by decide) (by decide))).trans ?_)
  exact T ⟨w.b, w.m, IntKind.i64.wrap (IntKind.i64.wrap (w.at1 + nn % 3) - 1), w.o, w.h, w.mc⟩ false false false false (Wn.2 ⟨t1, Qx.2 ⟨o1, o2, o3, o4, o5, o6⟩, t3, t4⟩) (nf' _)
 | false =>
 refine (Jd rfl).trans ?_
 cases c1 : (which % 6 == 1) with
 | true =>
  obtain ⟨m1, m2⟩ := ZM nn (m := 32) (by decide)
  have hrg : (decide (0 <= nn % 32) && decide (nn % 32 < zi 32) && true) = true := by simp [zi]; omega
  refine (Ja rfl).trans ((Ja (ok _ (by decide) (by decide))).trans ((Ja hrg).trans ((Ja ?_).trans ((Ja hrg).trans ?_))))
  · rw [Bool.and_true]; exact Jrd h1 (by omega)
  · exact T ⟨w.b, w.m, w.at1, w.o, w.h.set (nn % 32).toNat (.sc (.int .u8 _)), w.mc⟩ false false false false (Wn.2 ⟨t1, Qx.2 ⟨o1, o2, o3, o4, o5, o6⟩, t3, h32_iff.2 ⟨Jlj h1 _ _, by rw [List.length_set]; exact h2⟩⟩) (nf' _)
 | false =>
 refine (Jd rfl).trans ?_
 cases c2 : (which % 6 == 2) with
 | true =>
  refine (Ja rfl).trans ((Ja (by simp [Je]; omega)).trans ((Ja (by simp [Je]; omega)).trans ?_))
  have e : List.take (0 + w.o.length + 1) (List.take (0 + w.o.length) w.o ++ [PV.st 53 [.sc (.int .i64 2), .sc (.int .i64 0), .sc (.string (ByteArray.mk (Array.mk (u8l [120]))))]]) = w.o ++ [ptP (ByteArray.mk (Array.mk [120]))] := by
    rw [List.take_of_length_le (l := w.o) (by omega), List.take_of_length_le (by simp)]; rfl
  rw [e]
  have hop := Jgb (l := w.o ++ [ptP (ByteArray.mk (Array.mk [120]))]) (m := 10) (n := 15) (fun p hp => by
    rcases List.mem_append.1 hp with h | h
    · exact ho1 p h
    · rw [List.mem_singleton.1 h]; rfl) (fun p hp => by
    rcases List.mem_append.1 hp with h | h
    · exact ho2 p h
    · rw [List.mem_singleton.1 h]; decide) (by simp; omega) (by decide) (by decide)
  exact T ⟨w.b, w.m, w.at1, w.o ++ [ptP (ByteArray.mk (Array.mk [120]))], w.h, w.mc⟩ false false false false (Wn.2 ⟨t1, Qx.2 ⟨o1, o2, o3, o4, hop.1, hop.2.1⟩, hop.2.2, t4⟩) (nf' _)
 | false =>
 refine (Jd rfl).trans ?_
 cases c3 : (which % 6 == 3) with
 | true =>
  have hb : w.b.length <= 65535 := o2
  have hz : zi (0 + w.b.length) = (w.b.length : Int) := by simp [zi]
  rw [hz]
  obtain ⟨m1, m2⟩ := ZM nn (m := (w.b.length : Int)) (by omega)
  have hi : (nn % (w.b.length : Int)).toNat < w.b.length := by omega
  have hrg : (decide (0 <= nn % (w.b.length : Int)) && decide (nn % (w.b.length : Int) < (w.b.length : Int)) && true) = true := by rw [decide_eq_true m1, decide_eq_true m2]; rfl
  refine (Ja rfl).trans ((Jd (beq_false_of_ne (by simp only [zi]; omega))).trans ((Ja (by simp [Je]; omega)).trans ((Ja (ok _ (by omega) (by omega))).trans ((Ja hrg).trans ((Ja ?_).trans ((Ja (ok _ (by decide) (by decide))).trans ((Ja hrg).trans ?_)))))))
  · rw [Bool.and_true, Nat.zero_add]; exact Jrd o1 hi
  · rw [Nat.zero_add, Nat.zero_add, List.take_of_length_le (by rw [List.length_set]; omega)]
    exact T ⟨w.b.set (nn % (w.b.length : Int)).toNat (.sc (.int .u8 _)), w.m, w.at1, w.o, w.h, w.mc⟩ false false false false (Wn.2 ⟨Jz3 t1 _ (Ja9 _), Qx.2 ⟨Jlj o1 _ _, by show (w.b.set _ _).length <= _; rw [List.length_set]; exact o2, o3, o4, o5, o6⟩, t3, t4⟩) (nf' _)
 | false =>
 refine (Jd rfl).trans ?_
 cases c4 : (which % 6 == 4) with
 | true =>
  obtain ⟨m1, m2⟩ := ZM nn (m := 50) (by decide)
  have hmk := JfB (n := nn % 50) ns m1 (by omega)
  refine (Ja rfl).trans ((Ja (ok _ (by decide) (by decide))).trans ((Ja (JfA.2 ⟨m1, by omega, hns, hns2⟩)).trans ?_))
  have hop := Jgb (m := 10) (n := 15) hmk.cp hmk.sz (by have := hmk.len; omega) (by decide) (by decide)
  exact T ⟨w.b, w.m, w.at1, Q1 ⟨nn % 50, ns⟩, w.h, w.mc⟩ false false _ false (Wn.2 ⟨t1, Qx.2 ⟨o1, o2, o3, o4, hop.1, hop.2.1⟩, hop.2.2, t4⟩) (nf' _)
 | false =>
 refine (Jd rfl).trans ?_
 cases c5 : (which % 6 == 5) with
 | true => exact (Ja rfl).trans (T rw rz rf roz rof hr hrz)
 | false => exact (Jd rfl).trans (T w false false false false hw (nf' _))
theorem Jz4 (z f : Bool) (l : List PV) (p : SP) (nz nf : Bool) (which nn : Int) (rz rf : Bool) (r : EW) (roz rof : Bool) (h1 : l.all Jk7 = true) (h2 : ∀ p ∈ l, spOk (sp p) = true) (hp : spOk p = true) (hrz : rz = true -> r.b = []) (hrb : byB r.b = true) (hrm : Jk .u8 r.m = true /\ r.m.length = 32) (hro : cOk r.o = true) (hrh : h32 r.h = true) (k : KR) :
   g3 50 z f l p.kd p.by1 p.who nz nf p.ns which nn rz rf r.b r.m r.at1 roz rof r.o r.h r.mc k = k ⟨.sc (.bool true), [], []⟩ := by
 unfold g3 Jcr Jhe QB Jcq
 by_cases hl : ¬ l.length <= 25
 · exact Ja (by simp [zi]; omega)
 have hl := Decidable.not_not.1 hl
 have hlo : lOk l = true := Jd3.2 ⟨h1, h2, hl⟩
 have B := Jz2 (K := [.ro 5 false false (kb 0 []), .ro 5 false false (kb 1 []), .ro 5 false false (kb 2 [])]) hlo
 generalize (bld [.ro 5 false false (kb 0 []), .ro 5 false false (kb 1 []), .ro 5 false false (kb 2 [])] l 0 q0).length = m at B
 have hS := B.lenS
 have hle := B.le
 refine (Jd (by simp [zi]; omega)).trans ?_
 cases hfew : decide (zi r.b.length <= 300) with
 | false => rfl
 | true =>
 have hrl : r.b.length <= 300 := by have := of_decide_eq_true hfew; simp only [zi] at this; omega
 refine (Ja rfl).trans ((Ja hro).trans ?_)
 cases hfo : JmP r.o with
 | false => rfl
 | true =>
 rw [Jpz, Bool.and_eq_true, List.all_eq_true, decide_eq_true_eq] at hfo
 have hop := Jgb (m := 150) (n := 50) (List.all_eq_true.1 (Wh.1 hro).1) (fun p hp => of_decide_eq_true (hfo.1 p hp)) hfo.2 (by decide) (by decide)
 have hr : eD r = true := Wn.2 ⟨hrb, Qx.2 ⟨(Wg.1 hrb).1, by show r.b.length <= _; omega, hrm.1, hrm.2, hop.1, hop.2.1⟩, hro, hrh⟩
 have w1 : IntKind.i64.wrap (zi (bS ⟨[.ro 5 false false (kb 0 []), .ro 5 false false (kb 1 []), .ro 5 false false (kb 2 [])], l⟩).length - 1) = (m : Int) := by
   rw [hS, wrap_i64 (by simp only [zi]; omega) (by simp only [zi]; omega)]; simp only [zi]; omega
 obtain ⟨s, zs, fs, b1, b2, b3, b4, b5⟩ := B.at (j := m) (Nat.le_refl _)
 have g1 := tI m
 have eS : SV.mk (PV.child 0 (PV.child 0 (stP s zs fs))).int (PV.child (0 + 1) (PV.child 0 (stP s zs fs))).int (PV.child (0 + 1) (stP s zs fs)).str (PV.child (0 + 1 + 1) (stP s zs fs)).els (PV.child (0 + 1 + 1 + 1) (stP s zs fs)).int (PV.child (0 + 1 + 1 + 1 + 1) (stP s zs fs)).els = s := rfl
 have c2 : (PV.child (0 + 1 + 1) (stP s zs fs)).nl = zs := rfl
 have c3 : (PV.child (0 + 1 + 1) (stP s zs fs)).fl = fs := rfl
 have c4 : (PV.child (0 + 1 + 1) (stP s zs fs)).els = s.l := rfl
 have c5 : (PV.child 0 (PV.child 0 (stP s zs fs))).int = s.ih := rfl
 have c6 : (PV.child (0 + 1) (PV.child 0 (stP s zs fs))).int = s.iN := rfl
 have c7 : (PV.child (0 + 1) (stP s zs fs)).str = s.doc := rfl
 have c8 : (PV.child (0 + 1 + 1 + 1) (stP s zs fs)).int = s.ver := rfl
 have c9 : (PV.child (0 + 1 + 1 + 1 + 1) (stP s zs fs)).els = s.hash := rfl
 have eP : SP.mk p.kd p.by1 p.who p.ns = p := rfl
 simp only [w1, g1, b1, eS, eP]
 simp only [c2, c3, c4, c5, c6, c7, c8, c9]
 obtain ⟨p1, p2⟩ := Jcc.1 hp
 have hw := Jjm (x := ⟨p, [.ro 5 false false (kb 0 []), .ro 5 false false (kb 1 []), .ro 5 false false (kb 2 [])], s, 99⟩) b2.ok hp b2.by1
 obtain ⟨v1, v2, v3⟩ := JRt (x := ⟨p, [.ro 5 false false (kb 0 []), .ro 5 false false (kb 1 []), .ro 5 false false (kb 2 [])], s, 99⟩) b2.ok hp
 obtain ⟨x1, x2, x3, x4, x5, x6⟩ := Jon (x := ⟨p, [.ro 5 false false (kb 0 []), .ro 5 false false (kb 1 []), .ro 5 false false (kb 2 [])], s, 99⟩) b2.ok hp
 have hlb : 0 < (seW ⟨p, [.ro 5 false false (kb 0 []), .ro 5 false false (kb 1 []), .ro 5 false false (kb 2 [])], s, 99⟩).b.length := by
   show 0 < (pu .u8 (dlB (seV ⟨p, [.ro 5 false false (kb 0 []), .ro 5 false false (kb 1 []), .ro 5 false false (kb 2 [])], s, 99⟩))).length
   rw [JD, Zw x1]; omega
 have e1 : seB ⟨p, [.ro 5 false false (kb 0 []), .ro 5 false false (kb 1 []), .ro 5 false false (kb 2 [])], s, 99⟩ = (seW ⟨p, [.ro 5 false false (kb 0 []), .ro 5 false false (kb 1 []), .ro 5 false false (kb 2 [])], s, 99⟩).b := by rw [seB, hid_eq]
 have e2 : seS ⟨p, [.ro 5 false false (kb 0 []), .ro 5 false false (kb 1 []), .ro 5 false false (kb 2 [])], s, 99⟩ = (seW ⟨p, [.ro 5 false false (kb 0 []), .ro 5 false false (kb 1 []), .ro 5 false false (kb 2 [])], s, 99⟩).m := by rw [seS, hid_eq]
 have e3 : seO ⟨p, [.ro 5 false false (kb 0 []), .ro 5 false false (kb 1 []), .ro 5 false false (kb 2 [])], s, 99⟩ = (seW ⟨p, [.ro 5 false false (kb 0 []), .ro 5 false false (kb 1 []), .ro 5 false false (kb 2 [])], s, 99⟩).o := by rw [seO, hid_eq]
 have e4 : seH ⟨p, [.ro 5 false false (kb 0 []), .ro 5 false false (kb 1 []), .ro 5 false false (kb 2 [])], s, 99⟩ = (seW ⟨p, [.ro 5 false false (kb 0 []), .ro 5 false false (kb 1 []), .ro 5 false false (kb 2 [])], s, 99⟩).h := by rw [seH, hid_eq]
 have e5 : seM ⟨p, [.ro 5 false false (kb 0 []), .ro 5 false false (kb 1 []), .ro 5 false false (kb 2 [])], s, 99⟩ = (seW ⟨p, [.ro 5 false false (kb 0 []), .ro 5 false false (kb 1 []), .ro 5 false false (kb 2 [])], s, 99⟩).mc := by rw [seM, hid_eq]
 refine (Jd rfl).trans ((Ja (by rw [hlo, JwE]; rfl)).trans ((Ja ?_).trans ((Ja (by rw [b2.ok, hp, JwE, b2.ih]; rfl)).trans ?_)))
 · have : (decide (0 <= (m : Int)) && decide ((m : Int) < zi (bS ⟨[.ro 5 false false (kb 0 []), .ro 5 false false (kb 1 []), .ro 5 false false (kb 2 [])], l⟩).length) && true && true) = true := by simp [zi]; omega
   exact this
 rw [e1, e2, e3, e4, e5]
 exact JRu 46 49 _ which nn _ _ _ nz nf p.ns rz rf r roz rof s zs fs (seW ⟨p, [.ro 5 false false (kb 0 []), .ro 5 false false (kb 1 []), .ro 5 false false (kb 2 [])], s, 99⟩) b2 hw hlb v1 v2 v3 hr hrz p1 p2
def JwG : Jy
 | [.ro 25 z f l, .st 25 [.sc (.int .i64 kd), .sc (.int .i64 by1), .sc (.int .i64 who), .ro 3 nz nf ns], .sc (.int .i64 which), .sc (.int .i64 n), .st 34 [.st 30 [.ro 5 rz rf b, .ar 28 m], .sc (.int .i64 at1), .ro 53 roz rof o, .ar 28 h, .ar 28 mc]], [], k =>
  bif (l.all Jk7 && l.all (fun p => spOk (sp p))) && (spOk ⟨kd, by1, who, ns⟩ && (((!rz || b.isEmpty) && byB b) && ((byB m && decide (m.length = 32)) && (cOk o && h32 h)))) then k ⟨.sc (.bool true), [], []⟩ else none
 | _, _, _ => none
def s3' : Sig := { own := [], run := JwG }
theorem JRv : Jc tau Tryz.prog 3 s3' := Jc.mk' fun xs es k res hl hr => by
 change JwG xs es k = some res at hr
 unfold JwG at hr
 split at hr
 · rename_i z f l kd by1 who nz nf ns which n rz rf b m at1 roz rof o h mc
   obtain ⟨hc, hr⟩ := Ju hr
   simp only [Bool.and_eq_true, Bool.or_eq_true, Bool.not_eq_true', List.isEmpty_iff, decide_eq_true_eq] at hc
   obtain ⟨⟨c1, c2⟩, c3, ⟨c4, c5⟩, ⟨c6, c7⟩, c8, c9⟩ := hc
   exact J1 Jn Jq7 Jo fo3 bo3 (an3 (JoR 50)) [.ro] 0 0 (ia3 50) hl rfl ((e3 50 z f l kd by1 who nz nf ns which n rz rf b m at1 roz rof o h mc k).trans ((Jz4 z f l ⟨kd, by1, who, ns⟩ nz nf which n rz rf ⟨b, m, at1, o, h, mc⟩ roz rof c1 (List.all_eq_true.1 c2) c3 (fun h => c4.resolve_left (by rw [h]; decide)) c5 ⟨(Wg.1 c6).1, c7⟩ c8 c9 k).trans hr))
 · cases hr
theorem JwH {n : Nat} {p : PV} (h : Ty tau (n + 4) 34 p) : ∃ z b m at1 oz o hh mc, p = .st 34 [.st 30 [.ro 5 z false b, .ar 28 m], .sc (.int .i64 at1), .ro 53 oz false o, .ar 28 hh, .ar 28 mc] /\ (z = true -> b = []) /\ byB b = true /\ (m.length = 32 /\ byB m = true) /\ cOk o = true /\ h32 hh = true := by
 obtain ⟨fs, rfl, hf⟩ := Ge (n := n + 3) (T := 34) (tys := [30, 3, 32, 28, 28]) (by kernel_rfl) (List.cons_ne_nil _ _) h
 obtain ⟨p1, r1, rfl, h1, hf⟩ := VK hf
 obtain ⟨p2, r2, rfl, h2, hf⟩ := VK hf
 obtain ⟨p3, p4, p5, rfl, h3, h4, h5⟩ := Jzg hf
 obtain ⟨z, b, m, rfl, a4, _, a5, a6, a7⟩ := JrI (n := n) h1
 obtain ⟨at1, rfl, _⟩ := VL (n := n + 2) h2
 obtain ⟨oz, o, rfl, _, b1, b2⟩ := JMm (n := n) h3
 obtain ⟨hh, rfl, d1, d2⟩ := Jjh (n := n + 1) h4
 obtain ⟨mc, rfl, _, _⟩ := Jjh (n := n + 1) h5
 have e1 : maxLen <= 9223372036854775807 := by decide
 exact ⟨z, b, m, at1, oz, o, hh, mc, rfl, a4, a5, ⟨a6, a7⟩, Wh.2 ⟨b2, by omega⟩, h32_iff.2 ⟨(Wg.1 d2).1, d1⟩⟩
theorem JrS : ∀ pvs, TyL tau 6 [22, 25, 3, 3, 34] pvs -> s3'.run pvs [] some = some ⟨.sc (.bool true), [], []⟩ := by
 intro pvs h
 obtain ⟨p1, r1, rfl, h1, hf⟩ := VK h
 obtain ⟨p2, r2, rfl, h2, hf⟩ := VK hf
 obtain ⟨p3, p4, p5, rfl, h3, h4, h5⟩ := Jzg hf
 obtain ⟨z, l, rfl, a1, a2⟩ := JwF (n := 2) h1
 obtain ⟨b1, b2⟩ := JjM (n := 3) h2
 obtain ⟨s, nz, nf, rfl, hsp⟩ := Jk8.1 b1
 rw [hsp] at b2
 obtain ⟨w, rfl, _⟩ := VL (n := 5) h3
 obtain ⟨n, rfl, _⟩ := VL (n := 5) h4
 obtain ⟨rz, b, m, at1, oz, o, hh, mc, rfl, d1, d2, ⟨d3, d4⟩, d5, d6⟩ := JwH (n := 2) h5
 refine Ja ?_
 simp only [Bool.and_eq_true, Bool.or_eq_true, Bool.not_eq_true', List.isEmpty_iff, decide_eq_true_eq]
 refine ⟨⟨a1, List.all_eq_true.2 a2⟩, b2, ⟨?_, d2⟩, ⟨d4, d3⟩, d5, d6⟩
 cases rz with
 | true => exact .inr (d1 rfl)
 | false => exact .inl rfl
end
end Go.Proofs.YthpmachmnoljeaaGreat.Rx
