/- What the functions of this law compute, and their plain laws. Conditions: none. -/
import Derived.KernelRfl
import Derived.Test.YthpmachmnoljeaaGreatWaveletTurnedP1
namespace Go.Proofs.YthpmachmnoljeaaGreat.Rx
noncomputable section
open Go
set_option linter.unusedVariables false
set_option linter.unusedSimpArgs false
set_option maxRecDepth 100000
set_option maxHeartbeats 0
def JI9 : Fns := Jr 131 JD3 (F0)
theorem JxV : Jp tau Tryz.prog JI9 := (Js).add JAW JAV
def Jtw : An := (.seq .leaf (.seq .leaf .leaf))
def JJa (f : Nat) (a_D a_U : Int) (k : KR) : OR := bif decide (a_D >= 0) then bif decide (a_D <= 2) then bif decide (a_U >= 0) then k (Res.mk (.sc (.bool (decide (a_U <= 7)))) [] []) else k (Res.mk (.sc (.bool false)) [] []) else k (Res.mk (.sc (.bool false)) [] []) else k (Res.mk (.sc (.bool false)) [] [])
theorem JO0 (f : Nat) (a_D a_U : Int) (k : KR) : JI tau JI9 Tryz.f130 (Tryz.f130.body.get!) Jtw [.ro] 0 [.st 67 [.sc (.int .i64 a_D), .sc (.int .i64 a_U)]] [] k = JJa f a_D a_U k := by kernel_rfl
theorem JJb (f : Nat) : ∀ q ∈ Jf (Tryz.f130.body.get!) Jtw, q.Ok tau Tryz.prog 0 := Jv (by kernel_rfl)
theorem JAX : Tryz.prog.funcs[130]? = some Tryz.f130 := by kernel_rfl
theorem JAY : Tryz.f130.body = some (Tryz.f130.body.get!) := by kernel_rfl
theorem JJc : Enters Tryz.prog 130 := enters_of JAX (by kernel_rfl) JAY
def JmT : Jy
 | [.st 67 [.sc (.int .i64 a_D), .sc (.int .i64 a_U)]], [], k => JJa 0 a_D a_U k
 | _, _, _ => none
def JJd : Sig := { own := [], run := JmT }
theorem JJe : Jc tau Tryz.prog 130 JJd := JN Jn JxV Jo JAX JAY Jtw [.ro] 0 [] JmT (JJb 0) fun xs es k res hr => by
 unfold JmT at hr
 split at hr
 · exact ⟨rfl, 0, (JO0 0 _ _  _).trans hr⟩
 · cases hr
def F88 : Fns := Jr 131 JD3 (Jr 130 JJd (Jr 91 JxP (F0)))
theorem JD4 : Jp tau Tryz.prog F88 := (((Js).add Jtq JDT).add JJe JJc).add JAW JAV
def JD5 : An := (.seq .leaf (.seq (.seq .leaf (.cond (.seq .leaf .leaf) .leaf)) (.seq (.seq .leaf (.block none (.seq .leaf (.cond (.seq (.seq .leaf (.seq .leaf (.cond (.seq .leaf .leaf) .leaf))) (.seq .leaf (.cond (.seq .leaf .leaf) .leaf))) (.seq (.seq .leaf (.cond .leaf .leaf)) (.cond (.seq .leaf (.cond (.seq .leaf .leaf) .leaf)) (.seq .leaf .leaf))))))) (.seq .leaf .leaf))))
def g88 (f : Nat) (y0 y1 d_Id y2 : Int) (y3 : List PV) (y4 : Int) (y5 y6 : Bool) (d_Op : List PV) (y7 y8 : Int) (k : KR) : OR := bif decide (y0 >= 0) then bif decide (y0 <= 2) then bif decide (y1 >= 0) then bif !decide (y1 <= 7) then k (Res.mk (.sc (.int .i64 1)) [] []) else bif decide (d_Id >= 0) then bif !decide (d_Id <= 1073741824) then k (Res.mk (.sc (.int .i64 1)) [] []) else bif decide (y2 >= 0) then bif !decide (y2 <= 1048576) then k (Res.mk (.sc (.int .i64 1)) [] []) else bif y4 == 1 then bif cOk d_Op then bif ckO d_Op != 0 then k (Res.mk (.sc (.int .i64 (ckO d_Op))) [] []) else bif !(y7 == 0 && (y8 == 0 && true)) then k (Res.mk (.sc (.int .i64 1)) [] []) else k (Res.mk (.sc (.int .i64 0)) [] []) else none else bif y4 == 2 then bif y4 == 2 then bif decide (zi d_Op.length > 0) then k (Res.mk (.sc (.int .i64 1)) [] []) else bif decide (y7 >= 0) then bif decide (y7 <= 2) then bif decide (y8 >= 0) then bif !decide (y8 <= 7) then k (Res.mk (.sc (.int .i64 1)) [] []) else k (Res.mk (.sc (.int .i64 0)) [] []) else k (Res.mk (.sc (.int .i64 1)) [] []) else k (Res.mk (.sc (.int .i64 1)) [] []) else k (Res.mk (.sc (.int .i64 1)) [] []) else k (Res.mk (.sc (.int .i64 3)) [] []) else bif y4 == 3 then bif decide (zi d_Op.length > 0) then k (Res.mk (.sc (.int .i64 1)) [] []) else bif decide (y7 >= 0) then bif decide (y7 <= 2) then bif decide (y8 >= 0) then bif !decide (y8 <= 7) then k (Res.mk (.sc (.int .i64 1)) [] []) else k (Res.mk (.sc (.int .i64 0)) [] []) else k (Res.mk (.sc (.int .i64 1)) [] []) else k (Res.mk (.sc (.int .i64 1)) [] []) else k (Res.mk (.sc (.int .i64 1)) [] []) else k (Res.mk (.sc (.int .i64 3)) [] []) else k (Res.mk (.sc (.int .i64 1)) [] []) else k (Res.mk (.sc (.int .i64 1)) [] []) else k (Res.mk (.sc (.int .i64 1)) [] []) else k (Res.mk (.sc (.int .i64 1)) [] []) else k (Res.mk (.sc (.int .i64 1)) [] [])
theorem e88 (f : Nat) (y0 y1 d_Id y2 : Int) (y3 : List PV) (y4 : Int) (y5 y6 : Bool) (d_Op : List PV) (y7 y8 : Int) (k : KR) : JI tau F88 Tryz.f88 (Tryz.f88.body.get!) JD5 [.ro] 0 [.st 105 [.st 67 [.sc (.int .i64 y0), .sc (.int .i64 y1)], .sc (.int .i64 d_Id), .sc (.int .i64 y2), .ar 28 y3, .sc (.int .i64 y4), .ro 53 y5 y6 d_Op, .st 67 [.sc (.int .i64 y7), .sc (.int .i64 y8)]]] [] k = g88 f y0 y1 d_Id y2 y3 y4 y5 y6 d_Op y7 y8 k := by kernel_rfl
theorem JO1 (f : Nat) : ∀ q ∈ Jf (Tryz.f88.body.get!) JD5, q.Ok tau Tryz.prog 0 := Jv (by kernel_rfl)
theorem JJf : Tryz.prog.funcs[88]? = some Tryz.f88 := by kernel_rfl
theorem JJg : Tryz.f88.body = some (Tryz.f88.body.get!) := by kernel_rfl
theorem JO2 : Enters Tryz.prog 88 := enters_of JJf (by kernel_rfl) JJg
def Jtx : Jy
 | [.st 105 [.st 67 [.sc (.int .i64 y0), .sc (.int .i64 y1)], .sc (.int .i64 d_Id), .sc (.int .i64 y2), .ar 28 y3, .sc (.int .i64 y4), .ro 53 y5 y6 d_Op, .st 67 [.sc (.int .i64 y7), .sc (.int .i64 y8)]]], [], k => g88 0 y0 y1 d_Id y2 y3 y4 y5 y6 d_Op y7 y8 k
 | _, _, _ => none
def s88 : Sig := { own := [], run := Jtx }
theorem JO3 : Jc tau Tryz.prog 88 s88 := JN Jn JD4 Jo JJf JJg JD5 [.ro] 0 [] Jtx (JO1 0) fun xs es k res hr => by
 unfold Jtx at hr
 split at hr
 · exact ⟨rfl, 0, (e88 0 _ _ _ _ _ _ _ _ _ _ _  _).trans hr⟩
 · cases hr
def JJh : Fns := Jr 113 Jtt (Jr 56 JxQ (F0))
theorem JxW : Jp tau Tryz.prog JJh := ((Js).add Jtr JDW).add Jtu JAS
def Jty : An := (.seq .leaf (.seq (.seq .leaf (.cond (.seq .leaf .leaf) .leaf)) (.seq (.seq .leaf (.block none (.seq .leaf (.cond (.seq .leaf (.seq (.seq .leaf (.cond (.seq .leaf .leaf) .leaf)) (.seq .leaf (.cond (.seq .leaf .leaf) .leaf)))) (.seq (.seq .leaf (.cond .leaf .leaf)) (.cond (.seq .leaf (.cond (.seq .leaf .leaf) .leaf)) (.seq .leaf .leaf))))))) (.seq .leaf .leaf))))
def JxX (f : Nat) (y0 y1 d_Id y2 : Int) (y3 : List PV) (y4 : Int) (y5 y6 : Bool) (d_Op : List PV) (y7 y8 : Int) (k : KR) : OR := bif !inA [y0, 2, y1, 7] then k (Res.mk (.sc (.int .i64 1)) [] []) else bif decide (d_Id < 0) then k (Res.mk (.sc (.int .i64 1)) [] []) else bif decide (d_Id > 1073741824) then k (Res.mk (.sc (.int .i64 1)) [] []) else bif decide (y2 < 0) then k (Res.mk (.sc (.int .i64 1)) [] []) else bif decide (y2 > 1048576) then k (Res.mk (.sc (.int .i64 1)) [] []) else bif y4 == 1 then bif cOk d_Op then bif ckO d_Op != 0 then k (Res.mk (.sc (.int .i64 (ckO d_Op))) [] []) else bif !(y7 == 0 && (y8 == 0 && true)) then k (Res.mk (.sc (.int .i64 1)) [] []) else k (Res.mk (.sc (.int .i64 0)) [] []) else none else bif y4 == 2 then bif y4 == 2 then bif decide (zi d_Op.length > 0) then k (Res.mk (.sc (.int .i64 1)) [] []) else bif !inA [y7, 2, y8, 7] then k (Res.mk (.sc (.int .i64 1)) [] []) else k (Res.mk (.sc (.int .i64 0)) [] []) else k (Res.mk (.sc (.int .i64 3)) [] []) else bif y4 == 3 then bif decide (zi d_Op.length > 0) then k (Res.mk (.sc (.int .i64 1)) [] []) else bif !inA [y7, 2, y8, 7] then k (Res.mk (.sc (.int .i64 1)) [] []) else k (Res.mk (.sc (.int .i64 0)) [] []) else k (Res.mk (.sc (.int .i64 3)) [] [])
theorem JO4 (f : Nat) (y0 y1 d_Id y2 : Int) (y3 : List PV) (y4 : Int) (y5 y6 : Bool) (d_Op : List PV) (y7 y8 : Int) (k : KR) : JI tau JJh Tryz.f109 (Tryz.f109.body.get!) Jty [.ro] 0 [.st 105 [.st 67 [.sc (.int .i64 y0), .sc (.int .i64 y1)], .sc (.int .i64 d_Id), .sc (.int .i64 y2), .ar 28 y3, .sc (.int .i64 y4), .ro 53 y5 y6 d_Op, .st 67 [.sc (.int .i64 y7), .sc (.int .i64 y8)]]] [] k = JxX f y0 y1 d_Id y2 y3 y4 y5 y6 d_Op y7 y8 k := by kernel_rfl
theorem JJi (f : Nat) : ∀ q ∈ Jf (Tryz.f109.body.get!) Jty, q.Ok tau Tryz.prog 0 := Jv (by kernel_rfl)
theorem JAZ : Tryz.prog.funcs[109]? = some Tryz.f109 := by kernel_rfl
theorem JA0 : Tryz.f109.body = some (Tryz.f109.body.get!) := by kernel_rfl
theorem JJj : Enters Tryz.prog 109 := enters_of JAZ (by kernel_rfl) JA0
def JmU : Jy
 | [.st 105 [.st 67 [.sc (.int .i64 y0), .sc (.int .i64 y1)], .sc (.int .i64 d_Id), .sc (.int .i64 y2), .ar 28 y3, .sc (.int .i64 y4), .ro 53 y5 y6 d_Op, .st 67 [.sc (.int .i64 y7), .sc (.int .i64 y8)]]], [], k => JxX 0 y0 y1 d_Id y2 y3 y4 y5 y6 d_Op y7 y8 k
 | _, _, _ => none
def JO5 : Sig := { own := [], run := JmU }
theorem JJk : Jc tau Tryz.prog 109 JO5 := JN Jn JxW Jo JAZ JA0 Jty [.ro] 0 [] JmU (JJi 0) fun xs es k res hr => by
 unfold JmU at hr
 split at hr
 · exact ⟨rfl, 0, (JO4 0 _ _ _ _ _ _ _ _ _ _ _  _).trans hr⟩
 · cases hr
def JJl : Fns := F0
theorem JxY : Jp tau Tryz.prog JJl := Js
def Jtz : An := (.seq .leaf (.seq (.seq .leaf (.cond .leaf .leaf)) (.seq (.seq .leaf (.cond (.seq .leaf .leaf) .leaf)) (.seq .leaf (.seq .leaf .leaf)))))
abbrev Jh9 (y0 : Bool) (y1 : Bool) (r_B : List PV) (r_P : Int) (y2 : Int) (n : Int) := (Res.mk (PV.ro 5 y0 (y0 || y1 && false) (List.drop (IntKind.i64.wrap (IntKind.i64.wrap (r_P + n) - n)).toNat (List.take (IntKind.i64.wrap (r_P + n)).toNat r_B))) [.box false 210 (PV.st 210 [PV.ro 5 y0 y1 r_B, PV.sc (.int .i64 (IntKind.i64.wrap (r_P + n))), PV.sc (.int .i64 y2)])] [])
def JxZ (f : Nat) (y0 y1 : Bool) (r_B : List PV) (r_P y2 n : Int) (k : KR) : OR := bif y2 == 0 then bif decide (IntKind.i64.wrap (zi r_B.length - r_P) < n) then k (Res.mk (.ro 5 true true []) [.box false 210 (PV.st 210 [.ro 5 y0 y1 r_B, .sc (.int .i64 r_P), .sc (.int .i64 8)])] []) else bif y2 != 0 then k (Res.mk (.ro 5 true true []) [.box false 210 (PV.st 210 [.ro 5 y0 y1 r_B, .sc (.int .i64 r_P), .sc (.int .i64 y2)])] []) else bif decide (0 <= IntKind.i64.wrap (IntKind.i64.wrap (r_P + n) - n)) && decide (0 <= IntKind.i64.wrap (r_P + n)) && decide ((IntKind.i64.wrap (IntKind.i64.wrap (r_P + n) - n)).toNat <= (IntKind.i64.wrap (r_P + n)).toNat) && decide ((IntKind.i64.wrap (r_P + n)).toNat <= r_B.length) && true then k (Jh9 y0 y1 r_B r_P y2 n) else none else bif y2 != 0 then k (Res.mk (.ro 5 true true []) [.box false 210 (PV.st 210 [.ro 5 y0 y1 r_B, .sc (.int .i64 r_P), .sc (.int .i64 y2)])] []) else bif decide (0 <= IntKind.i64.wrap (IntKind.i64.wrap (r_P + n) - n)) && decide (0 <= IntKind.i64.wrap (r_P + n)) && decide ((IntKind.i64.wrap (IntKind.i64.wrap (r_P + n) - n)).toNat <= (IntKind.i64.wrap (r_P + n)).toNat) && decide ((IntKind.i64.wrap (r_P + n)).toNat <= r_B.length) && true then k (Jh9 y0 y1 r_B r_P y2 n) else none
theorem JO6 (f : Nat) (y0 y1 : Bool) (r_B : List PV) (r_P y2 n : Int) (k : KR) : JI tau JJl Tryz.f144 (Tryz.f144.body.get!) Jtz [.ro] 0 [.ptr 0 [], .sc (.int .i64 n)] [.box false 210 (.st 210 [.ro 5 y0 y1 r_B, .sc (.int .i64 r_P), .sc (.int .i64 y2)])] k = JxZ f y0 y1 r_B r_P y2 n k := by kernel_rfl
theorem JJm (f : Nat) : ∀ q ∈ Jf (Tryz.f144.body.get!) Jtz, q.Ok tau Tryz.prog 1 := Jv (by kernel_rfl)
theorem JA1 : Tryz.prog.funcs[144]? = some Tryz.f144 := by kernel_rfl
theorem JA2 : Tryz.f144.body = some (Tryz.f144.body.get!) := by kernel_rfl
theorem JtA : Enters Tryz.prog 144 := enters_of JA1 (by kernel_rfl) JA2
def JmV : Jy
 | [.ptr 0 [], .sc (.int .i64 n)], [.box false 210 (.st 210 [.ro 5 y0 y1 r_B, .sc (.int .i64 r_P), .sc (.int .i64 y2)])], k => JxZ 0 y0 y1 r_B r_P y2 n k
 | _, _, _ => none
def JO7 : Sig := { own := [], run := JmV }
theorem JJn : Jc tau Tryz.prog 144 JO7 := JN Jn JxY Jo JA1 JA2 Jtz [.ro] 1 [] JmV (JJm 0) fun xs es k res hr => by
 unfold JmV at hr
 split at hr
 · exact ⟨rfl, 0, (JO6 0 _ _ _ _ _ _  _).trans hr⟩
 · cases hr
abbrev rfP (z f : Bool) (t : RT) : Ent := .box false 210 (.st 210 [.ro 5 z f t.B, .sc (.int .i64 t.P), .sc (.int .i64 t.e)])
def Jia : Jy
 | [.ptr 0 [], .sc (.int .i64 n)], [.box false 210 (.st 210 [.ro 5 z f B, .sc (.int .i64 P), .sc (.int .i64 e)])], k =>
  bif okT ⟨B, P, e⟩ && (decide (0 <= n) && decide (n <= 1000000000)) then k ⟨.ro 5 (!okS n.toNat (RT.view ⟨B, P, e⟩) || z) (!okS n.toNat (RT.view ⟨B, P, e⟩) || z) (Gt n.toNat (RT.view ⟨B, P, e⟩)), [rfP z f (Jh n.toNat ⟨B, P, e⟩)], []⟩ else none
 | _, _, _ => none
def JpA : Sig := { own := [], run := Jia }
theorem Jx0 (z f : Bool) (B : List PV) (P e n : Int) (hk : okT ⟨B, P, e⟩ = true) (hn : 0 <= n) (hn2 : n <= 1000000000) (k : KR) :
   JxZ 0 z f B P e n k = k ⟨.ro 5 (!okS n.toNat (RT.view ⟨B, P, e⟩) || z) (!okS n.toNat (RT.view ⟨B, P, e⟩) || z) (Gt n.toNat (RT.view ⟨B, P, e⟩)), [rfP z f (Jh n.toNat ⟨B, P, e⟩)], []⟩ := by
 rw [JmB, Zk, Xt]
 simp only [okT, Bool.and_eq_true, decide_eq_true_eq, Nat.ble_eq] at hk
 obtain ⟨k1, k2, k3, k4⟩ := hk
 have hz2 : (z || f && false) = z := by cases z <;> cases f <;> rfl
 obtain ⟨p, rfl⟩ := Int.eq_ofNat_of_zero_le k1
 obtain ⟨m, rfl⟩ := Int.eq_ofNat_of_zero_le hn
 have w1 : IntKind.i64.wrap (zi B.length - (p : Int)) = ((B.length - p : Nat) : Int) := by simp only [zi]; rw [wrap_i64 (by omega) (by omega)]; omega
 have w2 : IntKind.i64.wrap ((p : Int) + (m : Int)) = ((p + m : Nat) : Int) := by rw [wrap_i64 (by omega) (by omega)]; omega
 have w3 : IntKind.i64.wrap (((p + m : Nat) : Int) - (m : Int)) = (p : Int) := by rw [wrap_i64 (by omega) (by omega)]; omega
 have hdl : (B.drop p).length = B.length - p := List.length_drop
 unfold JxZ Jh9
 simp only [w1, w2, w3, Int.toNat_natCast, hz2]
 by_cases c2 : e = 0
 · subst c2
   simp only [beq_self_eq_true, cond_true]
   have h00 : ((0 : Int) != 0) = false := by decide
   by_cases c1 : ((B.length - p : Nat) : Int) < (m : Int)
   · rw [Ja (by simpa using c1)]
     have hb : Nat.ble m (B.length - p) = false := by
      cases h : Nat.ble m (B.length - p) with
      | false => rfl
      | true => rw [Nat.ble_eq] at h; omega
     simp [XH, J8, QZ, RT.view, hb]
   · have hb : Nat.ble m (B.length - p) = true := by rw [Nat.ble_eq]; omega
     simp only [h00, cond_false]
     rw [Jd (by simpa using c1), Ja (by simp; omega)]
     have hd : List.drop p (List.take (p + m) B) = List.take m (List.drop p B) := by rw [List.drop_take]; congr 1; omega
     rw [hd]
     simp [XH, J8, QZ, RT.view, hb]
 · have hb : (e == 0) = false := by simpa using c2
   have hb2 : (e != 0) = true := by simpa using c2
   simp only [hb, hb2, cond_true, cond_false]
   simp [XH, J8, QZ, RT.view, hb]
theorem JmW : Jc tau Tryz.prog 144 JpA := JJn.of fun xs es k res hr => by
 change Jia xs es k = some res at hr
 unfold Jia at hr
 split at hr
 · obtain ⟨hc, hr⟩ := Ju hr
   simp only [Bool.and_eq_true, decide_eq_true_eq] at hc
   exact (Jx0 _ _ _ _ _ _ hc.1 hc.2.1 hc.2.2 _).trans hr
 · cases hr
def JtB : Nat := 25
def JD6 : Fns := Jr 144 JpA (F0)
theorem JpB : Jp tau Tryz.prog JD6 := (Js).add JmW JtA
def Jib : Code := Qd (Tryz.f103.body.get!) [1, 1, 1, 0, 1, 0, 0]
def Jbn : Nm := [(3, .any), (4, .any), (5, .any)]
def Jic : Nm := [(3, .any)]
def JmX : An := (.seq (.seq .leaf (.cond .leaf .leaf)) (.seq (.block none .leaf) .leaf))
def JpC (r0 : Qt) : An := (.seq .leaf (.seq .leaf (.seq .leaf (.seq (.seq .leaf (.block none (.sum Jbn JtB r0))) (.seq .leaf .leaf)))))
abbrev JpD := Int -> Bool -> Bool -> List PV -> Int -> Bool -> Bool -> List PV -> Int -> Int -> OR
def Vq (f : Nat) (rc : JpD) (k0 : Int -> Bool -> Bool -> List PV -> Int -> Int -> OR) (v0 : Int) (v1 v2 : Bool) (v3 : List PV) (v4 : Int) (v5 v6 : Bool) (v7 : List PV) (v8 v9 : Int) : OR := bif decide (v4 >= 0) then bif decide (0 <= v4) && decide (v4 < zi v3.length) && PV.isInt IntKind.u8 (v3.getD v4.toNat PV.top) && true then rc (JL BinOp.or IntKind.u64 (XB IntKind.u64 v0 8) (IntKind.u64.wrap (v3.getD v4.toNat PV.top).int)) v1 v2 v3 (IntKind.i64.wrap (v4 - 1)) v5 v6 v7 v8 v9 else none else k0 v0 v5 v6 v7 v8 v9
def Zp (f : Nat) (k0 : Int -> Bool -> Bool -> List PV -> Int -> Int -> OR) : Nat -> JpD
 | 0 => fun _ _ _ _ _ _ _ _ _ _ => none
 | n + 1 => Vq f (Zp f k0 n) k0
def V4 (k : Kont) := fun x0 x1 x2 x3 x4 x5 => k (Ex.exit 0) (Ji Jic JtB [.sc (.int .u64 x0)] [(0, .box false 210 (PV.st 210 [.ro 5 x1 x2 x3, .sc (.int .i64 x4), .sc (.int .i64 x5)]))])
def Jid (f : Nat) (k : Kont) (n : Nat) (v0 : Int) (v1 v2 : Bool) (v3 : List PV) (v4 : Int) (v5 v6 : Bool) (v7 : List PV) (v8 v9 : Int) : OR := Jx tau 1 Jbn (fun s k => ev tau JD6 1 0 Jib (JmX ) s k) n (Ji Jbn JtB [.sc (.int .u64 v0), .ro 5 v1 v2 v3, .sc (.int .i64 v4)] [(0, .box false 210 (PV.st 210 [.ro 5 v5 v6 v7, .sc (.int .i64 v8), .sc (.int .i64 v9)]))]) (JG tau 1 Jic k)
theorem JtC (f : Nat) (k : Kont) (n : Nat) : Jid f k (n + 1) = Vq f (Jid f k n) (V4 k) := by kernel_rfl
theorem JkC (f : Nat) (k : Kont) : ∀ n, Jid f k n = Zp f (V4 k) n
 | 0 => rfl
 | n + 1 => (JtC f k n).trans (congrArg (fun r => Vq f r (V4 k)) (JkC f k n))
def GS (f : Nat) : List PV -> List (Nat × Ent) -> Kont -> OR
 | [.sc (.int .u64 v0), .ro 5 v1 v2 v3,
 PV.sc
  (Value.int IntKind.i64
   v4)], [(0,
  Ent.box false 210
   (PV.st 210
    [.ro 5 v5 v6 v7, .sc (.int .i64 v8),
     PV.sc
      (Value.int IntKind.i64
       v9)]))], k => Zp f (V4 k) f v0 v1 v2 v3 v4 v5 v6 v7 v8 v9
 | _, _, _ => none
theorem Jx1 (f : Nat) : Jf Jib JmX = [] := by kernel_rfl
theorem Jx2 (f : Nat) : (Item.l Jib Jbn JtB (GS f)).Ok tau Tryz.prog 1 := Jt Jn JpB Jo (x := JmX) (nm2 := Jic) (Jl _ _ (by rw [Jx1 f]; intro q hq; cases hq)) fun vs hp k res hr => by
 unfold GS at hr
 split at hr
 · rw [← JkC f] at hr; exact ⟨f, 0, hr⟩
 · cases hr
abbrev Jbo (r_B : List PV) (r_P : Int) (y2 : Int) := (RS.mk (List.drop (RT.mk r_B r_P y2).P.toNat (RT.mk r_B r_P y2).B) (RT.mk r_B r_P y2).e)
def JD7 (f : Nat) (y0 y1 : Bool) (r_B : List PV) (r_P y2 : Int) (k : KR) : OR := bif okT (RT.mk r_B r_P y2) && true then Zp f (fun x0_0 x1_0 x2_0 JP x4_0 x5_0 => k (Res.mk (.sc (.int .i64 (IntKind.i64.wrap x0_0))) [.box false 210 (PV.st 210 [.ro 5 x1_0 x2_0 JP, .sc (.int .i64 x4_0), .sc (.int .i64 x5_0)])] [])) f (0) (!okS 8 (Jbo r_B r_P y2) || y0) (!okS 8 (Jbo r_B r_P y2) || y0) (Gt 8 (Jbo r_B r_P y2)) (IntKind.i64.wrap (zi (Gt 8 (Jbo r_B r_P y2)).length - 1)) y0 y1 ((Jh 8 (RT.mk r_B r_P y2)).B) ((Jh 8 (RT.mk r_B r_P y2)).P) ((Jh 8 (RT.mk r_B r_P y2)).e) else none
theorem JO8 (f : Nat) (y0 y1 : Bool) (r_B : List PV) (r_P y2 : Int) (k : KR) : JI tau JD6 Tryz.f103 (Tryz.f103.body.get!) (JpC (GS f)) [.ro] 0 [.ptr 0 []] [.box false 210 (.st 210 [.ro 5 y0 y1 r_B, .sc (.int .i64 r_P), .sc (.int .i64 y2)])] k = JD7 f y0 y1 r_B r_P y2 k := by kernel_rfl
theorem JJo (f : Nat) : Jf (Tryz.f103.body.get!) (JpC (GS f)) = [.l Jib Jbn JtB (GS f)] := by kernel_rfl
theorem JJp (f : Nat) : ∀ q ∈ Jf (Tryz.f103.body.get!) (JpC (GS f)), q.Ok tau Tryz.prog 1 := by rw [JJo f]; exact JJ (Jx2 f) (fun _ h => nomatch h)
theorem JA3 : Tryz.prog.funcs[103]? = some Tryz.f103 := by kernel_rfl
theorem JA4 : Tryz.f103.body = some (Tryz.f103.body.get!) := by kernel_rfl
theorem JtD : Enters Tryz.prog 103 := enters_of JA3 (by kernel_rfl) JA4
def JJq : Fns := Jr 144 JpA (F0)
theorem Jx3 : Jp tau Tryz.prog JJq := (Js).add JmW JtA
def JtE : An := (.seq .leaf (.seq .leaf (.seq (.seq .leaf (.cond (.seq .leaf .leaf) .leaf)) (.seq .leaf .leaf))))
abbrev Jbp (r_B : List PV) (r_P : Int) (y2 : Int) := (Gt 1 (RS.mk (List.drop (RT.mk r_B r_P y2).P.toNat (RT.mk r_B r_P y2).B) (RT.mk r_B r_P y2).e))
def Jx4 (f : Nat) (y0 y1 : Bool) (r_B : List PV) (r_P y2 : Int) (k : KR) : OR := bif okT (RT.mk r_B r_P y2) && true then bif zi (Jbp r_B r_P y2).length == 0 then k (Res.mk (.sc (.int .i64 0)) [.box false 210 (PV.st 210 [.ro 5 y0 y1 (Jh 1 (RT.mk r_B r_P y2)).B, .sc (.int .i64 (Jh 1 (RT.mk r_B r_P y2)).P), .sc (.int .i64 (Jh 1 (RT.mk r_B r_P y2)).e)])] []) else bif decide (0 < zi (Jbp r_B r_P y2).length) && PV.isInt IntKind.u8 ((Jbp r_B r_P y2).getD 0 PV.top) && true then k (Res.mk (.sc (.int .i64 (IntKind.i64.wrap ((Jbp r_B r_P y2).getD 0 PV.top).int))) [.box false 210 (PV.st 210 [.ro 5 y0 y1 (Jh 1 (RT.mk r_B r_P y2)).B, .sc (.int .i64 (Jh 1 (RT.mk r_B r_P y2)).P), .sc (.int .i64 (Jh 1 (RT.mk r_B r_P y2)).e)])] []) else none else none
theorem JO9 (f : Nat) (y0 y1 : Bool) (r_B : List PV) (r_P y2 : Int) (k : KR) : JI tau JJq Tryz.f105 (Tryz.f105.body.get!) JtE [.ro] 0 [.ptr 0 []] [.box false 210 (.st 210 [.ro 5 y0 y1 r_B, .sc (.int .i64 r_P), .sc (.int .i64 y2)])] k = Jx4 f y0 y1 r_B r_P y2 k := by kernel_rfl
theorem JJr (f : Nat) : ∀ q ∈ Jf (Tryz.f105.body.get!) JtE, q.Ok tau Tryz.prog 1 := Jv (by kernel_rfl)
theorem JA5 : Tryz.prog.funcs[105]? = some Tryz.f105 := by kernel_rfl
theorem JA6 : Tryz.f105.body = some (Tryz.f105.body.get!) := by kernel_rfl
theorem JtF : Enters Tryz.prog 105 := enters_of JA5 (by kernel_rfl) JA6
def JmY : Jy
 | [.ptr 0 []], [.box false 210 (.st 210 [.ro 5 y0 y1 r_B, .sc (.int .i64 r_P), .sc (.int .i64 y2)])], k => Jx4 0 y0 y1 r_B r_P y2 k
 | _, _, _ => none
def JPa : Sig := { own := [], run := JmY }
theorem JJs : Jc tau Tryz.prog 105 JPa := JN Jn Jx3 Jo JA5 JA6 JtE [.ro] 1 [] JmY (JJr 0) fun xs es k res hr => by
 unfold JmY at hr
 split at hr
 · exact ⟨rfl, 0, (JO9 0 _ _ _ _ _  _).trans hr⟩
 · cases hr
def JJt : Fns := Jr 144 JpA (F0)
theorem Jx5 : Jp tau Tryz.prog JJt := (Js).add JmW JtA
def JtG : An := (.seq .leaf (.seq .leaf (.seq (.seq .leaf (.cond (.seq .leaf .leaf) .leaf)) (.seq .leaf .leaf))))
abbrev Yr (r_B : List PV) (r_P : Int) (y2 : Int) := (Gt 2 (RS.mk (List.drop (RT.mk r_B r_P y2).P.toNat (RT.mk r_B r_P y2).B) (RT.mk r_B r_P y2).e))
abbrev Zq (r_B : List PV) (r_P : Int) (y2 : Int) := (IntKind.i64.wrap ((Yr r_B r_P y2).getD 0 PV.top).int + IntKind.i64.wrap (256 * IntKind.i64.wrap ((Yr r_B r_P y2).getD 1 PV.top).int))
abbrev Ys (r_B : List PV) (r_P : Int) (y2 : Int) := (RT.mk (Jh 2 (RT.mk r_B r_P y2)).B (Jh 2 (RT.mk r_B r_P y2)).P (Jh 2 (RT.mk r_B r_P y2)).e)
abbrev JdU (r_B : List PV) (r_P : Int) (y2 : Int) := (Jh (IntKind.i64.wrap (Zq r_B r_P y2)).toNat (Jh 2 (RT.mk r_B r_P y2)))
def Jx6 (f : Nat) (y0 y1 : Bool) (r_B : List PV) (r_P y2 : Int) (k : KR) : OR := bif okT (RT.mk r_B r_P y2) && true then bif zi (Yr r_B r_P y2).length == 0 then k (Res.mk (.sc (.string (ByteArray.mk (Array.mk [])))) [.box false 210 (PV.st 210 [.ro 5 y0 y1 (Jh 2 (RT.mk r_B r_P y2)).B, .sc (.int .i64 (Jh 2 (RT.mk r_B r_P y2)).P), .sc (.int .i64 (Jh 2 (RT.mk r_B r_P y2)).e)])] []) else bif decide (0 < zi (Yr r_B r_P y2).length) && PV.isInt IntKind.u8 ((Yr r_B r_P y2).getD 0 PV.top) && true then bif decide (1 < zi (Yr r_B r_P y2).length) && PV.isInt IntKind.u8 ((Yr r_B r_P y2).getD 1 PV.top) && true then bif okT (Jh 2 (RT.mk r_B r_P y2)) && (decide (0 <= IntKind.i64.wrap (Zq r_B r_P y2)) && decide (IntKind.i64.wrap (Zq r_B r_P y2) <= 1000000000)) then bif Jk IntKind.u8 (Gt (IntKind.i64.wrap (Zq r_B r_P y2)).toNat (RS.mk (List.drop (Ys r_B r_P y2).P.toNat (Ys r_B r_P y2).B) (Ys r_B r_P y2).e)) && true then k (Res.mk (.sc (.string (ByteArray.mk (Array.mk (JW (!okS (IntKind.i64.wrap (Zq r_B r_P y2)).toNat (Ys r_B r_P y2).view || y0, Gt (IntKind.i64.wrap (Zq r_B r_P y2)).toNat (RS.mk (List.drop (Ys r_B r_P y2).P.toNat (Ys r_B r_P y2).B) (Ys r_B r_P y2).e)).snd))))) [.box false 210 (PV.st 210 [.ro 5 y0 y1 (JdU r_B r_P y2).B, .sc (.int .i64 (JdU r_B r_P y2).P), .sc (.int .i64 (JdU r_B r_P y2).e)])] []) else none else none else none else none else none
theorem JPb (f : Nat) (y0 y1 : Bool) (r_B : List PV) (r_P y2 : Int) (k : KR) : JI tau JJt Tryz.f106 (Tryz.f106.body.get!) JtG [.ro] 0 [.ptr 0 []] [.box false 210 (.st 210 [.ro 5 y0 y1 r_B, .sc (.int .i64 r_P), .sc (.int .i64 y2)])] k = Jx6 f y0 y1 r_B r_P y2 k := by kernel_rfl
theorem JJu (f : Nat) : ∀ q ∈ Jf (Tryz.f106.body.get!) JtG, q.Ok tau Tryz.prog 1 := Jv (by kernel_rfl)
theorem JA7 : Tryz.prog.funcs[106]? = some Tryz.f106 := by kernel_rfl
theorem JA8 : Tryz.f106.body = some (Tryz.f106.body.get!) := by kernel_rfl
theorem JA9 : Enters Tryz.prog 106 := enters_of JA7 (by kernel_rfl) JA8
def JmZ : Jy
 | [.ptr 0 []], [.box false 210 (.st 210 [.ro 5 y0 y1 r_B, .sc (.int .i64 r_P), .sc (.int .i64 y2)])], k => Jx6 0 y0 y1 r_B r_P y2 k
 | _, _, _ => none
def JPc : Sig := { own := [], run := JmZ }
theorem JJv : Jc tau Tryz.prog 106 JPc := JN Jn Jx5 Jo JA7 JA8 JtG [.ro] 1 [] JmZ (JJu 0) fun xs es k res hr => by
 unfold JmZ at hr
 split at hr
 · exact ⟨rfl, 0, (JPb 0 _ _ _ _ _  _).trans hr⟩
 · cases hr
def JJw : Fns := F0
theorem Jx7 : Jp tau Tryz.prog JJw := Js
def JtH : An := (.seq .leaf (.cond .leaf .leaf))
def JJx (f : Nat) (y0 y1 : Bool) (r_b : List PV) (r_e e : Int) (k : KR) : OR := bif r_e == 0 then k (Res.mk (.tup []) [.box false 197 (PV.st 197 [.ro 5 y0 y1 r_b, .sc (.int .i64 e)])] []) else k (Res.mk (.tup []) [.box false 197 (PV.st 197 [.ro 5 y0 y1 r_b, .sc (.int .i64 r_e)])] [])
theorem JPd (f : Nat) (y0 y1 : Bool) (r_b : List PV) (r_e e : Int) (k : KR) : JI tau JJw Tryz.f129 (Tryz.f129.body.get!) JtH [] 0 [.ptr 0 [], .sc (.int .i64 e)] [.box false 197 (.st 197 [.ro 5 y0 y1 r_b, .sc (.int .i64 r_e)])] k = JJx f y0 y1 r_b r_e e k := by kernel_rfl
theorem JJy (f : Nat) : ∀ q ∈ Jf (Tryz.f129.body.get!) JtH, q.Ok tau Tryz.prog 1 := Jv (by kernel_rfl)
theorem JBa : Tryz.prog.funcs[129]? = some Tryz.f129 := by kernel_rfl
theorem JBb : Tryz.f129.body = some (Tryz.f129.body.get!) := by kernel_rfl
theorem JBc : Enters Tryz.prog 129 := enters_of JBa (by kernel_rfl) JBb
def Jm0 : Jy
 | [.ptr 0 [], .sc (.int .i64 e)], [.box false 197 (.st 197 [.ro 5 y0 y1 r_b, .sc (.int .i64 r_e)])], k => JJx 0 y0 y1 r_b r_e e k
 | _, _, _ => none
def JD8 : Sig := { own := [], run := Jm0 }
theorem JBd : Jc tau Tryz.prog 129 JD8 := JN Jn Jx7 Jo JBa JBb JtH [] 1 [] Jm0 (JJy 0) fun xs es k res hr => by
 unfold Jm0 at hr
 split at hr
 · exact ⟨rfl, 0, (JPd 0 _ _ _ _ _  _).trans hr⟩
 · cases hr
def JJz : Fns := Jr 129 JD8 (F0)
theorem Jx8 : Jp tau Tryz.prog JJz := (Js).add JBd JBc
def JtI : An := (.seq .leaf (.seq (.seq .leaf (.cond .leaf .leaf)) (.seq (.seq .leaf (.cond (.seq .leaf .leaf) .leaf)) (.seq .leaf (.seq .leaf (.seq .leaf .leaf))))))
abbrev Jie (y0 : Bool) (y1 : Bool) (r_b : List PV) (r_e : Int) (n : Int) := (Res.mk (PV.ro 5 y0 (y0 || y1 && false) (List.take n.toNat r_b)) [.box false 197 (PV.st 197 [PV.ro 5 y0 (y0 || y1 && true) (List.drop n.toNat (List.take r_b.length r_b)), PV.sc (.int .i64 r_e)])] [])
def Jx9 (f : Nat) (y0 y1 : Bool) (r_b : List PV) (r_e n : Int) (k : KR) : OR := bif decide (n > zi r_b.length) then bif r_e == 0 then k (Res.mk (.ro 5 true true []) [.box false 197 (PV.st 197 [.ro 5 y0 y1 r_b, .sc (.int .i64 8)])] []) else bif r_e != 0 then k (Res.mk (.ro 5 true true []) [.box false 197 (PV.st 197 [.ro 5 y0 y1 r_b, .sc (.int .i64 r_e)])] []) else bif decide (0 <= n) && true && decide (n.toNat <= r_b.length) && true then bif decide (0 <= n) && true && decide (n.toNat <= r_b.length) && decide (r_b.length <= r_b.length) && true then k (Jie y0 y1 r_b r_e n) else none else none else bif r_e != 0 then k (Res.mk (.ro 5 true true []) [.box false 197 (PV.st 197 [.ro 5 y0 y1 r_b, .sc (.int .i64 r_e)])] []) else bif decide (0 <= n) && true && decide (n.toNat <= r_b.length) && true then bif decide (0 <= n) && true && decide (n.toNat <= r_b.length) && decide (r_b.length <= r_b.length) && true then k (Jie y0 y1 r_b r_e n) else none else none
theorem JPe (f : Nat) (y0 y1 : Bool) (r_b : List PV) (r_e n : Int) (k : KR) : JI tau JJz Tryz.f128 (Tryz.f128.body.get!) JtI [.ro] 0 [.ptr 0 [], .sc (.int .i64 n)] [.box false 197 (.st 197 [.ro 5 y0 y1 r_b, .sc (.int .i64 r_e)])] k = Jx9 f y0 y1 r_b r_e n k := by kernel_rfl
theorem JJA (f : Nat) : ∀ q ∈ Jf (Tryz.f128.body.get!) JtI, q.Ok tau Tryz.prog 1 := Jv (by kernel_rfl)
theorem JBe : Tryz.prog.funcs[128]? = some Tryz.f128 := by kernel_rfl
theorem JBf : Tryz.f128.body = some (Tryz.f128.body.get!) := by kernel_rfl
theorem JBg : Enters Tryz.prog 128 := enters_of JBe (by kernel_rfl) JBf
def Jm1 : Jy
 | [.ptr 0 [], .sc (.int .i64 n)], [.box false 197 (.st 197 [.ro 5 y0 y1 r_b, .sc (.int .i64 r_e)])], k => Jx9 0 y0 y1 r_b r_e n k
 | _, _, _ => none
def JPf : Sig := { own := [], run := Jm1 }
theorem JJB : Jc tau Tryz.prog 128 JPf := JN Jn Jx8 Jo JBe JBf JtI [.ro] 1 [] Jm1 (JJA 0) fun xs es k res hr => by
 unfold Jm1 at hr
 split at hr
 · exact ⟨rfl, 0, (JPe 0 _ _ _ _ _  _).trans hr⟩
 · cases hr
abbrev rdP (z f : Bool) (s : RS) : Ent := .box false 197 (.st 197 [.ro 5 z f s.b, .sc (.int .i64 s.e)])
def Jif : Jy
 | [.ptr 0 [], .sc (.int .i64 n)], [.box false 197 (.st 197 [.ro 5 z f b, .sc (.int .i64 e)])], k =>
  bif (!z || f) && decide (0 <= n) then k ⟨.ro 5 (!okS n.toNat ⟨b, e⟩ || z) (!okS n.toNat ⟨b, e⟩ || z) (Gt n.toNat ⟨b, e⟩), [rdP z f (Jb n.toNat ⟨b, e⟩)], []⟩ else none
 | _, _, _ => none
def JtJ : Sig := { own := [], run := Jif }
theorem Jya (z f : Bool) (b : List PV) (e n : Int) (hz : (!z || f) = true) (hn : 0 <= n) (k : KR) :
   Jx9 0 z f b e n k = k ⟨.ro 5 (!okS n.toNat ⟨b, e⟩ || z) (!okS n.toNat ⟨b, e⟩ || z) (Gt n.toNat ⟨b, e⟩), [rdP z f (Jb n.toNat ⟨b, e⟩)], []⟩ := by
 rw [JmB, Zk, X2]
 have hzf : (z || f) = f := by cases z <;> cases f <;> simp_all
 have hz2 : (z || f && false) = z := by cases z <;> cases f <;> rfl
 unfold Jx9 Jie
 by_cases c1 : n > zi b.length
 · have hk : Nat.ble n.toNat b.length = false := by
     cases h : Nat.ble n.toNat b.length with
     | false => rfl
     | true => rw [Nat.ble_eq] at h; simp only [zi] at c1; omega
   rw [Ja (by simpa using c1)]
   by_cases c2 : e = 0
   · subst c2
     simp only [beq_self_eq_true, cond_true]
     simp [XH, J8, Qi, hk]
   · have hb : (e == 0) = false := by simpa using c2
     have hb2 : (e != 0) = true := by simpa using c2
     simp only [hb, hb2, cond_true, cond_false]
     simp [XH, J8, Qi, hb]
 · rw [Jd (by simpa using c1)]
   by_cases c2 : e = 0
   · subst c2
     have hk : Nat.ble n.toNat b.length = true := by rw [Nat.ble_eq]; simp only [zi] at c1; omega
     have hk' : n.toNat <= b.length := by rw [Nat.ble_eq] at hk; exact hk
     have h00 : ((0 : Int) != 0) = false := by decide
     simp only [h00, cond_false]
     rw [Ja (by simp; omega), Ja (by simp; omega)]
     simp [XH, J8, Qi, hk, hzf, hz2]
   · have hb : (e == 0) = false := by simpa using c2
     have hb2 : (e != 0) = true := by simpa using c2
     simp only [hb2, cond_true]
     simp [XH, J8, Qi, hb]
theorem JtK : Jc tau Tryz.prog 128 JtJ := JJB.of fun xs es k res hr => by
 change Jif xs es k = some res at hr
 unfold Jif at hr
 split at hr
 · obtain ⟨hc, hr⟩ := Ju hr
   simp only [Bool.and_eq_true, decide_eq_true_eq] at hc
   exact (Jya _ _ _ _ _ hc.1 hc.2 _).trans hr
 · cases hr
def JtL : Nat := 27
def JD9 : Fns := Jr 128 JtJ (F0)
theorem JpE : Jp tau Tryz.prog JD9 := (Js).add JtK JBg
def Jig : Code := Qd (Tryz.f127.body.get!) [1, 1, 0, 1, 0, 0]
def Jbq : Nm := [(5, .any), (10, .any), (11, .any), (12, .any)]
def Jih : Nm := [(5, .any)]
def Jm2 : An := (.seq .leaf (.seq (.cond .leaf .leaf) (.seq (.block none (.seq .leaf .leaf)) .leaf)))
def JpF (r0 : Qt) : An := (.seq .leaf (.seq .leaf (.seq (.seq .leaf (.block none (.sum Jbq JtL r0))) (.seq .leaf .leaf))))
abbrev JpG := Int -> Bool -> Bool -> List PV -> Int -> Int -> Bool -> Bool -> List PV -> Int -> OR
def Vr (f : Nat) (rc : JpG) (k0 : Int -> Bool -> Bool -> List PV -> Int -> OR) (v0 : Int) (v1 v2 : Bool) (v3 : List PV) (v4 v5 : Int) (v6 v7 : Bool) (v8 : List PV) (v9 : Int) : OR := bif decide (v5 < v4) then bif decide (0 <= v5) && decide (v5 < zi v3.length) && PV.isInt IntKind.u8 (v3.getD v5.toNat PV.top) && true then bif decide (0 <= IntKind.i64.wrap (8 * v5)) && true then rc (JL BinOp.or IntKind.u64 v0 (XB IntKind.u64 (IntKind.u64.wrap (v3.getD v5.toNat PV.top).int) (IntKind.i64.wrap (8 * v5)))) v1 v2 v3 v4 (IntKind.i64.wrap (v5 + 1)) v6 v7 v8 v9 else none else none else k0 v0 v6 v7 v8 v9
def Zr (f : Nat) (k0 : Int -> Bool -> Bool -> List PV -> Int -> OR) : Nat -> JpG
 | 0 => fun _ _ _ _ _ _ _ _ _ _ => none
 | n + 1 => Vr f (Zr f k0 n) k0
def V5 (k : Kont) := fun x0 x1 x2 x3 x4 => k (Ex.exit 0) (Ji Jih JtL [.sc (.int .u64 x0)] [(0, .box false 197 (PV.st 197 [.ro 5 x1 x2 x3, .sc (.int .i64 x4)]))])
def Jii (f : Nat) (k : Kont) (n : Nat) (v0 : Int) (v1 v2 : Bool) (v3 : List PV) (v4 v5 : Int) (v6 v7 : Bool) (v8 : List PV) (v9 : Int) : OR := Jx tau 1 Jbq (fun s k => ev tau JD9 1 0 Jig (Jm2 ) s k) n (Ji Jbq JtL [.sc (.int .u64 v0), .ro 5 v1 v2 v3, .sc (.int .i64 v4), .sc (.int .i64 v5)] [(0, .box false 197 (PV.st 197 [.ro 5 v6 v7 v8, .sc (.int .i64 v9)]))]) (JG tau 1 Jih k)
theorem JtM (f : Nat) (k : Kont) (n : Nat) : Jii f k (n + 1) = Vr f (Jii f k n) (V5 k) := by kernel_rfl
theorem JkD (f : Nat) (k : Kont) : ∀ n, Jii f k n = Zr f (V5 k) n
 | 0 => rfl
 | n + 1 => (JtM f k n).trans (congrArg (fun r => Vr f r (V5 k)) (JkD f k n))
def GT (f : Nat) : List PV -> List (Nat × Ent) -> Kont -> OR
 | [.sc (.int .u64 v0), .ro 5 v1 v2 v3, .sc (.int .i64 v4),
 PV.sc
  (Value.int IntKind.i64
   v5)], [(0,
  Ent.box false 197
   (PV.st 197
    [.ro 5 v6 v7 v8,
     PV.sc
      (Value.int IntKind.i64
       v9)]))], k => Zr f (V5 k) f v0 v1 v2 v3 v4 v5 v6 v7 v8 v9
 | _, _, _ => none
theorem Jyb (f : Nat) : Jf Jig Jm2 = [] := by kernel_rfl
theorem Jyc (f : Nat) : (Item.l Jig Jbq JtL (GT f)).Ok tau Tryz.prog 1 := Jt Jn JpE Jo (x := Jm2) (nm2 := Jih) (Jl _ _ (by rw [Jyb f]; intro q hq; cases hq)) fun vs hp k res hr => by
 unfold GT at hr
 split at hr
 · rw [← JkD f] at hr; exact ⟨f, 0, hr⟩
 · cases hr
def JEa (f : Nat) (y0 y1 : Bool) (r_b : List PV) (r_e n : Int) (k : KR) : OR := bif (!y0 || y1) && decide (0 <= n) then Zr f (fun x0_0 x1_0 x2_0 JP x4_0 => k (Res.mk (.sc (.int .i64 (IntKind.i64.wrap x0_0))) [.box false 197 (PV.st 197 [.ro 5 x1_0 x2_0 JP, .sc (.int .i64 x4_0)])] [])) f (0) (!okS n.toNat (RS.mk r_b r_e) || y0) (!okS n.toNat (RS.mk r_b r_e) || y0) (Gt n.toNat (RS.mk r_b r_e)) (zi (Gt n.toNat (RS.mk r_b r_e)).length) (0) y0 y1 ((Jb n.toNat (RS.mk r_b r_e)).b) ((Jb n.toNat (RS.mk r_b r_e)).e) else none
theorem JPg (f : Nat) (y0 y1 : Bool) (r_b : List PV) (r_e n : Int) (k : KR) : JI tau JD9 Tryz.f127 (Tryz.f127.body.get!) (JpF (GT f)) [.ro] 0 [.ptr 0 [], .sc (.int .i64 n)] [.box false 197 (.st 197 [.ro 5 y0 y1 r_b, .sc (.int .i64 r_e)])] k = JEa f y0 y1 r_b r_e n k := by kernel_rfl
theorem JJC (f : Nat) : Jf (Tryz.f127.body.get!) (JpF (GT f)) = [.l Jig Jbq JtL (GT f)] := by kernel_rfl
theorem JJD (f : Nat) : ∀ q ∈ Jf (Tryz.f127.body.get!) (JpF (GT f)), q.Ok tau Tryz.prog 1 := by rw [JJC f]; exact JJ (Jyc f) (fun _ h => nomatch h)
theorem JBh : Tryz.prog.funcs[127]? = some Tryz.f127 := by kernel_rfl
theorem JBi : Tryz.f127.body = some (Tryz.f127.body.get!) := by kernel_rfl
theorem JtN : Enters Tryz.prog 127 := enters_of JBh (by kernel_rfl) JBi
theorem JgT : ∀ (l : List Int) (x : Int), W4 (l ++ [x]) = W4 l + x * 256 ^ l.length
 | [], x => by simp [W4]
 | y :: r, x => by
  simp only [List.cons_append, W4, JgT r x, List.length_cons, Int.pow_succ]
  have : x * (256 ^ r.length * 256) = 256 * (x * 256 ^ r.length) := by rw [Int.mul_comm 256, Int.mul_assoc]
  omega
theorem Jm3 (i : Nat) : (256 : Int) ^ i = 2 ^ (8 * i) := by rw [Int.pow_mul]; rfl
theorem JkE {v y : Int} {j : Nat} (hj : j <= 64) (hv0 : 0 <= v) (hv : v < 2 ^ j) (hy0 : 0 <= y) (hy : y * 2 ^ j < 2 ^ 64) : JL .or .u64 v (y * 2 ^ j) = v + y * 2 ^ j := by
 obtain ⟨a, rfl⟩ := Int.eq_ofNat_of_zero_le hv0
 obtain ⟨b, rfl⟩ := Int.eq_ofNat_of_zero_le hy0
 have e1 : ((b : Int)) * 2 ^ j = ((b * 2 ^ j : Nat) : Int) := by rw [Int.natCast_mul, Int.natCast_pow]; rfl
 have e2 : ((2 : Int)) ^ j = ((2 ^ j : Nat) : Int) := by rw [Int.natCast_pow]; rfl
 have e3 : ((2 : Int)) ^ 64 = ((2 ^ 64 : Nat) : Int) := by rw [Int.natCast_pow]; rfl
 rw [e2] at hv
 rw [e1, e3] at hy
 have ha : a < 2 ^ j := Int.ofNat_lt.1 hv
 have hb : b * 2 ^ j < 2 ^ 64 := Int.ofNat_lt.1 hy
 rw [e1]
 have hor : a ||| b * 2 ^ j = a + b * 2 ^ j := by
  have h := Nat.shiftLeft_add_eq_or_of_lt ha b
  rw [Nat.shiftLeft_eq] at h
  rw [Nat.or_comm, ← h, Nat.add_comm]
 have ha2 : a < 2 ^ 64 := Nat.lt_of_lt_of_le ha (Nat.pow_le_pow_right (by omega) hj)
 have hsum : a + b * 2 ^ j < 2 ^ 64 := by rw [← hor]; exact Nat.or_lt_two_pow ha2 hb
 generalize hc : b * 2 ^ j = c at *
 have ht : (BitVec.ofInt 64 (a : Int) ||| BitVec.ofInt 64 (c : Int)).toNat = a + c := by
  rw [BitVec.toNat_or, BitVec.ofInt_natCast, BitVec.ofInt_natCast, BitVec.toNat_ofNat, BitVec.toNat_ofNat, Nat.mod_eq_of_lt ha2, Nat.mod_eq_of_lt hb, hor]
 show IntKind.u64.wrap ((BitVec.ofInt 64 (a : Int) ||| BitVec.ofInt 64 (c : Int)).toNat : Int) = _
 rw [ht, QX]
 have h64 : (2 : Nat) ^ 64 = 18446744073709551616 := by decide
 rw [h64] at hsum
 omega
theorem JtO {x : Int} (h0 : 0 <= x) (h1 : x < 256) {i : Nat} (hi : i < 8) : XB .u64 (IntKind.u64.wrap x) (8 * (i : Int)) = x * 2 ^ (8 * i) := by
 rw [QX, Int.emod_eq_of_lt h0 (by omega), XB, QX]
 have : min (8 * (i : Int)).toNat IntKind.u64.bits = 8 * i := by
  have : IntKind.u64.bits = 64 := rfl
  rw [this]; omega
 rw [this]
 have hp : (2 : Int) ^ (8 * i) <= 2 ^ 56 := by
  have h : (2 ^ (8 * i) : Nat) <= 2 ^ 56 := Nat.pow_le_pow_right (by omega) (by omega)
  have e2 : ((2 : Int)) ^ (8 * i) = ((2 ^ (8 * i) : Nat) : Int) := by rw [Int.natCast_pow]; rfl
  have e3 : ((2 : Int)) ^ 56 = ((2 ^ 56 : Nat) : Int) := by rw [Int.natCast_pow]; rfl
  rw [e2, e3]; exact Int.ofNat_le.2 h
 have hp0 : (0 : Int) <= 2 ^ (8 * i) := Int.le_of_lt (by
   have e2 : ((2 : Int)) ^ (8 * i) = ((2 ^ (8 * i) : Nat) : Int) := by rw [Int.natCast_pow]; rfl
   rw [e2]; exact Int.ofNat_lt.2 (Nat.two_pow_pos _))
 have h56 : (2 : Int) ^ 56 = 72057594037927936 := by decide
 rw [h56] at hp
 have hm : x * 2 ^ (8 * i) <= 255 * 2 ^ (8 * i) := Int.mul_le_mul_of_nonneg_right (by omega) hp0
 have hm0 : 0 <= x * 2 ^ (8 * i) := Int.mul_nonneg h0 hp0
 exact Int.emod_eq_of_lt hm0 (by omega)
theorem JtP (L : List Int) (hL : ∀ x ∈ L, 0 <= x /\ x < 256) (h8 : L.length <= 8) (f : Nat) (k0 : Int -> Bool -> Bool -> List PV -> Int -> OR) (a b c d : Bool) (R : List PV) (e : Int) : ∀ (dd i n : Nat), i + dd = L.length -> dd < n ->
  Zr f k0 n (W4 (L.take i)) a b (pu .u8 L) (L.length : Int) (i : Int) c d R e = k0 (W4 L) c d R e
 | 0, i, n + 1, h, hn => by
   obtain rfl : i = L.length := by omega
   simp only [Zr, Vr, List.take_length]
   exact Jd (by simp)
 | dd + 1, i, n + 1, h, hn => by
   have g1 := tI i
   have h1 := wI (i := i) (by omega)
   have h2 : IntKind.i64.wrap (8 * (i : Int)) = 8 * (i : Int) := wrap_i64 (by omega) (by omega)
   have hi : i < L.length := by omega
   have hx := hL (L.getD i 0) (by rw [List.getD_eq_getElem?_getD, List.getElem?_eq_getElem hi]; exact List.getElem_mem hi)
   simp only [Zr, Vr, g1, h1, h2]
   rw [J7 hi, QH hi]
   refine (Ja (by simp; omega)).trans ((Ja (by simp [zi]; omega)).trans ((Ja (by simp; omega)).trans ?_))
   have ht : L.take (i + 1) = L.take i ++ [L.getD i 0] := by
    rw [List.take_add_one, List.getD_eq_getElem?_getD, List.getElem?_eq_getElem hi]; rfl
   have hb := Yp (L.take i) fun x hx => hL x (List.mem_of_mem_take hx)
   have hlen : (L.take i).length = i := by rw [List.length_take]; omega
   rw [hlen, Jm3] at hb
   have hs := JtO hx.1 hx.2 (i := i) (by omega)
   have hlt : L.getD i 0 * 2 ^ (8 * i) < 2 ^ 64 := by
    have hp : (2 : Int) ^ (8 * i) <= 2 ^ 56 := by
     have h : (2 ^ (8 * i) : Nat) <= 2 ^ 56 := Nat.pow_le_pow_right (by omega) (by omega)
     have e2 : ((2 : Int)) ^ (8 * i) = ((2 ^ (8 * i) : Nat) : Int) := by rw [Int.natCast_pow]; rfl
     have e3 : ((2 : Int)) ^ 56 = ((2 ^ 56 : Nat) : Int) := by rw [Int.natCast_pow]; rfl
     rw [e2, e3]; exact Int.ofNat_le.2 h
    have hp0 : (0 : Int) <= 2 ^ (8 * i) := by omega
    have h56 : (2 : Int) ^ 56 = 72057594037927936 := by decide
    have h64 : (2 : Int) ^ 64 = 18446744073709551616 := by decide
    rw [h56] at hp; rw [h64]
    have hm : L.getD i 0 * 2 ^ (8 * i) <= 255 * 2 ^ (8 * i) := Int.mul_le_mul_of_nonneg_right (by omega) hp0
    omega
   rw [hs, JkE (by omega) hb.1 hb.2 hx.1 hlt]
   have hn1 : W4 (L.take i) + L.getD i 0 * 2 ^ (8 * i) = W4 (L.take (i + 1)) := by
    rw [ht, JgT, hlen, Jm3]
   rw [hn1]
   exact JtP L hL h8 f k0 a b c d R e dd (i + 1) n (by omega) (by omega)
def Jij : Jy
 | [.ptr 0 [], .sc (.int .i64 n)], [.box false 197 (.st 197 [.ro 5 z f b, .sc (.int .i64 e)])], k =>
  bif (!z || f) && (decide (0 <= n) && decide (n <= 8)) && byB b then k ⟨.sc (.int .i64 (Jz n.toNat ⟨b, e⟩)), [rdP z f (Jb n.toNat ⟨b, e⟩)], []⟩ else none
 | _, _, _ => none
def JpH : Sig := { own := [], run := Jij }
theorem Jyd (z f : Bool) (b : List PV) (e n : Int) (hz : (!z || f) = true) (hn : 0 <= n) (hn8 : n <= 8) (hb : byB b = true) (k : KR) :
  JEa 20 z f b e n k = k ⟨.sc (.int .i64 (Jz n.toNat ⟨b, e⟩)), [rdP z f (Jb n.toNat ⟨b, e⟩)], []⟩ := by
 unfold JEa
 rw [Ja (by rw [hz]; simpa using hn), Zl, Zk]
 have ho : byB (J8 n.toNat ⟨b, e⟩) = true := Zm hb _
 have hoi := Wg.1 ho
 have hl : (JC (J8 n.toNat ⟨b, e⟩)).length <= 8 := by rw [QW]; exact Nat.le_trans (W5 _ _) (by omega)
 have hL := JtP (JC (J8 n.toNat ⟨b, e⟩)) hoi.2 hl 20 (fun x0_0 x1_0 x2_0 JP x4_0 => k (Res.mk (.sc (.int .i64 (IntKind.i64.wrap x0_0))) [.box false 197 (.st 197 [.ro 5 x1_0 x2_0 JP, .sc (.int .i64 x4_0)])] [])) (!okS n.toNat ⟨b, e⟩ || z) (!okS n.toNat ⟨b, e⟩ || z) z f (Jb n.toNat ⟨b, e⟩).b (Jb n.toNat ⟨b, e⟩).e (JC (J8 n.toNat ⟨b, e⟩)).length 0 20 (by omega) (by omega)
 rw [← QC hoi.1, QW] at hL
 simp only [List.take_zero, W4] at hL
 exact hL
theorem Jm4 : Jc tau Tryz.prog 127 JpH := Jc.mk' fun xs es k res hl hr => by
 change Jij xs es k = some res at hr
 unfold Jij at hr
 split at hr
 · rename_i n z f b e
   obtain ⟨hc, hr⟩ := Ju hr
   simp only [Bool.and_eq_true, decide_eq_true_eq] at hc
   exact J1 Jn JpE Jo JBh JBi (JpF (GT 20)) [.ro] 1 0 (JJD 20) hl rfl ((JPg 20 z f b e n k).trans ((Jyd z f b e n hc.1.1 hc.1.2.1 hc.1.2.2 hc.2 k).trans hr))
 · cases hr
theorem Jgi (k : IntKind) (x y : Int) : JL .or k x y = JL .or k y x := by simp only [JL]; rw [BitVec.or_comm]
theorem JtQ (L : List Int) (hL : ∀ x ∈ L, 0 <= x /\ x < 256) (h8 : L.length <= 8) (f : Nat) (k0 : Int -> Bool -> Bool -> List PV -> Int -> Int -> OR) (a b c d : Bool) (R : List PV) (P e : Int) : ∀ (i n : Nat), i <= L.length -> i < n ->
  Zp f k0 n (W4 (L.drop i)) a b (pu .u8 L) ((i : Int) - 1) c d R P e = k0 (W4 L) c d R P e
 | 0, n + 1, h, hn => by
   simp only [Zp, Vq, List.drop_zero]
   exact Jd (by decide)
 | i + 1, n + 1, h, hn => by
   have g0 : ((i + 1 : Nat) : Int) - 1 = (i : Int) := by omega
   have g1 := tI i
   have h1 : IntKind.i64.wrap ((i : Int) - 1) = (i : Int) - 1 := wrap_i64 (by omega) (by omega)
   have hi : i < L.length := by omega
   have hx := hL (L.getD i 0) (by rw [List.getD_eq_getElem?_getD, List.getElem?_eq_getElem hi]; exact List.getElem_mem hi)
   rw [g0]
   simp only [Zp, Vq, g1, h1]
   rw [J7 hi, QH hi]
   refine (Ja (by simp)).trans ((Ja (by simp [zi]; omega)).trans ?_)
   have hd : L.drop i = L.getD i 0 :: L.drop (i + 1) := by
    rw [List.drop_eq_getElem_cons hi, List.getD_eq_getElem?_getD, List.getElem?_eq_getElem hi]; rfl
   have hb := Yp (L.drop (i + 1)) fun x hx => hL x (List.mem_of_mem_drop hx)
   have hp : (256 : Int) ^ (L.drop (i + 1)).length <= 2 ^ 56 := by
    rw [Jm3]
    have h : (2 ^ (8 * (L.drop (i + 1)).length) : Nat) <= 2 ^ 56 := Nat.pow_le_pow_right (by omega) (by rw [List.length_drop]; omega)
    have e2 : ((2 : Int)) ^ (8 * (L.drop (i + 1)).length) = ((2 ^ (8 * (L.drop (i + 1)).length) : Nat) : Int) := by rw [Int.natCast_pow]; rfl
    have e3 : ((2 : Int)) ^ 56 = ((2 ^ 56 : Nat) : Int) := by rw [Int.natCast_pow]; rfl
    rw [e2, e3]; exact Int.ofNat_le.2 h
   have h56 : (2 : Int) ^ 56 = 72057594037927936 := by decide
   rw [h56] at hp
   have hsh : XB .u64 (W4 (L.drop (i + 1))) 8 = W4 (L.drop (i + 1)) * 2 ^ 8 := by
    rw [XB, QX]
    have : min (8 : Int).toNat IntKind.u64.bits = 8 := by decide
    rw [this]
    have h8 : (2 : Int) ^ 8 = 256 := by decide
    rw [h8]; omega
   have hw : IntKind.u64.wrap (L.getD i 0) = L.getD i 0 := by rw [QX]; omega
   have h8 : (2 : Int) ^ 8 = 256 := by decide
   have h64 : (2 : Int) ^ 64 = 18446744073709551616 := by decide
   rw [hsh, hw, Jgi, JkE (by omega) hx.1 (by rw [h8]; exact hx.2) hb.1 (by rw [h8, h64]; omega)]
   have hn1 : L.getD i 0 + W4 (L.drop (i + 1)) * 2 ^ 8 = W4 (L.drop i) := by rw [hd, W4, h8]; omega
   rw [hn1]
   exact JtQ L hL (by assumption) f k0 a b c d R P e i n (by omega) (by omega)
def Jik : Jy
 | [.ptr 0 []], [.box false 210 (.st 210 [.ro 5 z f B, .sc (.int .i64 P), .sc (.int .i64 e)])], k =>
  bif okT ⟨B, P, e⟩ then k ⟨.sc (.int .i64 (Qk 8 ⟨B, P, e⟩)), [rfP z f (Jh 8 ⟨B, P, e⟩)], []⟩ else none
 | _, _, _ => none
def JpI : Sig := { own := [], run := Jik }
theorem Jbr {t : RT} (h : okT t = true) : byB t.view.b = true := by
 simp only [okT, Bool.and_eq_true] at h
 exact Jkv h.2.2.1 _
theorem Jye (B : List PV) (P e : Int) : RS.mk (List.drop (RT.mk B P e).P.toNat (RT.mk B P e).B) (RT.mk B P e).e = RT.view ⟨B, P, e⟩ := rfl
theorem Jm5 : Jc tau Tryz.prog 103 JpI := Jc.mk' fun xs es k res hl hr => by
 change Jik xs es k = some res at hr
 unfold Jik at hr
 split at hr
 · rename_i z f B P e
   obtain ⟨hc, hr⟩ := Ju hr
   have hg : JD7 20 z f B P e k = some res := by
    unfold JD7 Jbo
    have hb := Jbr hc
    have ho := Wg.1 (Zm (s := RT.view ⟨B, P, e⟩) hb 8)
    have hl8 : (JC (J8 8 (RT.view ⟨B, P, e⟩))).length <= 8 := by rw [QW]; exact W5 _ _
    have hw : IntKind.i64.wrap (zi (J8 8 (RT.view ⟨B, P, e⟩)).length - 1) = ((J8 8 (RT.view ⟨B, P, e⟩)).length : Int) - 1 := by
     have := W5 8 (RT.view ⟨B, P, e⟩)
     simp only [zi]; rw [wrap_i64 (by omega) (by omega)]
    rw [Ja (by rw [hc]; rfl), Jye, Zk, hw]
    have hL := JtQ (JC (J8 8 (RT.view ⟨B, P, e⟩))) ho.2 hl8 20 (fun x0_0 x1_0 x2_0 JP x4_0 x5_0 => k (Res.mk (.sc (.int .i64 (IntKind.i64.wrap x0_0))) [.box false 210 (.st 210 [.ro 5 x1_0 x2_0 JP, .sc (.int .i64 x4_0), .sc (.int .i64 x5_0)])] [])) (!okS 8 (RT.view ⟨B, P, e⟩) || z) (!okS 8 (RT.view ⟨B, P, e⟩) || z) z f (Jh 8 ⟨B, P, e⟩).B (Jh 8 ⟨B, P, e⟩).P (Jh 8 ⟨B, P, e⟩).e (JC (J8 8 (RT.view ⟨B, P, e⟩))).length 20 (by omega) (by omega)
    rw [← QC ho.1, List.drop_length, QW] at hL
    simp only [W4] at hL
    refine hL.trans ?_
    rw [JdT] at hr
    exact hr
   exact J1 Jn JpB Jo JA3 JA4 (JpC (GS 20)) [.ro] 1 0 (JJp 20) hl rfl ((JO8 20 z f B P e k).trans hg)
 · cases hr
def Jil : Jy
 | [.ptr 0 []], [.box false 210 (.st 210 [.ro 5 z f B, .sc (.int .i64 P), .sc (.int .i64 e)])], k =>
  bif okT ⟨B, P, e⟩ then k ⟨.sc (.int .i64 (Qk 1 ⟨B, P, e⟩)), [rfP z f (Jh 1 ⟨B, P, e⟩)], []⟩ else none
 | _, _, _ => none
def JpJ : Sig := { own := [], run := Jil }
theorem Jm6 : Jc tau Tryz.prog 105 JpJ := JJs.of fun xs es k res hr => by
 change Jil xs es k = some res at hr
 unfold Jil at hr
 split at hr
 · rename_i z f B P e
   obtain ⟨hc, hr⟩ := Ju hr
   show Jx4 0 z f B P e k = some res
   unfold Jx4 Jbp
   have hb := Jbr hc
   have hv : RT.view ⟨B, P, e⟩ = ⟨List.drop P.toNat B, e⟩ := rfl
   rw [hv] at hb
   have ho := Wg.1 (Zm hb 1)
   have hl := W5 1 ⟨List.drop P.toNat B, e⟩
   rw [JdT, WU, hv] at hr
   simp only [Zk]
   rw [Ja (by rw [hc]; rfl)]
   generalize J8 1 ⟨List.drop P.toNat B, e⟩ = O at *
   match O, hl with
   | [], _ => exact hr
   | [p], _ =>
    have h1 : p.isInt .u8 = true := by simpa [Jk] using ho.1
    have h2 := ho.2 p.int (by simp [JC])
    refine (Jd rfl).trans ((Ja (by simp [zi, h1])).trans ?_)
    have : W4 (JC [p]) = p.int := by simp [JC, W4]
    rw [this] at hr
    exact hr
 · cases hr
def Jim : Jy
 | [.ptr 0 []], [.box false 210 (.st 210 [.ro 5 z f B, .sc (.int .i64 P), .sc (.int .i64 e)])], k =>
  bif okT ⟨B, P, e⟩ then k ⟨.sc (.string (X4 ⟨B, P, e⟩)), [rfP z f (Q0 ⟨B, P, e⟩)], []⟩ else none
 | _, _, _ => none
def JtR : Sig := { own := [], run := Jim }
theorem JtS : Jc tau Tryz.prog 106 JtR := JJv.of fun xs es k res hr => by
 change Jim xs es k = some res at hr
 unfold Jim at hr
 split at hr
 · rename_i z f B P e
   obtain ⟨hc, hr⟩ := Ju hr
   show Jx6 0 z f B P e k = some res
   unfold Jx6 JdU Ys Zq Yr
   have hb := Jbr hc
   have hv : RT.view ⟨B, P, e⟩ = ⟨List.drop P.toNat B, e⟩ := rfl
   rw [hv] at hb
   rw [Jkw, JhY] at hr
   have hk2 : okT (Jh 2 ⟨B, P, e⟩) = true := QE hc 2
   have hv2 : ∀ t : RT, RS.mk (List.drop t.P.toNat t.B) t.e = t.view := fun t => rfl
   have hst : (QZ 2 ⟨B, P, e⟩).view = Qi 2 ⟨List.drop P.toNat B, e⟩ := YX 2 ⟨B, P, e⟩
   rw [Ja (by rw [hc]; rfl)]
   simp only [Zk, JmB]
   cases hk : XH 2 ⟨List.drop P.toNat B, e⟩ with
   | false =>
    have hO : J8 2 ⟨List.drop P.toNat B, e⟩ = [] := by unfold J8; rw [hk]; rfl
    have hN : WU 2 ⟨List.drop P.toNat B, e⟩ = 0 := by unfold WU; rw [hO]; rfl
    have he : (Qi 2 ⟨List.drop P.toNat B, e⟩).e ≠ 0 := by
      unfold Qi; rw [hk]
      by_cases h0 : e = 0
      · subst h0; show (8 : Int) ≠ 0; decide
      · have : (e == 0) = false := by simpa using h0
        simp only [cond_false, this]; exact h0
    have hnk : XH 0 (Qi 2 ⟨List.drop P.toNat B, e⟩) = false := by
      unfold XH
      have : ((Qi 2 ⟨List.drop P.toNat B, e⟩).e == 0) = false := by simpa using he
      rw [this]; rfl
    have h1 : Jdt (RT.view ⟨B, P, e⟩) = ByteArray.mk (Array.mk []) := by
      rw [hv]; unfold Jdt; rw [hN]
      have : J8 (0 : Int).toNat (Qi 2 ⟨List.drop P.toNat B, e⟩) = [] := by
        show J8 0 _ = []
        unfold J8; rw [hnk]; rfl
      rw [this]; rfl
    have h2 : Ja6 ⟨B, P, e⟩ = QZ 2 ⟨B, P, e⟩ := by
      unfold Ja6; rw [hv, hN]
      rw [← hst] at he
      exact JrD he _
    rw [h1, h2] at hr
    rw [hO]
    refine (Ja rfl).trans ?_
    rw [Xt]
    exact hr
   | true =>
    have hO : J8 2 ⟨List.drop P.toNat B, e⟩ = List.take 2 (List.drop P.toNat B) := by unfold J8; rw [hk]; rfl
    have hlen : 2 <= (List.drop P.toNat B).length := by
      simp only [XH, Bool.and_eq_true, Nat.ble_eq] at hk; exact hk.2
    obtain ⟨p, q, hpq⟩ : ∃ p q, J8 2 ⟨List.drop P.toNat B, e⟩ = [p, q] := by
      rw [hO]
      match h : List.drop P.toNat B, hlen with
      | p :: q :: r, _ => exact ⟨p, q, rfl⟩
    have ho := Wg.1 (Zm hb 2)
    rw [hpq] at ho
    have hp1 : p.isInt .u8 = true /\ q.isInt .u8 = true := by simpa [Jk] using ho.1
    have hp2 := ho.2 p.int (by simp [JC])
    have hq2 := ho.2 q.int (by simp [JC])
    have hw : IntKind.i64.wrap (IntKind.i64.wrap p.int + IntKind.i64.wrap (256 * IntKind.i64.wrap q.int)) = p.int + 256 * q.int := by
      rw [wrap_i64 (x := p.int) (by omega) (by omega), wrap_i64 (x := q.int) (by omega) (by omega), wrap_i64 (x := 256 * q.int) (by omega) (by omega), wrap_i64 (by omega) (by omega)]
    have hN : WU 2 ⟨List.drop P.toNat B, e⟩ = p.int + 256 * q.int := by
      unfold WU; rw [hpq]
      show IntKind.i64.wrap (W4 [p.int, q.int]) = _
      simp only [W4]
      rw [wrap_i64 (by omega) (by omega)]; omega
    have g0 : ([p, q] : List PV).getD 0 PV.top = p := rfl
    have g1 : ([p, q] : List PV).getD 1 PV.top = q := rfl
    simp only [hpq, g0, g1, hw]
    refine (Jd rfl).trans ((Ja (by simp [zi, hp1.1])).trans ((Ja (by simp [zi, hp1.2])).trans ((Ja ?_).trans ?_)))
    · rw [hk2]; simp; omega
    have h1 : Jdt (RT.view ⟨B, P, e⟩) = ⟨(JW (J8 (p.int + 256 * q.int).toNat (Jh 2 ⟨B, P, e⟩).view)).toArray⟩ := by
      rw [hv]; unfold Jdt; rw [hN, Xt, hst]
    have h2 : Ja6 ⟨B, P, e⟩ = Jh (p.int + 256 * q.int).toNat (Jh 2 ⟨B, P, e⟩) := by
      unfold Ja6; rw [hv, hN, Xt, Xt]
    have hbo : Jk .u8 (J8 (p.int + 256 * q.int).toNat (Jh 2 ⟨B, P, e⟩).view) = true := (Wg.1 (Zm (Jbr hk2) _)).1
    rw [h1, h2] at hr
    refine (Ja (by rw [Bool.and_true]; exact hbo)).trans ?_
    exact hr
 · cases hr
def JtT : Nat := 16
def JEb : Fns := Jr 105 JpJ (F0)
theorem JpK : Jp tau Tryz.prog JEb := (Js).add Jm6 JtF
def Jin : Code := Qd (Tryz.f104.body.get!) [1, 1, 0, 1, 0, 0]
def Jbs : Nm := [(0, .any), (2, .any), (3, .any), (4, .any)]
def Jio : Nm := [(2, .any), (3, .any)]
def Jm7 : An := (.seq (.seq .leaf (.cond .leaf .leaf)) (.seq (.block none .leaf) .leaf))
def JpL (r0 : Qt) : An := (.seq .leaf (.seq .leaf (.seq (.seq .leaf (.block none (.sum Jbs JtT r0))) (.seq .leaf .leaf))))
abbrev JpM := Int -> Bool -> Bool -> List PV -> Int -> Int -> List PV -> List PV -> OR
def Vs (f : Nat) (rc : JpM) (k0 : Bool -> Bool -> List PV -> Int -> Int -> List PV -> List PV -> OR) (v0 : Int) (v1 v2 : Bool) (v3 : List PV) (v4 v5 : Int) (v6 v7 : List PV) : OR := bif decide (v0 < 32) then bif okT (RT.mk v3 v4 v5) then bif decide (0 <= v0) && decide (v0 < zi 32) && true then rc (IntKind.i64.wrap (v0 + 1)) v1 v2 ((Jh 1 (RT.mk v3 v4 v5)).B) ((Jh 1 (RT.mk v3 v4 v5)).P) ((Jh 1 (RT.mk v3 v4 v5)).e) v6 (v7.set v0.toNat (.sc (.int .u8 (IntKind.u8.wrap (Qk 1 (RT.mk v3 v4 v5)))))) else none else none else k0 v1 v2 v3 v4 v5 v6 v7
def Zs (f : Nat) (k0 : Bool -> Bool -> List PV -> Int -> Int -> List PV -> List PV -> OR) : Nat -> JpM
 | 0 => fun _ _ _ _ _ _ _ _ => none
 | n + 1 => Vs f (Zs f k0 n) k0
def V6 (k : Kont) := fun x0 x1 x2 x3 x4 x5 x6 => k (Ex.exit 0) (Ji Jio JtT [.ptr 273 [], .ptr 274 []] [(0, .box false 210 (PV.st 210 [.ro 5 x0 x1 x2, .sc (.int .i64 x3), .sc (.int .i64 x4)])), (273, .box false 28 (PV.ar 28 x5)), (274, .box false 28 (PV.ar 28 x6))])
def Jip (f : Nat) (k : Kont) (n : Nat) (v0 : Int) (v1 v2 : Bool) (v3 : List PV) (v4 v5 : Int) (v6 v7 : List PV) : OR := Jx tau 1 Jbs (fun s k => ev tau JEb 1 0 Jin (Jm7 ) s k) n (Ji Jbs JtT [.ptr 0 [], .ptr 273 [], .ptr 274 [], .sc (.int .i64 v0)] [(0, .box false 210 (PV.st 210 [.ro 5 v1 v2 v3, .sc (.int .i64 v4), .sc (.int .i64 v5)])), (273, .box false 28 (PV.ar 28 v6)), (274, .box false 28 (PV.ar 28 v7))]) (JG tau 1 Jio k)
theorem JtU (f : Nat) (k : Kont) (n : Nat) : Jip f k (n + 1) = Vs f (Jip f k n) (V6 k) := by kernel_rfl
theorem JkF (f : Nat) (k : Kont) : ∀ n, Jip f k n = Zs f (V6 k) n
 | 0 => rfl
 | n + 1 => (JtU f k n).trans (congrArg (fun r => Vs f r (V6 k)) (JkF f k n))
def GU (f : Nat) : List PV -> List (Nat × Ent) -> Kont -> OR
 | [.ptr 0 [], .ptr 273 [], .ptr 274 [],
 PV.sc
  (Value.int IntKind.i64
   v0)], [(0, .box false 210 (PV.st 210 [.ro 5 v1 v2 v3, .sc (.int .i64 v4), .sc (.int .i64 v5)])), (273, .box false 28 (PV.ar 28 v6)),
 (274,
  Ent.box false 28
   (PV.ar 28
    v7))], k => Zs f (V6 k) f v0 v1 v2 v3 v4 v5 v6 v7
 | _, _, _ => none
theorem Jyf (f : Nat) : Jf Jin Jm7 = [] := by kernel_rfl
theorem Jyg (f : Nat) : (Item.l Jin Jbs JtT (GU f)).Ok tau Tryz.prog 1 := Jt Jn JpK Jo (x := Jm7) (nm2 := Jio) (Jl _ _ (by rw [Jyf f]; intro q hq; cases hq)) fun vs hp k res hr => by
 unfold GU at hr
 split at hr
 · rw [← JkF f] at hr; exact ⟨f, 0, hr⟩
 · cases hr
abbrev JpN := (JcG)
def JJE (f : Nat) (y0 y1 : Bool) (r_B : List PV) (r_P y2 : Int) (k : KR) : OR := Zs f (fun x0_0 x1_0 x2_0 JP x4_0 _ x6_0 => k (Res.mk (.ar 28 x6_0) [.box false 210 (PV.st 210 [.ro 5 x0_0 x1_0 x2_0, .sc (.int .i64 JP), .sc (.int .i64 x4_0)])] [])) f (0) y0 y1 r_B r_P y2 JpN JpN
theorem JPh (f : Nat) (y0 y1 : Bool) (r_B : List PV) (r_P y2 : Int) (k : KR) : JI tau JEb Tryz.f104 (Tryz.f104.body.get!) (JpL (GU f)) [.ro] 0 [.ptr 0 []] [.box false 210 (.st 210 [.ro 5 y0 y1 r_B, .sc (.int .i64 r_P), .sc (.int .i64 y2)])] k = JJE f y0 y1 r_B r_P y2 k := by kernel_rfl
theorem JJF (f : Nat) : Jf (Tryz.f104.body.get!) (JpL (GU f)) = [.l Jin Jbs JtT (GU f)] := by kernel_rfl
theorem JJG (f : Nat) : ∀ q ∈ Jf (Tryz.f104.body.get!) (JpL (GU f)), q.Ok tau Tryz.prog 1 := by rw [JJF f]; exact JJ (Jyg f) (fun _ h => nomatch h)
theorem JBj : Tryz.prog.funcs[104]? = some Tryz.f104 := by kernel_rfl
theorem JBk : Tryz.f104.body = some (Tryz.f104.body.get!) := by kernel_rfl
theorem JJH : Enters Tryz.prog 104 := enters_of JBj (by kernel_rfl) JBk
def Jfa : Nat -> RS -> RS
 | 0, s => s
 | n + 1, s => Jfa n (Qi 1 s)
def Jbt : Nat -> RS -> List Int
 | 0, _ => []
 | n + 1, s => IntKind.u8.wrap (WU 1 s) :: Jbt n (Qi 1 s)
def Jfb : Nat -> RT -> RT
 | 0, t => t
 | n + 1, t => Jfb n (QZ 1 t)
def hashS : RS -> RS := hid (Jfa 32)
def hashV : RS -> List Int := hid (Jbt 32)
def hashT : RT -> RT := hid (Jfb 32)
def hashVT : RT -> List Int := hid fun t => Jbt 32 t.view
theorem hashS_eq (s : RS) : hashS s = Jfa 32 s := by rw [hashS, hid_eq]
theorem hashV_eq (s : RS) : hashV s = Jbt 32 s := by rw [hashV, hid_eq]
theorem hashT_eq (t : RT) : hashT t = Jfb 32 t := by rw [hashT, hid_eq]
theorem hashVT_eq (t : RT) : hashVT t = Jbt 32 t.view := by rw [hashVT, hid_eq]
theorem Jdu : ∀ (n : Nat) (s : RS), (Jbt n s).length = n
 | 0, _ => rfl
 | n + 1, s => by simp [Jbt, Jdu n]
@[simp] theorem hashV_length (s : RS) : (hashV s).length = 32 := by rw [hashV_eq]; exact Jdu 32 s
theorem JgU : ∀ (n : Nat) (t : RT), (Jfb n t).view = Jfa n t.view
 | 0, _ => rfl
 | n + 1, t => by simp only [Jfb, Jfa, JgU n, YX]
@[simp] theorem hashT_view (t : RT) : (hashT t).view = hashS t.view := by rw [hashT_eq, hashS_eq, JgU]
@[simp] theorem hashVT_val (t : RT) : hashVT t = hashV t.view := by rw [hashVT_eq, hashV_eq]
theorem JpO : ∀ (n : Nat) {t : RT}, okT t = true -> okT (Jfb n t) = true
 | 0, _, h => h
 | n + 1, t, h => JpO n (Vn h 1)
@[simp] theorem JtV {t : RT} (h : okT t = true) : okT (hashT t) = true := by rw [hashT_eq]; exact JpO 32 h
theorem Jiq : ∀ (n : Nat) {s : RS}, byB s.b = true -> byB (Jfa n s).b = true
 | 0, _, h => h
 | n + 1, s, h => Jiq n (YW h 1)
theorem JtW (f : Nat) (k0 : Bool -> Bool -> List PV -> Int -> Int -> List PV -> List PV -> OR) (z fl : Bool) (h0 : List PV) : ∀ (d i n : Nat) (t : RT) (L : List Int), i + d = 32 -> d < n -> okT t = true -> L.length = 32 ->
  Zs f k0 n (i : Int) z fl t.B t.P t.e h0 (pu .u8 L) = k0 z fl (Jfb d t).B (Jfb d t).P (Jfb d t).e h0 (pu .u8 (L.take i ++ Jbt d t.view))
 | 0, i, n + 1, t, L, h, hn, hk, hL => by
   obtain rfl : i = 32 := by omega
   simp only [Zs, Vs, Jfb, Jbt, List.append_nil]
   rw [List.take_of_length_le (by omega)]
   exact Jd (by decide)
 | d + 1, i, n + 1, t, L, h, hn, hk, hL => by
   have g1 := tI i
   have w1 := wI (i := i) (by omega)
   simp only [Zs, Vs, g1, w1, Xx]
   refine (Ja (by simp; omega)).trans ((Ja hk).trans ((Ja (by simp; omega)).trans ?_))
   have := JtW f k0 z fl h0 d (i + 1) n (QZ 1 t) (L.set i (IntKind.u8.wrap (Qk 1 t))) (by omega) (by omega) (Vn hk 1) (by simpa using hL)
   rw [Xt]
   refine this.trans ?_
   have hset : (L.set i (IntKind.u8.wrap (Qk 1 t))).take (i + 1) = L.take i ++ [IntKind.u8.wrap (Qk 1 t)] := by
    rw [List.take_add_one, List.take_set_of_le (Nat.le_refl i), List.getElem?_set_self (by omega)]; rfl
   rw [hset, YX, JdT]
   simp only [Jfb, Jbt, List.append_assoc, List.cons_append, List.nil_append]
def Jir : Jy
 | [.ptr 0 []], [.box false 210 (.st 210 [.ro 5 z f B, .sc (.int .i64 P), .sc (.int .i64 e)])], k =>
  bif okT ⟨B, P, e⟩ then k ⟨.ar 28 (pu .u8 (hashVT ⟨B, P, e⟩)), [rfP z f (hashT ⟨B, P, e⟩)], []⟩ else none
 | _, _, _ => none
def JBl : Sig := { own := [], run := Jir }
theorem JEc : Jc tau Tryz.prog 104 JBl := Jc.mk' fun xs es k res hl hr => by
 change Jir xs es k = some res at hr
 unfold Jir at hr
 split at hr
 · rename_i z f B P e
   obtain ⟨hc, hr⟩ := Ju hr
   have hg : JJE 40 z f B P e k = some res := by
    have h := JtW 40 (fun x0_0 x1_0 x2_0 JP x4_0 x5_0 x6_0 => k (Res.mk (.ar 28 x6_0) [.box false 210 (.st 210 [.ro 5 x0_0 x1_0 x2_0, .sc (.int .i64 JP), .sc (.int .i64 x4_0)])] [])) z f (pu .u8 (List.replicate 32 0)) 32 0 40 ⟨B, P, e⟩ (List.replicate 32 0) (by omega) (by omega) hc (by simp)
    rw [List.take_zero, List.nil_append] at h
    rw [hashVT_eq, hashT_eq] at hr
    exact Eq.trans h hr
   exact J1 Jn JpK Jo JBj JBk (JpL (GU 40)) [.ro] 1 0 (JJG 40) hl rfl ((JPh 40 z f B P e k).trans hg)
 · cases hr
def F85 : Fns := Jr 128 JtJ (Jr 127 JpH (F0))
theorem JEd : Jp tau Tryz.prog F85 := ((Js).add Jm4 JtN).add JtK JBg
def JEe : An := (.seq .leaf (.seq .leaf (.seq .leaf .leaf)))
def g85 (f : Nat) (y0 y1 : Bool) (r_b : List PV) (r_e : Int) (k : KR) : OR := bif (!y0 || y1) && true && byB r_b then bif (!y0 || y1) && decide (0 <= Jz 2 (RS.mk r_b r_e)) then bif Jk IntKind.u8 (Gt (Jz 2 (RS.mk r_b r_e)).toNat (Jb 2 (RS.mk r_b r_e))) && true then k (Res.mk (.sc (.string (ByteArray.mk (Array.mk (JW (!okS (Jz 2 (RS.mk r_b r_e)).toNat (RS.mk (Jb 2 (RS.mk r_b r_e)).b (Jb 2 (RS.mk r_b r_e)).e) || y0, Gt (Jz 2 (RS.mk r_b r_e)).toNat (Jb 2 (RS.mk r_b r_e))).snd))))) [.box false 197 (PV.st 197 [.ro 5 y0 y1 (Jb (Jz 2 (RS.mk r_b r_e)).toNat (Jb 2 (RS.mk r_b r_e))).b, .sc (.int .i64 (Jb (Jz 2 (RS.mk r_b r_e)).toNat (Jb 2 (RS.mk r_b r_e))).e)])] []) else none else none else none
theorem e85 (f : Nat) (y0 y1 : Bool) (r_b : List PV) (r_e : Int) (k : KR) : JI tau F85 Tryz.f85 (Tryz.f85.body.get!) JEe [.ro] 0 [.ptr 0 []] [.box false 197 (.st 197 [.ro 5 y0 y1 r_b, .sc (.int .i64 r_e)])] k = g85 f y0 y1 r_b r_e k := by kernel_rfl
theorem JPi (f : Nat) : ∀ q ∈ Jf (Tryz.f85.body.get!) JEe, q.Ok tau Tryz.prog 1 := Jv (by kernel_rfl)
theorem JJI : Tryz.prog.funcs[85]? = some Tryz.f85 := by kernel_rfl
theorem JJJ : Tryz.f85.body = some (Tryz.f85.body.get!) := by kernel_rfl
theorem JJK : Enters Tryz.prog 85 := enters_of JJI (by kernel_rfl) JJJ
def JtX : Jy
 | [.ptr 0 []], [.box false 197 (.st 197 [.ro 5 y0 y1 r_b, .sc (.int .i64 r_e)])], k => g85 0 y0 y1 r_b r_e k
 | _, _, _ => none
def s85 : Sig := { own := [], run := JtX }
theorem JPj : Jc tau Tryz.prog 85 s85 := JN Jn JEd Jo JJI JJJ JEe [.ro] 1 [] JtX (JPi 0) fun xs es k res hr => by
 unfold JtX at hr
 split at hr
 · exact ⟨rfl, 0, (e85 0 _ _ _ _  _).trans hr⟩
 · cases hr
def Jm8 : Jy
 | [.ptr 0 []], [.box false 197 (.st 197 [.ro 5 z f b, .sc (.int .i64 e)])], k =>
  bif (!z || f) && byB b then k ⟨.sc (.string (JT ⟨b, e⟩)), [rdP z f (Qe ⟨b, e⟩)], []⟩ else none
 | _, _, _ => none
def JEf : Sig := { own := [], run := Jm8 }
theorem JBm : Jc tau Tryz.prog 85 JEf := JPj.of fun xs es k res hr => by
 change Jm8 xs es k = some res at hr
 unfold Jm8 at hr
 split at hr
 · rename_i z f b e
   obtain ⟨hc, hr⟩ := Ju hr
   simp only [Bool.and_eq_true] at hc
   show g85 0 z f b e k = some res
   have hn := (X3 (s := ⟨b, e⟩) hc.2 (n := 2) (by omega)).1
   have ho := (Wg.1 (Zm (s := Qi 2 ⟨b, e⟩) (YW (s := ⟨b, e⟩) hc.2 2) (WU 2 ⟨b, e⟩).toNat)).1
   unfold g85
   simp only [Zl, X2, Zk]
   rw [Ja (by rw [hc.1, hc.2]; rfl), Ja (by rw [hc.1]; simpa using hn), Ja (by rw [ho]; rfl)]
   rw [JhX, JdS] at hr
   exact hr
 · cases hr


def fS : Nat -> RS -> RS
 | 0, s => s
 | 1, s => Jb 1 s
 | n + 2, s => Jb 8 (fS (n + 1) s)
def Vt (c : Int) (s : RS) : RS := ⟨s.b, bif s.e == 0 then c else s.e⟩
def txR : Nat -> RS -> RS
 | 0, s => s
 | n + 1, s => txR n (Qe s)
def JEg (s : RS) : Int := Jz 1 (fS 13 s)
def JJL (s : RS) : Nat := bif decide (JEg s > 4) then 0 else (JEg s).toNat
def JJM (s : RS) : RS := bif decide (JEg s > 4) then Vt 4 (Jb 1 (fS 13 s)) else Jb 1 (fS 13 s)
def JEh : RS -> List Int := hid fun s => hashV (txR (JJL s) (JJM s))
theorem Jyh (s : RS) : JEh s = hashV (txR (JJL s) (JJM s)) := by rw [JEh, hid_eq]
@[simp] theorem JBn (s : RS) : (JEh s).length = 32 := by rw [Jyh]; exact hashV_length _
theorem Qj {s : RS} (h : byB s.b = true) (n : Nat) : byB (Jb n s).b = true := by rw [X2]; exact YW h n
theorem JpP {s : RS} (h : byB s.b = true) : byB (Qe s).b = true := by rw [JdS]; exact YW (YW h 2) _
theorem Vu : ∀ l : List PV, (JW l).length = l.length
 | [] => rfl
 | p :: ps => by simp [JW, Vu ps]
theorem JgV {s : RS} (h : byB s.b = true) : (JT s).size <= 65535 := by
 rw [JhX]
 show (JW _).length <= _
 rw [Vu]
 have h1 := W5 (WU 2 s).toNat (Qi 2 s)
 have h2 := X3 h (n := 2) (Nat.le_refl 2)
 omega
theorem Yt (t : ByteArray) : (Jj t).length = t.size := by simp only [Jj, List.length_map, Array.length_toList]; rfl
def X6 (x m : Int) : Bool := decide (x >= 0) && decide (x <= m)
def JPk (fr to wh wn cd cu ve co ad au su er : Int) : Bool := X6 fr 2 && (X6 to 2 && (!(fr == to) && (X6 wh 2 && (X6 wn 99 && (X6 cd 2 && (X6 cu 7 && (X6 ad 2 && (X6 au 7 && (X6 ve 1073741824 && (X6 co 1073741824 && (X6 su 1073741824 && X6 er 255)))))))))))
def JPl (kd fr to wh wn cd cu ve co ad au su er : Int) : Int := bif X6 (IntKind.i64.wrap (kd - 1)) 4 then (bif JPk fr to wh wn cd cu ve co ad au su er then 0 else 1) else 3
structure C13 where
 (kd fr to wh wn cd cu ve co ad au su er : Int)
def chk : C13 -> Int := hid fun c => JPl c.kd c.fr c.to c.wh c.wn c.cd c.cu c.ve c.co c.ad c.au c.su c.er
def JkG (l : List PV) (d : Int) : PV := bif X6 d 2 then l.getD d.toNat .top else .ro 5 true true []
structure K3 where
 (l : List PV) (d : Int)
def Jis : K3 -> List PV := hid fun c => (JkG c.l c.d).els
theorem JpQ (c : K3) : Jis c = (JkG c.l c.d).els := by rw [Jis, hid_eq]
def JBo : Fns := Jr 97 Jxe (F0)
theorem JtY : Jp tau Tryz.prog JBo := (Js).add JsK JDb
def Jm9 : An := (.seq .leaf (.seq .leaf .leaf))
def JtZ (f : Nat) (b_z b_f : Bool) (b : List PV) (n : Int) (k : KR) : OR := bif decide ((JH [.ro 5 b_z b_f b, .ro 5 false false [.sc (.int .u8 (IntKind.u8.wrap n))]]).length <= 140737488355328) && true then k (Res.mk (.ow 5 16 [] 0 (JH [.ro 5 b_z b_f b, .ro 5 false false [.sc (.int .u8 (IntKind.u8.wrap n))]]).length none) [] [.vec false 5 (JH [.ro 5 b_z b_f b, .ro 5 false false [.sc (.int .u8 (IntKind.u8.wrap n))]]).isEmpty (JH [.ro 5 b_z b_f b, .ro 5 false false [.sc (.int .u8 (IntKind.u8.wrap n))]])]) else none
theorem JJN (f : Nat) (b_z b_f : Bool) (b : List PV) (n : Int) (k : KR) : JI tau JBo Tryz.f143 (Tryz.f143.body.get!) Jm9 [] 0 [.ro 5 b_z b_f b, .sc (.int .i64 n)] [] k = JtZ f b_z b_f b n k := by kernel_rfl
theorem JEi (f : Nat) : ∀ q ∈ Jf (Tryz.f143.body.get!) Jm9, q.Ok tau Tryz.prog 0 := Jv (by kernel_rfl)
theorem JEj : Tryz.prog.funcs[143]? = some Tryz.f143 := by kernel_rfl
theorem JEk : Tryz.f143.body = some (Tryz.f143.body.get!) := by kernel_rfl
def JJO : Fns := Jr 97 Jxe (F0)
theorem Jyi : Jp tau Tryz.prog JJO := (Js).add JsK JDb
def Jt0 : An := (.seq .leaf (.seq .leaf (.seq .leaf .leaf)))
abbrev V7 (s : ByteArray) := (s.extract 0 (Qg (zi s.size) 65535).toNat)
abbrev Jbu (b_z : Bool) (b_f : Bool) (b : List PV) (s : ByteArray) := (JH [PV.ro 5 b_z b_f b, PV.ro 5 false false [PV.sc (.int .u8 (IntKind.u8.wrap (zi (V7 s).size))), PV.sc (.int .u8 (IntKind.u8.wrap (JV IntKind.i64 (zi (V7 s).size) 8)))], PV.ro 5 false false (List.take (V7 s).size (Jj (V7 s)))])
def JEl (f : Nat) (b_z b_f : Bool) (b : List PV) (s : ByteArray) (k : KR) : OR := bif decide (0 <= Qg (zi s.size) 65535) && true && decide ((Qg (zi s.size) 65535).toNat <= s.size) && true then bif Je (V7 s).size 1 && true then bif decide ((Jbu b_z b_f b s).length <= 140737488355328) && true then k (Res.mk (.ow 5 16 [] 0 (Jbu b_z b_f b s).length none) [] [.vec false 5 (Jbu b_z b_f b s).isEmpty (Jbu b_z b_f b s)]) else none else none else none
theorem JPm (f : Nat) (b_z b_f : Bool) (b : List PV) (s : ByteArray) (k : KR) : JI tau JJO Tryz.f99 (Tryz.f99.body.get!) Jt0 [] 0 [.ro 5 b_z b_f b, .sc (.string s)] [] k = JEl f b_z b_f b s k := by kernel_rfl
theorem JJP (f : Nat) : ∀ q ∈ Jf (Tryz.f99.body.get!) Jt0, q.Ok tau Tryz.prog 0 := Jv (by kernel_rfl)
theorem JJQ : Tryz.prog.funcs[99]? = some Tryz.f99 := by kernel_rfl
theorem JJR : Tryz.f99.body = some (Tryz.f99.body.get!) := by kernel_rfl
def JdV : Jy
 | [.ro 5 z f b, .sc (.int .i64 n)], [], k => bif slB z b then k ⟨.ow 5 16 [] 0 (b.length + 1) none, [], [.vec false 5 false (b ++ pu .u8 [IntKind.u8.wrap n])]⟩ else none
 | _, _, _ => none
def JJS : Sig := { own := [], run := JdV }
theorem JEm : Jc tau Tryz.prog 143 JJS := Jc.mk' fun xs es k res hl hr => by
 change JdV xs es k = some res at hr
 unfold JdV at hr
 split at hr
 · rename_i z f b n
   obtain ⟨hc, hr⟩ := Ju hr
   obtain ⟨h1, h2⟩ := XG.1 hc
   have hg : JtZ 0 z f b n k = some res := by
    have hf : JH [PV.ro 5 z f b, PV.ro 5 false false [PV.sc (Value.int IntKind.u8 (IntKind.u8.wrap n))]] = b ++ pu .u8 [IntKind.u8.wrap n] := by simp [PV.els, pu]
    have hf2 : JH [PV.ro 5 z f b, PV.ro 5 false true [PV.sc (Value.int IntKind.u8 (IntKind.u8.wrap n))]] = b ++ pu .u8 [IntKind.u8.wrap n] := by simp [PV.els, pu]
    have he : (b ++ pu .u8 [IntKind.u8.wrap n]).isEmpty = false := by simp
    have hlen : (b ++ pu .u8 [IntKind.u8.wrap n]).length = b.length + 1 := by simp
    unfold JtZ
    simp only [hf, hf2, List.take_length, List.drop_zero, List.take_succ_cons, List.take_zero, he, hlen, Ent.nil]
    rw [Ja (by simp; omega)]
    exact hr
   exact J1 Jn JtY Jo JEj JEk Jm9 [] 0 0 (JEi 0) hl rfl ((JJN 0 z f b n k).trans hg)
 · cases hr
def Jit : Jy
 | [.ro 5 z f b, .sc (.string s)], [], k => bif slB z b && Nat.ble s.size 65535 then k ⟨.ow 5 16 [] 0 (b.length + (s.size + 2)) none, [], [.vec false 5 false (b ++ pu .u8 (WV s))]⟩ else none
 | _, _, _ => none
def JPn : Sig := { own := [], run := Jit }
theorem JJT : Jc tau Tryz.prog 99 JPn := Jc.mk' fun xs es k res hl hr => by
 change Jit xs es k = some res at hr
 unfold Jit at hr
 split at hr
 · rename_i z f b s
   obtain ⟨hc, hr⟩ := Ju hr
   rw [Bool.and_eq_true, Nat.ble_eq] at hc
   obtain ⟨h1, h2⟩ := XG.1 hc.1
   have hg : JEl 0 z f b s k = some res := by
    have hm : Qg (zi s.size) 65535 = (s.size : Int) := by unfold Qg; rw [if_neg (by simp only [zi]; omega)]
    unfold JEl Jbu V7
    simp only [hm, Int.toNat_natCast, Jky]
    have hf : ∀ x y : Bool, JH [PV.ro 5 z f b, PV.ro 5 false x [PV.sc (Value.int IntKind.u8 (IntKind.u8.wrap (zi s.size))), PV.sc (Value.int IntKind.u8 (IntKind.u8.wrap (JV IntKind.i64 (zi s.size) 8)))], PV.ro 5 false y (List.take s.size (Jj s))] = b ++ pu .u8 (WV s) := by
     intro x y
     rw [X5, List.take_of_length_le (by simp), YY, GM]
     simp [PV.els, pu]
    have he : (b ++ pu .u8 (WV s)).isEmpty = false := by
     rw [YY, GM]; simp
    have hlen : (b ++ pu .u8 (WV s)).length = b.length + (s.size + 2) := by simp
    simp only [hf, List.take_length, List.drop_zero, List.take_succ_cons, List.take_zero, he, hlen, Ent.nil]
    rw [Ja (by simp), Ja (by simp [Je]; omega), Ja (by simp; omega)]
    exact hr
   exact J1 Jn Jyi Jo JJQ JJR Jt0 [] 0 0 (JJP 0) hl rfl ((JPm 0 z f b s k).trans hg)
 · cases hr
def apI : List PV -> Int -> List PV := hid fun b n => b ++ pu .u8 (QF n)
def apY : List PV -> Int -> List PV := hid fun b n => b ++ pu .u8 [IntKind.u8.wrap n]
def apT : List PV -> ByteArray -> List PV := hid fun b s => b ++ pu .u8 (WV s)
def okZ : Bool -> List PV -> Bool := hid slB
def okL : Nat -> List PV -> Bool := hid fun m l => Nat.beq m l.length && Nat.ble l.length 1000000000
theorem Zt (b : List PV) (n : Int) : apI b n = b ++ pu .u8 (QF n) := by rw [apI, hid_eq]
theorem GV (b : List PV) (n : Int) : apY b n = b ++ pu .u8 [IntKind.u8.wrap n] := by rw [apY, hid_eq]
theorem YF (b : List PV) (s : ByteArray) : apT b s = b ++ pu .u8 (WV s) := by rw [apT, hid_eq]
theorem GW (z : Bool) (b : List PV) : okZ z b = slB z b := by rw [okZ, hid_eq]
theorem Jiu (m : Nat) (l : List PV) : okL m l = (Nat.beq m l.length && Nat.ble l.length 1000000000) := by rw [okL, hid_eq]
def Jna : Jy
 | [.ro 5 z f b, .sc (.int .i64 n)], [], k => bif okZ z b then k ⟨.ro 5 false false (apI b n), [], []⟩ else none
 | _, _, _ => none
def JJU : Sig := { own := [], run := Jna }
theorem JJV : Jc tau Tryz.prog 75 JJU := fun xs es k res hl hr => JAD xs es k res hl (by
 change Jna xs es k = some res at hr
 show JhZ xs es k = some res
 unfold Jna at hr
 split at hr
 · rw [GW, Zt] at hr; exact hr
 · cases hr)
def Jiv : Jy
 | [.ro 5 z f b, .sc (.int .i64 n)], [], k => bif okZ z b then k ⟨.ow 5 16 [] 0 (apY b n).length none, [], [.vec false 5 false (apY b n)]⟩ else none
 | _, _, _ => none
def JBp : Sig := { own := [], run := Jiv }
theorem JEn : Jc tau Tryz.prog 143 JBp := fun xs es k res hl hr => JEm xs es k res hl (by
 change Jiv xs es k = some res at hr
 show JdV xs es k = some res
 unfold Jiv at hr
 split at hr
 · rename_i z f b n
   rw [GW, GV, show (b ++ pu .u8 [IntKind.u8.wrap n]).length = b.length + 1 by simp] at hr; exact hr
 · cases hr)
def Jnb : Jy
 | [.ro 5 z f b, .sc (.string s)], [], k => bif okZ z b && Nat.ble s.size 65535 then k ⟨.ow 5 16 [] 0 (apT b s).length none, [], [.vec false 5 false (apT b s)]⟩ else none
 | _, _, _ => none
def JEo : Sig := { own := [], run := Jnb }
theorem JBq : Jc tau Tryz.prog 99 JEo := fun xs es k res hl hr => JJT xs es k res hl (by
 change Jnb xs es k = some res at hr
 show Jit xs es k = some res
 unfold Jnb at hr
 split at hr
 · rename_i z f b s
   rw [GW, YF, show (b ++ pu .u8 (WV s)).length = b.length + (s.size + 2) by simp] at hr; exact hr
 · cases hr)
def Jiw : Jy
 | [.ro 5 true true [], .sc (.int .i64 n)], [], k => k ⟨.ow 5 16 [] 0 (apY [] n).length none, [], [.vec false 5 false (apY [] n)]⟩
 | [.ow 5 0 [] 0 m none, .sc (.int .i64 n)], [.vec false 5 nl l], k => bif okL m l then k ⟨.ow 5 16 [] 0 (apY l n).length none, [.dead], [.vec false 5 false (apY l n)]⟩ else none
 | _, _, _ => none
def Jt1 : Sig := { own := [true], run := Jiw }
theorem Jt2 : Jc tau Tryz.prog 126 Jt1 := fun xs es k res hl hr => JDF xs es k res hl (by
 change Jiw xs es k = some res at hr
 show Jba xs es k = some res
 unfold Jiw at hr
 split at hr
 · rw [GV] at hr; exact hr
 · rename_i m n nl l
   rw [Jiu, GV] at hr
   obtain ⟨hc, hr⟩ := Ju hr
   have hm : m = l.length := by rw [Bool.and_eq_true, Nat.beq_eq] at hc; exact hc.1
   have h2 : Jba [.ow 5 0 [] 0 m none, .sc (.int .i64 n)] [.vec false 5 nl l] k = k ⟨.ow 5 16 [] 0 (m + 1) none, [.dead], [.vec false 5 false (l ++ pu .u8 [IntKind.u8.wrap n])]⟩ := Ja hc
   rw [h2, ← hr, hm]; simp
 · cases hr)
def Jnc : Jy
 | [.ow 5 0 [] 0 m none, .sc (.int .i64 n)], [.vec false 5 nl l], k => bif okL m l then k ⟨.ow 5 16 [] 0 (apI l n).length none, [.dead], [.vec false 5 false (apI l n)]⟩ else none
 | _, _, _ => none
def JJW : Sig := { own := [true], run := Jnc }
theorem JBr : Jc tau Tryz.prog 76 JJW := fun xs es k res hl hr => JAE xs es k res hl (by
 change Jnc xs es k = some res at hr
 show JeW xs es k = some res
 unfold Jnc at hr
 split at hr
 · rename_i m n nl l
   rw [Jiu, Zt] at hr
   obtain ⟨hc, hr⟩ := Ju hr
   have hm : m = l.length := by rw [Bool.and_eq_true, Nat.beq_eq] at hc; exact hc.1
   have h2 : JeW [.ow 5 0 [] 0 m none, .sc (.int .i64 n)] [.vec false 5 nl l] k = k ⟨.ow 5 16 [] 0 (m + 8) none, [.dead], [.vec false 5 false (l ++ pu .u8 (QF n))]⟩ := Ja hc
   rw [h2, ← hr, hm]; simp
 · cases hr)
def Jnd : Jy
 | [.ow 5 0 [] 0 m none, .sc (.string s)], [.vec false 5 nl l], k => bif okL m l && Nat.ble s.size 65535 then k ⟨.ow 5 16 [] 0 (apT l s).length none, [.dead], [.vec false 5 false (apT l s)]⟩ else none
 | _, _, _ => none
def JJX : Sig := { own := [true], run := Jnd }
theorem JBs : Jc tau Tryz.prog 80 JJX := fun xs es k res hl hr => JIz xs es k res hl (by
 change Jnd xs es k = some res at hr
 show JeX xs es k = some res
 unfold Jnd at hr
 split at hr
 · rename_i m s nl l
   rw [Jiu, YF] at hr
   obtain ⟨hc, hr⟩ := Ju hr
   have hm : m = l.length := by simp only [Bool.and_eq_true, Nat.beq_eq] at hc; exact hc.1.1
   have h2 : JeX [.ow 5 0 [] 0 m none, .sc (.string s)] [.vec false 5 nl l] k = k ⟨.ow 5 16 [] 0 (m + (s.size + 2)) none, [.dead], [.vec false 5 false (l ++ pu .u8 (WV s))]⟩ := Ja hc
   rw [h2, ← hr, hm]; simp
 · cases hr)
def JJY : Fns := Jr 123 JsW (F0)
theorem Jyj : Jp tau Tryz.prog JJY := (Js).add JsX JsV
def Jyk : Nm := [(0, .any), (1, .any), (5, .own), (6, .any)]
def JEp : An := (.seq .leaf (.seq .leaf (.seq .leaf (.seq .leaf (.seq (.seq .leaf (.seq .leaf (.cond .leaf .leaf))) (.seq .leaf .leaf))))))
def Jt3 : An := (.seq .leaf (.scope Jyk JEp))
abbrev Jix (n : Int) := (IntKind.u8.wrap (JV IntKind.u64 (IntKind.u64.wrap n) (IntKind.i64.wrap (8 * IntKind.i64.wrap (0 + 1)))))
abbrev Jiy (n : Int) := (IntKind.u8.wrap (JV IntKind.u64 (IntKind.u64.wrap n) (IntKind.i64.wrap (8 * IntKind.i64.wrap (IntKind.i64.wrap (0 + 1) + 1)))))
abbrev Jiz (n : Int) := (IntKind.u8.wrap (JV IntKind.u64 (IntKind.u64.wrap n) (IntKind.i64.wrap (8 * IntKind.i64.wrap (IntKind.i64.wrap (IntKind.i64.wrap (0 + 1) + 1) + 1)))))
abbrev Jbv := (IntKind.i64.wrap (IntKind.i64.wrap (IntKind.i64.wrap (0 + 1) + 1) + 1) + 1)
abbrev JiA (n : Int) := (IntKind.u8.wrap (JV IntKind.u64 (IntKind.u64.wrap n) (IntKind.i64.wrap (8 * IntKind.i64.wrap Jbv))))
abbrev JiB (n : Int) := (IntKind.u8.wrap (JV IntKind.u64 (IntKind.u64.wrap n) (IntKind.i64.wrap (8 * IntKind.i64.wrap (IntKind.i64.wrap Jbv + 1)))))
abbrev JiC (n : Int) := (IntKind.u8.wrap (JV IntKind.u64 (IntKind.u64.wrap n) (IntKind.i64.wrap (8 * IntKind.i64.wrap (IntKind.i64.wrap (IntKind.i64.wrap Jbv + 1) + 1)))))
abbrev JiD (n : Int) := (IntKind.u8.wrap (JV IntKind.u64 (IntKind.u64.wrap n) (IntKind.i64.wrap (8 * IntKind.i64.wrap (IntKind.i64.wrap (IntKind.i64.wrap (IntKind.i64.wrap Jbv + 1) + 1) + 1)))))
abbrev JdW (b : List PV) (n : Int) := (List.take (0 + b.length + 1 + 1 + 1 + 1 + 1 + 1 + 1 + 1) (List.take (0 + b.length + 1 + 1 + 1 + 1 + 1 + 1 + 1) (List.take (0 + b.length + 1 + 1 + 1 + 1 + 1 + 1) (List.take (0 + b.length + 1 + 1 + 1 + 1 + 1) (List.take (0 + b.length + 1 + 1 + 1 + 1) (List.take (0 + b.length + 1 + 1 + 1) (List.take (0 + b.length + 1 + 1) (List.take (0 + b.length + 1) (List.take (0 + b.length) b ++ [PV.sc (.int .u8 (IntKind.u8.wrap (JV IntKind.u64 (IntKind.u64.wrap n) (IntKind.i64.wrap (8 * 0)))))]) ++ [PV.sc (.int .u8 (Jix n))]) ++ [PV.sc (.int .u8 (Jiy n))]) ++ [PV.sc (.int .u8 (Jiz n))]) ++ [PV.sc (.int .u8 (JiA n))]) ++ [PV.sc (.int .u8 (JiB n))]) ++ [PV.sc (.int .u8 (JiC n))]) ++ [PV.sc (.int .u8 (JiD n))]))
def Jt4 (f : Nat) (b_z b_f : Bool) (b : List PV) (n : Int) (k : KR) : OR := bif b_z then k (Res.mk (.ow 5 16 [] 0 8 none) [] [.vec false 5 false [.sc (.int .u8 (IntKind.u8.wrap (JV IntKind.u64 (IntKind.u64.wrap n) (IntKind.i64.wrap (8 * 0))))), .sc (.int .u8 (Jix n)), .sc (.int .u8 (Jiy n)), .sc (.int .u8 (Jiz n)), .sc (.int .u8 (JiA n)), .sc (.int .u8 (JiB n)), .sc (.int .u8 (JiC n)), .sc (.int .u8 (JiD n))]]) else bif Je (0 + b.length) 1 && true then bif Je (0 + b.length + 1) 1 && true then bif Je (0 + b.length + 1 + 1) 1 && true then bif Je (0 + b.length + 1 + 1 + 1) 1 && true then bif Je (0 + b.length + 1 + 1 + 1 + 1) 1 && true then bif Je (0 + b.length + 1 + 1 + 1 + 1 + 1) 1 && true then bif Je (0 + b.length + 1 + 1 + 1 + 1 + 1 + 1) 1 && true then bif Je (0 + b.length + 1 + 1 + 1 + 1 + 1 + 1 + 1) 1 && true then bif Je (0 + b.length + 1 + 1 + 1 + 1 + 1 + 1 + 1 + 1) 1 && true then bif Je (0 + (JdW b n).length) 1 && true then k (Res.mk (.ow 5 16 [] 0 (0 + (JdW b n).length) none) [] [.vec false 5 false (JdW b n)]) else none else none else none else none else none else none else none else none else none else none
theorem JPo (f : Nat) (b_z b_f : Bool) (b : List PV) (n : Int) (k : KR) : JI tau JJY Tryz.f75 (Tryz.f75.body.get!) Jt3 [] 12 [.ro 5 b_z b_f b, .sc (.int .i64 n)] [] k = Jt4 f b_z b_f b n k := by kernel_rfl
theorem JJZ (f : Nat) : ∀ q ∈ Jf (Tryz.f75.body.get!) Jt3, q.Ok tau Tryz.prog 0 := Jv (by kernel_rfl)
theorem JJ0 : Tryz.prog.funcs[75]? = some Tryz.f75 := by kernel_rfl
theorem JJ1 : Tryz.f75.body = some (Tryz.f75.body.get!) := by kernel_rfl
def F80 : Fns := F0
theorem JEq : Jp tau Tryz.prog F80 := Js
def JEr : An := (.seq .leaf (.seq (.seq .leaf (.cond .leaf .leaf)) (.seq .leaf .leaf)))
def g80 (f : Nat) (s : ByteArray) (k : KR) : OR := bif decide (zi s.size > 65535) then bif decide (65535 <= s.size) && true then bif Je (2 + (Jj (s.extract 0 65535)).length) 1 && true then k (Res.mk (.ow 5 16 [] 0 (2 + (Jj (s.extract 0 65535)).length) none) [] [.vec false 5 false (.sc (.int .u8 (IntKind.u8.wrap (zi (s.extract 0 65535).size))) :: .sc (.int .u8 (IntKind.u8.wrap (JV IntKind.i64 (zi (s.extract 0 65535).size) 8))) :: id (Jj (s.extract 0 65535)))]) else none else none else bif Je (2 + (Jj s).length) 1 && true then k (Res.mk (.ow 5 16 [] 0 (2 + (Jj s).length) none) [] [.vec false 5 false (.sc (.int .u8 (IntKind.u8.wrap (zi s.size))) :: .sc (.int .u8 (IntKind.u8.wrap (JV IntKind.i64 (zi s.size) 8))) :: id (Jj s))]) else none
theorem e80 (f : Nat) (s : ByteArray) (k : KR) : JI tau F80 Tryz.f80 (Tryz.f80.body.get!) JEr [] 0 [.ro 5 true true [], .sc (.string s)] [] k = g80 f s k := by kernel_rfl
theorem JPp (f : Nat) : ∀ q ∈ Jf (Tryz.f80.body.get!) JEr, q.Ok tau Tryz.prog 0 := Jv (by kernel_rfl)
theorem JJ2 : Tryz.prog.funcs[80]? = some Tryz.f80 := by kernel_rfl
theorem JJ3 : Tryz.f80.body = some (Tryz.f80.body.get!) := by kernel_rfl
theorem JJ4 : Enters Tryz.prog 80 := enters_of JJ2 (by kernel_rfl) JJ3
def Jne : Jy
 | [.ro 5 z f b, .sc (.int .i64 n)], [], k => bif okZ z b then k ⟨.ow 5 16 [] 0 (apI b n).length none, [], [.vec false 5 false (apI b n)]⟩ else none
 | _, _, _ => none
def JJ5 : Sig := { own := [], run := Jne }
theorem Jt5 (f : Bool) (n : Int) (k : KR) : Jt4 0 true f [] n k = k ⟨.ow 5 16 [] 0 8 none, [], [.vec false 5 false (pu .u8 (QF n))]⟩ := by
 rw [Yq]; kernel_rfl
theorem JEs (f : Bool) (b : List PV) (hb : b.length <= 1000000000) (n : Int) (k : KR) : Jt4 0 false f b n k = k ⟨.ow 5 16 [] 0 (b.length + 8) none, [], [.vec false 5 false (b ++ pu .u8 (QF n))]⟩ := by
 rw [Yq]
 unfold Jt4 JdW JiD JiC JiB JiA Jbv Jiz Jiy Jix
 refine (Jd rfl).trans ?_
 repeat rw [List.take_of_length_le (by simp <;> omega)]
 repeat (refine (Ja (by simp [Je]; omega)).trans ?_)
 simp only [List.nil_append, List.append_assoc, List.length_append, List.length_cons, List.length_nil, Nat.zero_add]
 rfl
theorem JJ6 : Jc tau Tryz.prog 75 JJ5 := Jc.mk' fun xs es k res hl hr => by
 change Jne xs es k = some res at hr
 unfold Jne at hr
 split at hr
 · rename_i z f b n
   obtain ⟨hc, hr2⟩ := Ju hr
   clear hr
   rw [GW] at hc
   obtain ⟨h1, h2⟩ := XG.1 hc
   rw [Zt] at hr2
   have hg : Jt4 0 z f b n k = some res := by
    cases z with
    | true => obtain rfl := h1 rfl; rw [Jt5]; simpa using hr2
    | false => rw [JEs f b h2]; simpa using hr2
   exact J1 Jn Jyj Jo JJ0 JJ1 Jt3 [] 0 12 (JJZ 0) hl rfl ((JPo 0 z f b n k).trans hg)
 · cases hr
def Jnf : Jy
 | [.ro 5 true true [], .sc (.int .i64 n)], [], k => k ⟨.ow 5 16 [] 0 (apI [] n).length none, [], [.vec false 5 false (apI [] n)]⟩
 | [.ow 5 0 [] 0 m none, .sc (.int .i64 n)], [.vec false 5 nl l], k => bif okL m l then k ⟨.ow 5 16 [] 0 (apI l n).length none, [.dead], [.vec false 5 false (apI l n)]⟩ else none
 | _, _, _ => none
def Jyl : Sig := { own := [true], run := Jnf }
theorem Jt6 : Jc tau Tryz.prog 76 Jyl := fun xs es k res hl hr => by
 change Jnf xs es k = some res at hr
 unfold Jnf at hr
 split at hr
 · rename_i n
   refine JAE _ _ k res hl ?_
   rw [Zt] at hr
   show k ⟨.ow 5 16 [] 0 8 none, [], [.vec false 5 false (pu .u8 (QF n))]⟩ = some res
   simpa using hr
 · rename_i m n nl l
   exact JBr _ _ k res hl hr
 · cases hr
def Jng : Jy
 | [.ro 5 true true [], .sc (.string s)], [], k => bif Nat.ble s.size 65535 then k ⟨.ow 5 16 [] 0 (apT [] s).length none, [], [.vec false 5 false (apT [] s)]⟩ else none
 | [.ow 5 0 [] 0 m none, .sc (.string s)], [.vec false 5 nl l], k => bif okL m l && Nat.ble s.size 65535 then k ⟨.ow 5 16 [] 0 (apT l s).length none, [.dead], [.vec false 5 false (apT l s)]⟩ else none
 | _, _, _ => none
def JEt : Sig := { own := [true], run := Jng }
theorem JBt : Jc tau Tryz.prog 80 JEt := Jc.mk' fun xs es k res hl hr => by
 change Jng xs es k = some res at hr
 unfold Jng at hr
 split at hr
 · rename_i s
   obtain ⟨hc, hr⟩ := Ju hr
   rw [Nat.ble_eq] at hc
   have hob : (Jj s).length = s.size := by rw [X5]; simp
   have hg : g80 0 s k = some res := by
    unfold g80
    rw [Jd (by simp only [zi, decide_eq_false_iff_not]; omega), Ja (by simp [Je, hob]; omega), hob]
    rw [YF, YY, GM] at hr
    simp only [List.nil_append, Qa, List.length_append, JD, JmE, List.length_cons, List.length_nil, ← X5] at hr
    rw [← hr, hob]
    simp only [id, JdQ, JlW, List.cons_append, List.nil_append, Nat.zero_add, Nat.reduceAdd]
   exact J1 Jn JEq Jo JJ2 JJ3 JEr [] 0 0 (JPp 0) hl rfl ((e80 0 s k).trans hg)
 · rename_i m s nl l
   exact JBs _ _ k res hl hr
 · cases hr
def Jt7 : Nat := 34
def JEu : Fns := Jr 143 JBp (Jr 99 JEo (Jr 75 JJU (F0)))
theorem JpR : Jp tau Tryz.prog JEu := (((Js).add JJV JDt).add JBq JIa).add JEn JH9
def Jfc : Code := Qd (Tryz.f100.body.get!) [1, 0]
def Jbw : Nm := [(0, .any), (3, .own), (4, .any)]
def JiE : Nm := [(2, .any)]
def JiF : An := (.seq .leaf (.seq .leaf (.seq .leaf (.seq (.seq .leaf (.cond (.seq .leaf (.seq .leaf .leaf)) .leaf)) (.seq .leaf .leaf)))))
def JpS (r0 : Jsm) : An := (.seq .leaf (.ssum Jbw Jt7 (JiF) r0))
abbrev Jym := List PV -> OR) : Nat -> Bool -> Bool -> List PV -> Nat -> Int -> List PV -> OR
abbrev Ww (v2 : List PV) (v4 : Int) := (PV.child (0 + 1 + 1) (v2.getD v4.toNat PV.top))
abbrev Xu (v2 : List PV) (v4 : Int) := (PV.isSt 53 #[Field.mk "Kind" 3 0 false "" "" 0, Field.mk "N" 3 1 false "" "" 8, Field.mk "S" 9 2 false "" "" 16].size (v2.getD v4.toNat PV.top) && (PV.isInt IntKind.i64 (PV.child 0 (v2.getD v4.toNat PV.top)) && (PV.isInt IntKind.i64 (PV.child (0 + 1) (v2.getD v4.toNat PV.top)) && ((Ww v2 v4).isStr && true))))
abbrev Wx (v2 : List PV) (v3 : Nat) (v4 : Int) (v5 : List PV) := (List.take (apY (List.take v3 v5) (PV.child 0 (v2.getD v4.toNat PV.top)).int).length (apY (List.take v3 v5) (PV.child 0 (v2.getD v4.toNat PV.top)).int))
def Vv (f : Nat) (rc : Bool -> Bool -> List PV -> Nat -> Int -> List PV -> OR) (k0 : Nat -> List PV -> OR) (v0 v1 : Bool) (v2 : List PV) (v3 : Nat) (v4 : Int) (v5 : List PV) : OR := bif decide (v4 < zi v2.length) then bif decide (0 <= v4) && decide (v4 < zi v2.length) && (Xu v2 v4) && true then bif okZ false (List.take v3 v5) then bif decide (0 <= v4) && decide (v4 < zi v2.length) && (Xu v2 v4) && true then bif okZ false (Wx v2 v3 v4 v5) then bif decide (0 <= v4) && decide (v4 < zi v2.length) && (Xu v2 v4) && true then bif okZ false (apI (Wx v2 v3 v4 v5) (PV.child (0 + 1) (v2.getD v4.toNat PV.top)).int) && (Ww v2 v4).str.size.ble 65535 then rc v0 v1 v2 ((apT (apI (Wx v2 v3 v4 v5) (PV.child (0 + 1) (v2.getD v4.toNat PV.top)).int) (Ww v2 v4).str).length) (IntKind.i64.wrap (v4 + 1)) (apT (apI (Wx v2 v3 v4 v5) (PV.child (0 + 1) (v2.getD v4.toNat PV.top)).int) (Ww v2 v4).str) else none else none else none else none else none else none else k0 v3 v5
def Zu (f : Nat) (k0 : Nat -> Jym
 | 0 => fun _ _ _ _ _ _ => none
 | n + 1 => Vv f (Zu f k0 n) k0
def V8 (k : Kont) := fun x0 x1 => k Ex.ret (Ji JiE Jt7 [.ow 5 560 [] 0 x0 none] [(560, .vec false 5 false x1)])
def JiG (f : Nat) (k : Kont) (n : Nat) (v0 v1 : Bool) (v2 : List PV) (v3 : Nat) (v4 : Int) (v5 : List PV) : OR := Q5 tau 0 Jbw (hasLabel Jfc) (fun l s k => Qh tau JEu 0 0 Jfc (JiF ) l s k) n 0 (Ji Jbw Jt7 [.ro 53 v0 v1 v2, .ow 5 560 [] 0 v3 none, .sc (.int .i64 v4)] [(560, .vec false 5 false v5)]) (JG tau 0 JiE k)
theorem Jt8 (f : Nat) (k : Kont) (n : Nat) : JiG f k (n + 1) = Vv f (JiG f k n) (V8 k) := by kernel_rfl
theorem JkH (f : Nat) (k : Kont) : ∀ n, JiG f k n = Zu f (V8 k) n
 | 0 => rfl
 | n + 1 => (Jt8 f k n).trans (congrArg (fun r => Vv f r (V8 k)) (JkH f k n))
def GX (f : Nat) : Nat -> List PV -> List (Nat × Ent) -> Kont -> OR
 | 0, [.ro 53 v0 v1 v2, .ow 5 560 [] 0 v3 none,
 PV.sc
  (Value.int IntKind.i64
   v4)], [(560, .vec false 5 false v5)], k => Zu f (V8 k) f v0 v1 v2 v3 v4 v5
 | _, _, _, _ => none
theorem Jyn (f : Nat) : Jf Jfc JiF = [] := by kernel_rfl
theorem Jyo (f : Nat) : (Item.s Jfc Jbw Jt7 (GX f)).Ok tau Tryz.prog 0 := X0 Jn JpR Jo (x := JiF) (nm2 := JiE) (Jl _ _ (by rw [Jyn f]; intro q hq; cases hq)) fun l vs hp k res hr => by
 unfold GX at hr
 split at hr
 · rw [← JkH f] at hr; exact ⟨f, 0, hr⟩
 · cases hr
abbrev JdX (o : List PV) := (List.take (apY [] (zi o.length)).length (apY [] (zi o.length)))
abbrev Jbx (o : List PV) := (apY (JdX o) (PV.child 0 (o.getD 0 PV.top)).int)
abbrev Jby (o : List PV) := (PV.child (0 + 1 + 1) (o.getD 0 PV.top))
abbrev JdY (o : List PV) := (PV.isSt 53 #[Field.mk "Kind" 3 0 false "" "" 0, Field.mk "N" 3 1 false "" "" 8, Field.mk "S" 9 2 false "" "" 16].size (o.getD (Int.toNat 0) PV.top) && (PV.isInt IntKind.i64 (PV.child 0 (o.getD 0 PV.top)) && (PV.isInt IntKind.i64 (PV.child (0 + 1) (o.getD 0 PV.top)) && ((Jby o).isStr && true))))
abbrev JdZ (o : List PV) := (apI (List.take (Jbx o).length (Jbx o)) (PV.child (0 + 1) (o.getD 0 PV.top)).int)
def JEv (f : Nat) (o_z o_f : Bool) (o : List PV) (k : KR) : OR := bif okZ true [] then bif decide (0 < zi o.length) then bif decide (0 < zi o.length) && (JdY o) && true then bif okZ false (JdX o) then bif decide (0 < zi o.length) && (JdY o) && true then bif okZ false (List.take (Jbx o).length (Jbx o)) then bif decide (0 < zi o.length) && (JdY o) && true then bif okZ false (JdZ o) && (Jby o).str.size.ble 65535 then Zu f (fun x0_0 x1_0 => k (Res.mk (.ro 5 false false (List.take x0_0 x1_0)) [] [])) f o_z o_f o ((apT (JdZ o) (Jby o).str).length) (IntKind.i64.wrap (0 + 1)) (apT (JdZ o) (Jby o).str) else none else none else none else none else none else none else k (Res.mk (.ro 5 false false (JdX o)) [] []) else none
theorem JPq (f : Nat) (o_z o_f : Bool) (o : List PV) (k : KR) : JI tau JEu Tryz.f100 (Tryz.f100.body.get!) (JpS (GX f)) [.ro] 0 [.ro 53 o_z o_f o] [] k = JEv f o_z o_f o k := by kernel_rfl
theorem JJ7 (f : Nat) : Jf (Tryz.f100.body.get!) (JpS (GX f)) = [.s Jfc Jbw Jt7 (GX f)] := by kernel_rfl
theorem JJ8 (f : Nat) : ∀ q ∈ Jf (Tryz.f100.body.get!) (JpS (GX f)), q.Ok tau Tryz.prog 0 := by rw [JJ7 f]; exact JJ (Jyo f) (fun _ h => nomatch h)
theorem JBu : Tryz.prog.funcs[100]? = some Tryz.f100 := by kernel_rfl
theorem JBv : Tryz.f100.body = some (Tryz.f100.body.get!) := by kernel_rfl
theorem JJ9 : Enters Tryz.prog 100 := enters_of JBu (by kernel_rfl) JBv
def N81 : Nat := 34
def F81 : Fns := Jr 126 Jt1 (Jr 80 JJX (Jr 76 JJW (F0)))
theorem Jt9 : Jp tau Tryz.prog F81 := (((Js).add JBr Jxl).add JBs JIr).add Jt2 JAw
def JpT : Code := Qd (Tryz.f81.body.get!) [1, 1, 0, 1, 0, 0]
def Jfd : Nm := [(0, .any), (3, .own), (4, .any)]
def Jnh : Nm := [(3, .any)]
def Jua : An := (.seq (.seq .leaf (.cond .leaf .leaf)) (.seq (.block none .leaf) .leaf))
def Jyp (r0 : Qt) : An := (.seq .leaf (.seq .leaf (.seq (.seq .leaf (.block none (.sum Jfd N81 r0))) (.seq .leaf .leaf))))
abbrev JEw := List PV -> OR) : Nat -> Bool -> Bool -> List PV -> Nat -> Int -> List PV -> OR
abbrev W7 (v2 : List PV) (v4 : Int) := (PV.child (0 + 1 + 1) (v2.getD v4.toNat PV.top))
abbrev X7 (v2 : List PV) (v4 : Int) := (PV.isSt 53 #[Field.mk "Kind" 3 0 false "" "" 0, Field.mk "N" 3 1 false "" "" 8, Field.mk "S" 9 2 false "" "" 16].size (v2.getD v4.toNat PV.top) && (PV.isInt IntKind.i64 (PV.child 0 (v2.getD v4.toNat PV.top)) && (PV.isInt IntKind.i64 (PV.child (0 + 1) (v2.getD v4.toNat PV.top)) && ((W7 v2 v4).isStr && true))))
abbrev W8 (v2 : List PV) (v4 : Int) (v5 : List PV) := (apI (apY v5 (PV.child 0 (v2.getD v4.toNat PV.top)).int) (PV.child (0 + 1) (v2.getD v4.toNat PV.top)).int)
def Jbz (f : Nat) (rc : Bool -> Bool -> List PV -> Nat -> Int -> List PV -> OR) (k0 : Nat -> List PV -> OR) (v0 v1 : Bool) (v2 : List PV) (v3 : Nat) (v4 : Int) (v5 : List PV) : OR := bif decide (v4 < zi v2.length) then bif decide (0 <= v4) && decide (v4 < zi v2.length) && (X7 v2 v4) && true then bif okL v3 v5 then bif decide (0 <= v4) && decide (v4 < zi v2.length) && (X7 v2 v4) && true then bif okL (apY v5 (PV.child 0 (v2.getD v4.toNat PV.top)).int).length (apY v5 (PV.child 0 (v2.getD v4.toNat PV.top)).int) then bif decide (0 <= v4) && decide (v4 < zi v2.length) && (X7 v2 v4) && true then bif okL (W8 v2 v4 v5).length (W8 v2 v4 v5) && (W7 v2 v4).str.size.ble 65535 then rc v0 v1 v2 ((apT (W8 v2 v4 v5) (W7 v2 v4).str).length) (IntKind.i64.wrap (v4 + 1)) (apT (W8 v2 v4 v5) (W7 v2 v4).str) else none else none else none else none else none else none else k0 v3 v5
def GY (f : Nat) (k0 : Nat -> JEw
 | 0 => fun _ _ _ _ _ _ => none
 | n + 1 => Jbz f (GY f k0 n) k0
def JbA (k : Kont) := fun x0 x1 => k (Ex.exit 0) (Ji Jnh N81 [.ow 5 560 [] 0 x0 none] [(560, .vec false 5 false x1)])
def Jni (f : Nat) (k : Kont) (n : Nat) (v0 v1 : Bool) (v2 : List PV) (v3 : Nat) (v4 : Int) (v5 : List PV) : OR := Jx tau 0 Jfd (fun s k => ev tau F81 0 0 JpT (Jua ) s k) n (Ji Jfd N81 [.ro 53 v0 v1 v2, .ow 5 560 [] 0 v3 none, .sc (.int .i64 v4)] [(560, .vec false 5 false v5)]) (JG tau 0 Jnh k)
theorem Jyq (f : Nat) (k : Kont) (n : Nat) : Jni f k (n + 1) = Jbz f (Jni f k n) (JbA k) := by kernel_rfl
theorem JpU (f : Nat) (k : Kont) : ∀ n, Jni f k n = GY f (JbA k) n
 | 0 => rfl
 | n + 1 => (Jyq f k n).trans (congrArg (fun r => Jbz f r (JbA k)) (JpU f k n))
def Jfe (f : Nat) : List PV -> List (Nat × Ent) -> Kont -> OR
 | [.ro 53 v0 v1 v2, .ow 5 560 [] 0 v3 none,
 PV.sc
  (Value.int IntKind.i64
   v4)], [(560, .vec false 5 false v5)], k => GY f (JbA k) f v0 v1 v2 v3 v4 v5
 | _, _, _ => none
theorem JEx (f : Nat) : Jf JpT Jua = [] := by kernel_rfl
theorem JEy (f : Nat) : (Item.l JpT Jfd N81 (Jfe f)).Ok tau Tryz.prog 0 := Jt Jn Jt9 Jo (x := Jua) (nm2 := Jnh) (Jl _ _ (by rw [JEx f]; intro q hq; cases hq)) fun vs hp k res hr => by
 unfold Jfe at hr
 split at hr
 · rw [← JpU f] at hr; exact ⟨f, 0, hr⟩
 · cases hr
def g81 (f : Nat) (o_z o_f : Bool) (o : List PV) (k : KR) : OR := GY f (fun x0_0 x1_0 => k (Res.mk (.ow 5 16 [] 0 x0_0 none) [] [.vec false 5 false x1_0])) f o_z o_f o ((apY [] (zi o.length)).length) (0) (apY [] (zi o.length))
theorem e81 (f : Nat) (o_z o_f : Bool) (o : List PV) (k : KR) : JI tau F81 Tryz.f81 (Tryz.f81.body.get!) (Jyp (Jfe f)) [] 0 [.ro 53 o_z o_f o] [] k = g81 f o_z o_f o k := by kernel_rfl
theorem JPr (f : Nat) : Jf (Tryz.f81.body.get!) (Jyp (Jfe f)) = [.l JpT Jfd N81 (Jfe f)] := by kernel_rfl
theorem JPs (f : Nat) : ∀ q ∈ Jf (Tryz.f81.body.get!) (Jyp (Jfe f)), q.Ok tau Tryz.prog 0 := by rw [JPr f]; exact JJ (JEy f) (fun _ h => nomatch h)
theorem JKa : Tryz.prog.funcs[81]? = some Tryz.f81 := by kernel_rfl
theorem JKb : Tryz.f81.body = some (Tryz.f81.body.get!) := by kernel_rfl
theorem JKc : Enters Tryz.prog 81 := enters_of JKa (by kernel_rfl) JKb
def JpV (c : CV) : List Int := [IntKind.u8.wrap c.kd] ++ (QF c.n ++ WV c.s)
def WN (l : List PV) : List Int := l.flatMap fun p => JpV (cv p)
def JrF (l : List PV) : List Int := [IntKind.u8.wrap (zi l.length)] ++ WN l
def opB : List PV -> List Int := hid JrF
theorem JiH (l : List PV) : opB l = JrF l := by rw [opB, hid_eq]
theorem XI (c : CV) : (JpV c).length = c.s.size + 11 := by simp [JpV]; omega
def cBy : List PV -> Bool := hid fun l => l.all isCp && (l.all (fun p => decide ((cv p).s.size <= 65535)) && decide (l.length <= 1000))
theorem JbB {l : List PV} : cBy l = true ↔ l.all isCp = true /\ (∀ p ∈ l, (cv p).s.size <= 65535) /\ l.length <= 1000 := by
 rw [cBy, hid_eq]; simp only [Bool.and_eq_true, List.all_eq_true, decide_eq_true_eq]
theorem GZ (m : Nat) : ∀ l : List PV, (∀ p ∈ l, (cv p).s.size <= m) -> (WN l).length <= l.length * (m + 11)
 | [], _ => by simp [WN]
 | p :: l, h => by
  have h1 := h p List.mem_cons_self
  have h2 := GZ m l fun x hx => h x (List.mem_cons_of_mem _ hx)
  simp only [WN, List.flatMap_cons, List.length_append, XI, List.length_cons, Nat.add_mul] at h2 ⊢
  omega
theorem JiI (L : List PV) (p : PV) : apT (apI (apY L (PV.child 0 p).int) (PV.child (0 + 1) p).int) (PV.child (0 + 1 + 1) p).str = L ++ pu .u8 (JpV (cv p)) := by
 rw [YF, Zt, GV]
 show _ = L ++ pu .u8 ([IntKind.u8.wrap (PV.child 0 p).int] ++ (QF (PV.child (0 + 1) p).int ++ WV (PV.child (0 + 1 + 1) p).str))
 simp only [Qa, List.append_assoc]
theorem XJ (L : List PV) (n : Int) : (apY L n).length = L.length + 1 := by rw [GV]; simp
theorem Xl (L : List PV) (n : Int) : (apI L n).length = L.length + 8 := by rw [Zt]; simp
theorem W9 {l : List PV} (h : l.length <= 1000000000) : okL l.length l = true := by
 rw [Jiu, Bool.and_eq_true, Nat.beq_eq, Nat.ble_eq]; exact ⟨rfl, h⟩
theorem Vw {l : List PV} (h : l.length <= 1000000000) : okZ false l = true := by rw [GW]; exact XG.2 ⟨fun h => (by cases h), h⟩
theorem Jub (l : List PV) (h1 : l.all isCp = true) (h3 : ∀ p ∈ l, (cv p).s.size <= 65535) (h2 : l.length <= 1000) (f : Nat) (k0 : Nat -> List PV -> OR) (z fl : Bool) : ∀ (d i n : Nat) (L : List PV), i + d = l.length -> d < n -> L.length <= 1 + i * 65546 ->
  Zu f k0 n z fl l L.length (i : Int) L = k0 (L ++ pu .u8 (WN (l.drop i))).length (L ++ pu .u8 (WN (l.drop i)))
 | 0, i, n + 1, L, hi, hn, hL => by
   rw [List.drop_of_length_le (by omega)]
   simp only [Zu, Vv, Wx, Xu, Ww, WN, List.flatMap_nil, JlW, List.append_nil]
   exact Jd (by simp [zi]; omega)
 | d + 1, i, n + 1, L, hi, hn, hL => by
   have g1 := tI i
   have w1 := wI (i := i) (by omega)
   have hro : (decide (0 <= (i : Int)) && decide ((i : Int) < zi l.length) && (PV.isSt 53 #[Field.mk "Kind" 3 0 false "" "" 0, Field.mk "N" 3 1 false "" "" 8, Field.mk "S" 9 2 false "" "" 16].size (l.getD i PV.top) && (PV.isInt IntKind.i64 (PV.child 0 (l.getD i PV.top)) && (PV.isInt IntKind.i64 (PV.child (0 + 1) (l.getD i PV.top)) && ((PV.child (0 + 1 + 1) (l.getD i PV.top)).isStr && true)))) && true) = true := by
    have hq : (PV.isSt 53 #[Field.mk "Kind" 3 0 false "" "" 0, Field.mk "N" 3 1 false "" "" 8, Field.mk "S" 9 2 false "" "" 16].size (l.getD i PV.top) && (PV.isInt IntKind.i64 (PV.child 0 (l.getD i PV.top)) && (PV.isInt IntKind.i64 (PV.child (0 + 1) (l.getD i PV.top)) && ((PV.child (0 + 1 + 1) (l.getD i PV.top)).isStr && true)))) = true := W6 (Wv h1 (by omega))
    rw [hq]; simp [zi]; omega
   have hd := JY (l := l) (i := i) (by omega)
   have hmem : l.getD i .top ∈ l := by rw [List.getD_eq_getElem?_getD, List.getElem?_eq_getElem (by omega)]; exact List.getElem_mem (by omega)
   have hsz := h3 _ hmem
   have hs2 : (PV.child (0 + 1 + 1) (l.getD i PV.top)).str.size.ble 65535 = true := Nat.ble_eq.symm ▸ hsz
   have hi2 : i * 65546 <= 999 * 65546 := Nat.mul_le_mul_right _ (by omega)
   simp only [Zu, Vv, Wx, Xu, Ww, g1, w1, List.take_length]
   refine (Ja (by simp [zi]; omega)).trans ((Ja hro).trans ((Ja (Vw (by omega))).trans ((Ja hro).trans ((Ja (Vw (by rw [XJ]; omega))).trans ((Ja hro).trans ((Ja (by rw [Vw (by rw [Xl, XJ]; omega), hs2]; rfl)).trans ?_))))))
   rw [JiI]
   refine (Jub l h1 h3 h2 f k0 z fl d (i + 1) n _ (by omega) (by omega) (by rw [List.length_append, JD, XI]; omega)).trans ?_
   rw [hd]
   simp only [WN, List.flatMap_cons, Qa, List.append_assoc]
theorem JBw (l : List PV) (h1 : l.all isCp = true) (h3 : ∀ p ∈ l, (cv p).s.size <= 65535) (h2 : l.length <= 1000) (f : Nat) (k0 : Nat -> List PV -> OR) (z fl : Bool) : ∀ (d i n : Nat) (L : List PV), i + d = l.length -> d < n -> L.length <= 1 + i * 65546 ->
  GY f k0 n z fl l L.length (i : Int) L = k0 (L ++ pu .u8 (WN (l.drop i))).length (L ++ pu .u8 (WN (l.drop i)))
 | 0, i, n + 1, L, hi, hn, hL => by
   rw [List.drop_of_length_le (by omega)]
   simp only [GY, Jbz, W8, X7, W7, WN, List.flatMap_nil, JlW, List.append_nil]
   exact Jd (by simp [zi]; omega)
 | d + 1, i, n + 1, L, hi, hn, hL => by
   have g1 := tI i
   have w1 := wI (i := i) (by omega)
   have hro : (decide (0 <= (i : Int)) && decide ((i : Int) < zi l.length) && (PV.isSt 53 #[Field.mk "Kind" 3 0 false "" "" 0, Field.mk "N" 3 1 false "" "" 8, Field.mk "S" 9 2 false "" "" 16].size (l.getD i PV.top) && (PV.isInt IntKind.i64 (PV.child 0 (l.getD i PV.top)) && (PV.isInt IntKind.i64 (PV.child (0 + 1) (l.getD i PV.top)) && ((PV.child (0 + 1 + 1) (l.getD i PV.top)).isStr && true)))) && true) = true := by
    have hq : (PV.isSt 53 #[Field.mk "Kind" 3 0 false "" "" 0, Field.mk "N" 3 1 false "" "" 8, Field.mk "S" 9 2 false "" "" 16].size (l.getD i PV.top) && (PV.isInt IntKind.i64 (PV.child 0 (l.getD i PV.top)) && (PV.isInt IntKind.i64 (PV.child (0 + 1) (l.getD i PV.top)) && ((PV.child (0 + 1 + 1) (l.getD i PV.top)).isStr && true)))) = true := W6 (Wv h1 (by omega))
    rw [hq]; simp [zi]; omega
   have hd := JY (l := l) (i := i) (by omega)
   have hmem : l.getD i .top ∈ l := by rw [List.getD_eq_getElem?_getD, List.getElem?_eq_getElem (by omega)]; exact List.getElem_mem (by omega)
   have hsz := h3 _ hmem
   have hs2 : (PV.child (0 + 1 + 1) (l.getD i PV.top)).str.size.ble 65535 = true := Nat.ble_eq.symm ▸ hsz
   have hi2 : i * 65546 <= 999 * 65546 := Nat.mul_le_mul_right _ (by omega)
   simp only [GY, Jbz, W8, X7, W7, g1, w1, List.take_length]
   refine (Ja (by simp [zi]; omega)).trans ((Ja hro).trans ((Ja (W9 (by omega))).trans ((Ja hro).trans ((Ja (W9 (by rw [XJ]; omega))).trans ((Ja hro).trans ((Ja (by rw [W9 (by rw [Xl, XJ]; omega), hs2]; rfl)).trans ?_))))))
   rw [JiI]
   refine (JBw l h1 h3 h2 f k0 z fl d (i + 1) n _ (by omega) (by omega) (by rw [List.length_append, JD, XI]; omega)).trans ?_
   rw [hd]
   simp only [WN, List.flatMap_cons, Qa, List.append_assoc]
theorem JkI {l : List PV} : apY [] (zi l.length) = pu .u8 [IntKind.u8.wrap (zi l.length)] := by rw [GV]; rfl
def JiJ : Jy
 | [.ro 53 z f l], [], k => bif cBy l then k ⟨.ro 5 false false (pu .u8 (opB l)), [], []⟩ else none
 | _, _, _ => none
def JBx : Sig := { own := [], run := JiJ }
theorem Jyr (z f : Bool) (l : List PV) (h : cBy l = true) (k : KR) : JEv 1010 z f l k = k ⟨.ro 5 false false (pu .u8 (opB l)), [], []⟩ := by
 obtain ⟨h1, h3, h2⟩ := JbB.1 h
 have hY := JkI (l := l)
 rw [JiH]
 unfold JEv JdZ JdY Jby Jbx JdX
 simp only [List.take_length]
 refine (Ja (by rw [GW]; rfl)).trans ?_
 cases l with
 | nil => exact (Jd (by simp [zi])).trans (by rw [hY]; rfl)
 | cons p r =>
  have hq : (PV.isSt 53 #[Field.mk "Kind" 3 0 false "" "" 0, Field.mk "N" 3 1 false "" "" 8, Field.mk "S" 9 2 false "" "" 16].size ((p :: r).getD 0 PV.top) && (PV.isInt IntKind.i64 (PV.child 0 ((p :: r).getD 0 PV.top)) && (PV.isInt IntKind.i64 (PV.child (0 + 1) ((p :: r).getD 0 PV.top)) && ((PV.child (0 + 1 + 1) ((p :: r).getD 0 PV.top)).isStr && true)))) = true := by
   have := W6 (Wv h1 (i := 0) (by simp))
   exact this
  have hro : (decide (0 < zi (p :: r).length) && (PV.isSt 53 #[Field.mk "Kind" 3 0 false "" "" 0, Field.mk "N" 3 1 false "" "" 8, Field.mk "S" 9 2 false "" "" 16].size ((p :: r).getD 0 PV.top) && (PV.isInt IntKind.i64 (PV.child 0 ((p :: r).getD 0 PV.top)) && (PV.isInt IntKind.i64 (PV.child (0 + 1) ((p :: r).getD 0 PV.top)) && ((PV.child (0 + 1 + 1) ((p :: r).getD 0 PV.top)).isStr && true)))) && true) = true := by
   rw [hq]; simp [zi]
  have hsz := h3 p List.mem_cons_self
  have hs2 : (PV.child (0 + 1 + 1) ((p :: r).getD 0 PV.top)).str.size.ble 65535 = true := Nat.ble_eq.symm ▸ hsz
  have l1 : (apY [] (zi (p :: r).length)).length = 1 := by rw [XJ]; rfl
  refine (Ja (by simp [zi])).trans ((Ja hro).trans ((Ja (Vw (by rw [l1]; decide))).trans ((Ja hro).trans ((Ja (Vw (by rw [XJ, l1]; decide))).trans ((Ja hro).trans ((Ja (by rw [Vw (by rw [Xl, XJ, l1]; decide), hs2]; rfl)).trans ?_))))))
  rw [JiI]
  have w1 : IntKind.i64.wrap (0 + 1) = ((1 : Nat) : Int) := by decide
  rw [w1]
  refine (Jub (p :: r) h1 h3 h2 1010 _ z f r.length 1 1010 _ (by simp; omega) (by simp at h2; omega) (by rw [List.length_append, JD, XI, l1]; have : (cv ((p :: r).getD 0 PV.top)).s.size <= 65535 := hsz; omega)).trans ?_
  rw [List.take_length, hY]
  simp only [JrF, WN, List.flatMap_cons, Qa, List.append_assoc, List.drop_succ_cons, List.drop_zero, List.getD_cons_zero]
theorem JEz : Jc tau Tryz.prog 100 JBx := Jc.mk' fun xs es k res hl hr => by
 change JiJ xs es k = some res at hr
 unfold JiJ at hr
 split at hr
 · rename_i z f l
   obtain ⟨hc, hr⟩ := Ju hr
   exact J1 Jn JpR Jo JBu JBv (JpS (GX 1010)) [.ro] 0 0 (JJ8 1010) hl rfl ((JPq 1010 z f l k).trans ((Jyr z f l hc k).trans hr))
 · cases hr
def Jnj : Jy
 | [.ro 53 z f l], [], k => bif cBy l then k ⟨.ow 5 16 [] 0 (opB l).length none, [], [.vec false 5 false (pu .u8 (opB l))]⟩ else none
 | _, _, _ => none
def JEA : Sig := { own := [], run := Jnj }
theorem JEB (z f : Bool) (l : List PV) (h : cBy l = true) (k : KR) : g81 1010 z f l k = k ⟨.ow 5 16 [] 0 (opB l).length none, [], [.vec false 5 false (pu .u8 (opB l))]⟩ := by
 obtain ⟨h1, h3, h2⟩ := JbB.1 h
 have hY := JkI (l := l)
 rw [JiH]
 unfold g81
 refine (JBw l h1 h3 h2 1010 _ z f l.length 0 1010 _ (by omega) (by omega) (by rw [XJ]; simp)).trans ?_
 rw [List.drop_zero, hY, ← Qa]
 rw [show [IntKind.u8.wrap (zi l.length)] ++ WN l = JrF l from rfl, JD]
theorem JBy : Jc tau Tryz.prog 81 JEA := Jc.mk' fun xs es k res hl hr => by
 change Jnj xs es k = some res at hr
 unfold Jnj at hr
 split at hr
 · rename_i z f l
   obtain ⟨hc, hr⟩ := Ju hr
   exact J1 Jn Jt9 Jo JKa JKb (Jyp (Jfe 1010)) [] 0 0 (JPs 1010) hl rfl ((e81 1010 z f l k).trans ((JEB z f l hc k).trans hr))
 · cases hr
def F77 : Fns := Jr 126 Jt1 (Jr 81 JEA (Jr 80 JEt (Jr 76 Jyl (F0))))
theorem JEC : Jp tau Tryz.prog F77 := ((((Js).add Jt6 Jxl).add JBt JJ4).add JBy JKc).add Jt2 JAw
def JED : An := (.seq .leaf (.seq .leaf (.seq .leaf (.seq .leaf (.seq .leaf (.seq .leaf .leaf))))))
abbrev Jff (y0 : Int) (y1 : Int) (d_Id : Int) (y2 : Int) (y3 : List PV) := (List.take (apI (apI (apI (apI [] y0) y1) d_Id) y2).length (apI (apI (apI (apI [] y0) y1) d_Id) y2) ++ List.take 32 y3)
abbrev Jnk (d_Op : List PV) := (ByteArray.mk (Array.mk (JW ((Ent.vec false 5 false (pu IntKind.u8 (opB d_Op))).nil, List.take (opB d_Op).length (List.drop 0 (pu IntKind.u8 (opB d_Op)))).snd)))
abbrev G0 (y0 : Int) (y1 : Int) (d_Id : Int) (y2 : Int) (y3 : List PV) (y4 : Int) (d_Op : List PV) := (apT (apY (Jff y0 y1 d_Id y2 y3) y4) (Jnk d_Op))
def g77 (f : Nat) (y0 y1 d_Id y2 : Int) (y3 : List PV) (y4 : Int) (y5 y6 : Bool) (d_Op : List PV) (y7 y8 : Int) (k : KR) : OR := bif okL (apI [] y0).length (apI [] y0) then bif okL (apI (apI [] y0) y1).length (apI (apI [] y0) y1) then bif okL (apI (apI (apI [] y0) y1) d_Id).length (apI (apI (apI [] y0) y1) d_Id) then bif Je ((apI (apI (apI (apI [] y0) y1) d_Id) y2).length + (List.take 32 y3).length) 1 && true then bif okL ((apI (apI (apI (apI [] y0) y1) d_Id) y2).length + (List.take 32 y3).length) (Jff y0 y1 d_Id y2 y3) then bif cBy d_Op then bif Jk IntKind.u8 (List.take (opB d_Op).length (pu IntKind.u8 (opB d_Op))) && true then bif okL (apY (Jff y0 y1 d_Id y2 y3) y4).length (apY (Jff y0 y1 d_Id y2 y3) y4) && (Jnk d_Op).size.ble 65535 then bif okL (G0 y0 y1 d_Id y2 y3 y4 d_Op).length (G0 y0 y1 d_Id y2 y3 y4 d_Op) then bif okL (apI (G0 y0 y1 d_Id y2 y3 y4 d_Op) y7).length (apI (G0 y0 y1 d_Id y2 y3 y4 d_Op) y7) then k (Res.mk (.ow 5 16 [] 0 (apI (apI (G0 y0 y1 d_Id y2 y3 y4 d_Op) y7) y8).length none) [] [.vec false 5 false (apI (apI (G0 y0 y1 d_Id y2 y3 y4 d_Op) y7) y8)]) else none else none else none else none else none else none else none else none else none else none
theorem e77 (f : Nat) (y0 y1 d_Id y2 : Int) (y3 : List PV) (y4 : Int) (y5 y6 : Bool) (d_Op : List PV) (y7 y8 : Int) (k : KR) : JI tau F77 Tryz.f77 (Tryz.f77.body.get!) JED [] 0 [.st 105 [.st 67 [.sc (.int .i64 y0), .sc (.int .i64 y1)], .sc (.int .i64 d_Id), .sc (.int .i64 y2), .ar 28 y3, .sc (.int .i64 y4), .ro 53 y5 y6 d_Op, .st 67 [.sc (.int .i64 y7), .sc (.int .i64 y8)]]] [] k = g77 f y0 y1 d_Id y2 y3 y4 y5 y6 d_Op y7 y8 k := by kernel_rfl
theorem JPt (f : Nat) : ∀ q ∈ Jf (Tryz.f77.body.get!) JED, q.Ok tau Tryz.prog 0 := Jv (by kernel_rfl)
theorem JKd : Tryz.prog.funcs[77]? = some Tryz.f77 := by kernel_rfl
theorem JKe : Tryz.f77.body = some (Tryz.f77.body.get!) := by kernel_rfl
theorem JPu : Enters Tryz.prog 77 := enters_of JKd (by kernel_rfl) JKe
def F53 : Fns := Jr 100 JBx (Jr 99 JEo (Jr 75 JJ5 (F0)))
theorem JEE : Jp tau Tryz.prog F53 := (((Js).add JJ6 JDt).add JBq JIa).add JEz JJ9
def JEF : An := (.seq .leaf (.seq .leaf (.seq .leaf .leaf)))
abbrev JcM (y0 : Bool) (y2 : List PV) := (ByteArray.mk (Array.mk (JW (y0, y2).snd)))
abbrev Vx (y0 : Bool) (y2 : List PV) (y3 : List PV) := (List.take ((apT [] (JcM y0 y2)).length + (List.take 32 y3).length) (List.take (apT [] (JcM y0 y2)).length (apT [] (JcM y0 y2)) ++ List.take 32 y3))
abbrev JiK (e_Op : List PV) := (ByteArray.mk (Array.mk (JW (false, pu IntKind.u8 (opB e_Op)).snd)))
def g53 (f : Nat) (y0 y1 : Bool) (y2 y3 : List PV) (e_At : Int) (y4 y5 : Bool) (e_Op y6 y7 : List PV) (k : KR) : OR := bif Jk IntKind.u8 y2 && true then bif okZ true [] && (JcM y0 y2).size.ble 65535 then bif Je ((apT [] (JcM y0 y2)).length + (List.take 32 y3).length) 1 && true then bif okZ false (Vx y0 y2 y3) then bif cBy e_Op then bif Jk IntKind.u8 (pu IntKind.u8 (opB e_Op)) && true then bif okZ false (List.take (apI (Vx y0 y2 y3) e_At).length (apI (Vx y0 y2 y3) e_At)) && (JiK e_Op).size.ble 65535 then k (Res.mk (.ro 5 false false (List.take (apT (List.take (apI (Vx y0 y2 y3) e_At).length (apI (Vx y0 y2 y3) e_At)) (JiK e_Op)).length (apT (List.take (apI (Vx y0 y2 y3) e_At).length (apI (Vx y0 y2 y3) e_At)) (JiK e_Op)))) [] []) else none else none else none else none else none else none else none
theorem e53 (f : Nat) (y0 y1 : Bool) (y2 y3 : List PV) (e_At : Int) (y4 y5 : Bool) (e_Op y6 y7 : List PV) (k : KR) : JI tau F53 Tryz.f53 (Tryz.f53.body.get!) JEF [.ro] 0 [.st 34 [.st 30 [.ro 5 y0 y1 y2, .ar 28 y3], .sc (.int .i64 e_At), .ro 53 y4 y5 e_Op, .ar 28 y6, .ar 28 y7]] [] k = g53 f y0 y1 y2 y3 e_At y4 y5 e_Op y6 y7 k := by kernel_rfl
theorem JPv (f : Nat) : ∀ q ∈ Jf (Tryz.f53.body.get!) JEF, q.Ok tau Tryz.prog 0 := Jv (by kernel_rfl)
theorem JKf : Tryz.prog.funcs[53]? = some Tryz.f53 := by kernel_rfl
theorem JKg : Tryz.f53.body = some (Tryz.f53.body.get!) := by kernel_rfl
theorem JPw : Enters Tryz.prog 53 := enters_of JKf (by kernel_rfl) JKg
def F47 : Fns := Jr 81 JEA (Jr 80 JEt (Jr 76 Jyl (F0)))
theorem JEG : Jp tau Tryz.prog F47 := (((Js).add Jt6 Jxl).add JBt JJ4).add JBy JKc
def JEH : An := (.seq .leaf (.seq .leaf (.seq .leaf .leaf)))
abbrev JcN (y0 : Bool) (y2 : List PV) := (ByteArray.mk (Array.mk (JW (y0, y2).snd)))
abbrev JcO (y0 : Bool) (y2 : List PV) (y3 : List PV) := (List.take (apT [] (JcN y0 y2)).length (apT [] (JcN y0 y2)) ++ List.take 32 y3)
abbrev JiL (e_Op : List PV) := (ByteArray.mk (Array.mk (JW ((Ent.vec false 5 false (pu IntKind.u8 (opB e_Op))).nil, List.take (opB e_Op).length (List.drop 0 (pu IntKind.u8 (opB e_Op)))).snd)))
def g47 (f : Nat) (y0 y1 : Bool) (y2 y3 : List PV) (e_At : Int) (y4 y5 : Bool) (e_Op y6 y7 : List PV) (k : KR) : OR := bif Jk IntKind.u8 y2 && true then bif (JcN y0 y2).size.ble 65535 then bif Je ((apT [] (JcN y0 y2)).length + (List.take 32 y3).length) 1 && true then bif okL ((apT [] (JcN y0 y2)).length + (List.take 32 y3).length) (JcO y0 y2 y3) then bif cBy e_Op then bif Jk IntKind.u8 (List.take (opB e_Op).length (pu IntKind.u8 (opB e_Op))) && true then bif okL (apI (JcO y0 y2 y3) e_At).length (apI (JcO y0 y2 y3) e_At) && (JiL e_Op).size.ble 65535 then k (Res.mk (.ow 5 16 [] 0 (apT (apI (JcO y0 y2 y3) e_At) (JiL e_Op)).length none) [] [.vec false 5 false (apT (apI (JcO y0 y2 y3) e_At) (JiL e_Op))]) else none else none else none else none else none else none else none
theorem e47 (f : Nat) (y0 y1 : Bool) (y2 y3 : List PV) (e_At : Int) (y4 y5 : Bool) (e_Op y6 y7 : List PV) (k : KR) : JI tau F47 Tryz.f47 (Tryz.f47.body.get!) JEH [] 0 [.st 34 [.st 30 [.ro 5 y0 y1 y2, .ar 28 y3], .sc (.int .i64 e_At), .ro 53 y4 y5 e_Op, .ar 28 y6, .ar 28 y7]] [] k = g47 f y0 y1 y2 y3 e_At y4 y5 e_Op y6 y7 k := by kernel_rfl
theorem JPx (f : Nat) : ∀ q ∈ Jf (Tryz.f47.body.get!) JEH, q.Ok tau Tryz.prog 0 := Jv (by kernel_rfl)
theorem JKh : Tryz.prog.funcs[47]? = some Tryz.f47 := by kernel_rfl
theorem JKi : Tryz.f47.body = some (Tryz.f47.body.get!) := by kernel_rfl
theorem JKj : Enters Tryz.prog 47 := enters_of JKh (by kernel_rfl) JKi
def tx (l : List PV) : ByteArray := ByteArray.mk (Array.mk (JW l))
theorem Yu (l : List PV) : (tx l).size = l.length := Vu l
structure EV where
 (b m : List PV) (at1 : Int) (o : List PV)
def JiM (e : EV) : List Int := WV (tx e.b) ++ (JC e.m ++ (QF e.at1 ++ WV (tx (pu .u8 (opB e.o)))))
def JZ : EV -> List Int := hid JiM
theorem JkJ (e : EV) : JZ e = JiM e := by rw [JZ, hid_eq]
def eOk : EV -> Bool := hid fun e => Jk .u8 e.b && (decide (e.b.length <= 65535) && (Jk .u8 e.m && (decide (e.m.length = 32) && (cBy e.o && decide ((opB e.o).length <= 65535)))))
theorem Qx {e : EV} : eOk e = true ↔ Jk .u8 e.b = true /\ e.b.length <= 65535 /\ Jk .u8 e.m = true /\ e.m.length = 32 /\ cBy e.o = true /\ (opB e.o).length <= 65535 := by
 rw [eOk, hid_eq]; simp only [Bool.and_eq_true, decide_eq_true_eq]
theorem XK {e : EV} (h : eOk e = true) : (JZ e).length = e.b.length + (opB e.o).length + 44 := by
 obtain ⟨h1, h2, h3, h4, h5, h6⟩ := Qx.1 h
 rw [JkJ]
 simp only [JiM, List.length_append, Ja8, QW, Vo, Yu, JD, h4]; omega
theorem Jfg {e : EV} (h : eOk e = true) : apT (apI (apT [] (tx e.b) ++ List.take 32 e.m) e.at1) (tx (pu .u8 (opB e.o))) = pu .u8 (JZ e) := by
 obtain ⟨h1, h2, h3, h4, h5, h6⟩ := Qx.1 h
 rw [JkJ, YF, Zt, YF, List.take_of_length_le (by omega)]
 simp only [JiM, Qa, List.nil_append, List.append_assoc, ← QC h3]
def Jnl : Jy
 | [.st 34 [.st 30 [.ro 5 bz bf b, .ar 28 m], .sc (.int .i64 at1), .ro 53 oz of o, .ar 28 h, .ar 28 mc]], [], k => bif eOk ⟨b, m, at1, o⟩ then k ⟨.ro 5 false false (pu .u8 (JZ ⟨b, m, at1, o⟩)), [], []⟩ else none
 | _, _, _ => none
def JKk : Sig := { own := [], run := Jnl }
theorem JEI (bz bf : Bool) (b m : List PV) (at1 : Int) (oz of : Bool) (o h mc : List PV) (he : eOk ⟨b, m, at1, o⟩ = true) (k : KR) : g53 0 bz bf b m at1 oz of o h mc k = k ⟨.ro 5 false false (pu .u8 (JZ ⟨b, m, at1, o⟩)), [], []⟩ := by
 have hl := XK he
 have hp := Jfg he
 obtain ⟨h1, h2, h3, h4, h5, h6⟩ := Qx.1 he
 simp only at hl hp h1 h2 h3 h4 h5 h6
 have ht : ∀ l : List PV, ByteArray.mk (Array.mk (JW l)) = tx l := fun l => rfl
 have hm : List.take 32 m = m := List.take_of_length_le (by omega)
 have l1 : (apT [] (tx b)).length = b.length + 2 := by rw [YF]; simp [Yu]
 have l2 : ∀ (L : List PV) (n : Int), (apI L n).length = L.length + 8 := Xl
 have htp : ∀ l : List Int, List.take l.length (pu .u8 l) = pu .u8 l := fun l => List.take_of_length_le (by simp)
 have hcat : ∀ n, n = (apT [] (tx b)).length + m.length -> List.take n (apT [] (tx b) ++ m) = apT [] (tx b) ++ m := fun n hn => List.take_of_length_le (by simp; omega)
 rw [hm] at hp
 unfold g53 JiK Vx JcM
 simp only [ht, hm, List.take_length, htp, List.drop_zero, hcat _ rfl, Yu, JD]
 refine (Ja (by rw [h1]; rfl)).trans ((Ja (by rw [GW]; show (true && _) = true; rw [Bool.true_and, Nat.ble_eq]; exact h2)).trans ((Ja (by simp only [Je, Nat.mul_one, Bool.and_true, decide_eq_true_eq, l1]; omega)).trans ((Ja (by rw [Vw (by rw [List.length_append, l1]; omega)])).trans ((Ja h5).trans ((Ja (by rw [JO]; rfl)).trans ((Ja (by rw [Vw (by rw [l2, List.length_append, l1]; omega), Bool.true_and, Nat.ble_eq]; exact h6)).trans ?_))))))
 rw [hp]
 try rfl
theorem JKl : Jc tau Tryz.prog 53 JKk := Jc.mk' fun xs es k res hl hr => by
 change Jnl xs es k = some res at hr
 unfold Jnl at hr
 split at hr
 · rename_i bz bf b m at1 oz of o h mc
   obtain ⟨hc, hr⟩ := Ju hr
   exact J1 Jn JEE Jo JKf JKg JEF [.ro] 0 0 (JPv 0) hl rfl ((e53 0 bz bf b m at1 oz of o h mc k).trans ((JEI bz bf b m at1 oz of o h mc hc k).trans hr))
 · cases hr
def Jnm : Jy
 | [.st 34 [.st 30 [.ro 5 bz bf b, .ar 28 m], .sc (.int .i64 at1), .ro 53 oz of o, .ar 28 h, .ar 28 mc]], [], k => bif eOk ⟨b, m, at1, o⟩ then k ⟨.ow 5 16 [] 0 (JZ ⟨b, m, at1, o⟩).length none, [], [.vec false 5 false (pu .u8 (JZ ⟨b, m, at1, o⟩))]⟩ else none
 | _, _, _ => none
def JEJ : Sig := { own := [], run := Jnm }
theorem JEK (bz bf : Bool) (b m : List PV) (at1 : Int) (oz of : Bool) (o h mc : List PV) (he : eOk ⟨b, m, at1, o⟩ = true) (k : KR) : g47 0 bz bf b m at1 oz of o h mc k = k ⟨.ow 5 16 [] 0 (JZ ⟨b, m, at1, o⟩).length none, [], [.vec false 5 false (pu .u8 (JZ ⟨b, m, at1, o⟩))]⟩ := by
 have hl := XK he
 have hp := Jfg he
 obtain ⟨h1, h2, h3, h4, h5, h6⟩ := Qx.1 he
 simp only at hl hp h1 h2 h3 h4 h5 h6
 have ht : ∀ l : List PV, ByteArray.mk (Array.mk (JW l)) = tx l := fun l => rfl
 have hm : List.take 32 m = m := List.take_of_length_le (by omega)
 have l1 : (apT [] (tx b)).length = b.length + 2 := by rw [YF]; simp [Yu]
 have l2 : ∀ (L : List PV) (n : Int), (apI L n).length = L.length + 8 := Xl
 have htp : ∀ l : List Int, List.take l.length (pu .u8 l) = pu .u8 l := fun l => List.take_of_length_le (by simp)
 have hcat : ∀ n, n = (apT [] (tx b)).length + m.length -> List.take n (apT [] (tx b) ++ m) = apT [] (tx b) ++ m := fun n hn => List.take_of_length_le (by simp; omega)
 rw [hm] at hp
 unfold g47 JiL JcO JcN
 simp only [ht, hm, List.take_length, htp, List.drop_zero, hcat _ rfl, Yu, JD]
 refine (Ja (by rw [h1]; rfl)).trans ((Ja (by rw [Nat.ble_eq]; exact h2)).trans ((Ja (by simp only [Je, Nat.mul_one, Bool.and_true, decide_eq_true_eq, l1]; omega)).trans ((Ja (by rw [show (apT [] (tx b)).length + m.length = (apT [] (tx b) ++ m).length from (List.length_append).symm, W9 (by rw [List.length_append, l1]; omega)])).trans ((Ja h5).trans ((Ja (by rw [JO]; rfl)).trans ((Ja (by rw [W9 (by rw [l2, List.length_append, l1]; omega), Bool.true_and, Nat.ble_eq]; exact h6)).trans ?_))))))
 rw [hp]
 rw [JD]
theorem JBz : Jc tau Tryz.prog 47 JEJ := Jc.mk' fun xs es k res hl hr => by
 change Jnm xs es k = some res at hr
 unfold Jnm at hr
 split at hr
 · rename_i bz bf b m at1 oz of o h mc
   obtain ⟨hc, hr⟩ := Ju hr
   exact J1 Jn JEG Jo JKh JKi JEH [] 0 0 (JPx 0) hl rfl ((e47 0 bz bf b m at1 oz of o h mc k).trans ((JEK bz bf b m at1 oz of o h mc hc k).trans hr))
 · cases hr
structure DV where
 (ad au id ve : Int) (h : List PV) (kd : Int) (o : List PV) (wd wu : Int)
def Juc (d : DV) : List Int := QF d.ad ++ (QF d.au ++ (QF d.id ++ (QF d.ve ++ (JC d.h ++ ([IntKind.u8.wrap d.kd] ++ (WV (tx (pu .u8 (opB d.o))) ++ (QF d.wd ++ QF d.wu)))))))
def dlB : DV -> List Int := hid Juc
theorem Jnn (d : DV) : dlB d = Juc d := by rw [dlB, hid_eq]
def dOk : DV -> Bool := hid fun d => Jk .u8 d.h && (decide (d.h.length = 32) && (cBy d.o && decide ((opB d.o).length <= 65535)))
theorem Zv {d : DV} : dOk d = true ↔ Jk .u8 d.h = true /\ d.h.length = 32 /\ cBy d.o = true /\ (opB d.o).length <= 65535 := by
 rw [dOk, hid_eq]; simp only [Bool.and_eq_true, decide_eq_true_eq]
theorem Zw {d : DV} (h : dOk d = true) : (dlB d).length = (opB d.o).length + 83 := by
 obtain ⟨h1, h2, h3, h4⟩ := Zv.1 h
 rw [Jnn]
 simp only [Juc, List.length_append, Ja8, QW, Vo, Yu, JD, h2, List.length_cons, List.length_nil]; omega
theorem Jud {d : DV} (h : dOk d = true) : apI (apI (apT (apY (apI (apI (apI (apI [] d.ad) d.au) d.id) d.ve ++ List.take 32 d.h) d.kd) (tx (pu .u8 (opB d.o)))) d.wd) d.wu = pu .u8 (dlB d) := by
 obtain ⟨h1, h2, h3, h4⟩ := Zv.1 h
 rw [Jnn, List.take_of_length_le (by omega)]
 simp only [YF, Zt, GV, Juc, Qa, List.nil_append, List.append_assoc, ← QC h1]
def Jno : Jy
 | [.st 105 [.st 67 [.sc (.int .i64 ad), .sc (.int .i64 au)], .sc (.int .i64 id1), .sc (.int .i64 ve), .ar 28 h, .sc (.int .i64 kd), .ro 53 oz of o, .st 67 [.sc (.int .i64 wd), .sc (.int .i64 wu)]]], [], k => bif dOk ⟨ad, au, id1, ve, h, kd, o, wd, wu⟩ then k ⟨.ow 5 16 [] 0 (dlB ⟨ad, au, id1, ve, h, kd, o, wd, wu⟩).length none, [], [.vec false 5 false (pu .u8 (dlB ⟨ad, au, id1, ve, h, kd, o, wd, wu⟩))]⟩ else none
 | _, _, _ => none
def JKm : Sig := { own := [], run := Jno }
theorem JEL (ad au id1 ve : Int) (h : List PV) (kd : Int) (oz of : Bool) (o : List PV) (wd wu : Int) (he : dOk ⟨ad, au, id1, ve, h, kd, o, wd, wu⟩ = true) (k : KR) : g77 0 ad au id1 ve h kd oz of o wd wu k = k ⟨.ow 5 16 [] 0 (dlB ⟨ad, au, id1, ve, h, kd, o, wd, wu⟩).length none, [], [.vec false 5 false (pu .u8 (dlB ⟨ad, au, id1, ve, h, kd, o, wd, wu⟩))]⟩ := by
 have hl := Zw he
 have hp := Jud he
 obtain ⟨h1, h2, h3, h4⟩ := Zv.1 he
 simp only at hl hp h1 h2 h3 h4
 have ht : ∀ l : List PV, ByteArray.mk (Array.mk (JW l)) = tx l := fun l => rfl
 have hm : List.take 32 h = h := List.take_of_length_le (by omega)
 have l1 : ∀ (L : List PV) (n : Int), (apY L n).length = L.length + 1 := XJ
 have l2 : ∀ (L : List PV) (n : Int), (apI L n).length = L.length + 8 := Xl
 have l3 : ∀ (L : List PV), (apT L (tx (pu .u8 (opB o)))).length = L.length + ((opB o).length + 2) := fun L => by rw [YF]; simp [Yu]
 have htp : ∀ l : List Int, List.take l.length (pu .u8 l) = pu .u8 l := fun l => List.take_of_length_le (by simp)
 have hcat : ∀ L : List PV, List.take (L.length + h.length) (L ++ h) = L ++ h := fun L => List.take_of_length_le (by simp)
 rw [hm] at hp
 unfold g77 G0 Jnk Jff
 simp only [ht, hm, List.take_length, htp, List.drop_zero, hcat, Yu, JD]
 refine (Ja (W9 (by simp only [l2, List.length_nil]; omega))).trans ((Ja (W9 (by simp only [l2, List.length_nil]; omega))).trans ((Ja (W9 (by simp only [l2, List.length_nil]; omega))).trans ?_))
 refine (Ja (by simp only [Je, Nat.mul_one, Bool.and_true, decide_eq_true_eq, l2, List.length_nil]; omega)).trans ?_
 refine (Ja (by rw [show ∀ L : List PV, L.length + h.length = (L ++ h).length from fun L => (List.length_append).symm, W9 (by simp only [List.length_append, l2, List.length_nil]; omega)])).trans ((Ja h3).trans ((Ja (by rw [JO]; rfl)).trans ?_))
 refine (Ja (by rw [W9 (by simp only [l1, List.length_append, l2, List.length_nil]; omega), Bool.true_and, Nat.ble_eq]; exact h4)).trans ?_
 refine (Ja (W9 (by rw [l3]; simp only [l1, List.length_append, l2, List.length_nil]; omega))).trans ?_
 refine (Ja (W9 (by rw [l2, l3]; simp only [l1, List.length_append, l2, List.length_nil]; omega))).trans ?_
 rw [hp]
 rw [JD]
theorem JKn : Jc tau Tryz.prog 77 JKm := Jc.mk' fun xs es k res hl hr => by
 change Jno xs es k = some res at hr
 unfold Jno at hr
 split at hr
 · rename_i ad au id1 ve h kd oz of o wd wu
   obtain ⟨hc, hr⟩ := Ju hr
   exact J1 Jn JEC Jo JKd JKe JED [] 0 0 (JPt 0) hl rfl ((e77 0 ad au id1 ve h kd oz of o wd wu k).trans ((JEL ad au id1 ve h kd oz of o wd wu hc k).trans hr))
 · cases hr
def Jys (d : DV) : Int :=
 bif inZ d.ad 2 && (inZ d.au 7 && (inZ d.id 1073741824 && inZ d.ve 1048576)) then
  (bif d.kd == 1 then (bif ckO d.o == 0 then (bif d.wd == 0 && d.wu == 0 then 0 else 1) else ckO d.o)
  else bif d.kd == 2 || d.kd == 3 then (bif d.o.isEmpty && (inZ d.wd 2 && inZ d.wu 7) then 0 else 1)
  else 3)
 else 1
def dCk : DV -> Int := hid Jys
theorem Jue (d : DV) : dCk d = Jys d := by rw [dCk, hid_eq]
theorem JiN (x m : Int) : inZ x m = (decide (x >= 0) && decide (x <= m)) := rfl
theorem JPy (x : Int) : decide (x < 0) = !decide (x >= 0) := by rw [← decide_not]; apply decide_eq_decide.2; omega
theorem JPz (x m : Int) : decide (x > m) = !decide (x <= m) := by rw [← decide_not]; apply decide_eq_decide.2; omega
theorem JkK (l : List PV) : decide (zi l.length > 0) = !l.isEmpty := by
 cases l with
 | nil => rfl
 | cons p ps => exact decide_eq_true (by simp only [zi, List.length_cons]; omega)
theorem JEM (ad au id1 ve : Int) (h : List PV) (kd : Int) (oz of : Bool) (o : List PV) (wd wu : Int) (hc : cOk o = true) (k : KR) : g88 0 ad au id1 ve h kd oz of o wd wu k = k ⟨.sc (.int .i64 (dCk ⟨ad, au, id1, ve, h, kd, o, wd, wu⟩)), [], []⟩ := by
 rw [Jue]
 unfold g88 Jys
 simp only [hc, JiN, JkK, cond_true, bne]
 have h2 : (kd == 2) = true -> (kd == 1) = false := fun h => by
     have : kd = 2 := by simpa using h
     rw [this]; decide
 generalize o.isEmpty = e0
 generalize (kd == 1) = d1 at *
 generalize (kd == 2) = d2 at *
 generalize (kd == 3) = d3
 generalize (wd == 0) = w0
 generalize (wu == 0) = w1
 generalize hck : ckO o = ck
 cases decide (ad >= 0)
 · rfl
 cases decide (ad <= 2)
 · rfl
 cases decide (au >= 0)
 · rfl
 cases decide (au <= 7)
 · rfl
 cases decide (id1 >= 0)
 · rfl
 cases decide (id1 <= 1073741824)
 · rfl
 cases decide (ve >= 0)
 · rfl
 cases decide (ve <= 1048576)
 · rfl
 cases d1
 · cases d2
   · cases d3
     · rfl
     · cases e0 <;> cases decide (wd >= 0) <;> cases decide (wd <= 2) <;> cases decide (wu >= 0) <;> cases decide (wu <= 7) <;> rfl
   · cases e0 <;> cases decide (wd >= 0) <;> cases decide (wd <= 2) <;> cases decide (wu >= 0) <;> cases decide (wu <= 7) <;> rfl
 · cases ck == 0 <;> cases w0 <;> cases w1 <;> rfl
def Jnp : Jy
 | [.st 105 [.st 67 [.sc (.int .i64 ad), .sc (.int .i64 au)], .sc (.int .i64 id1), .sc (.int .i64 ve), .ar 28 h, .sc (.int .i64 kd), .ro 53 oz of o, .st 67 [.sc (.int .i64 wd), .sc (.int .i64 wu)]]], [], k => bif cOk o then k ⟨.sc (.int .i64 (dCk ⟨ad, au, id1, ve, h, kd, o, wd, wu⟩)), [], []⟩ else none
 | _, _, _ => none
def JKo : Sig := { own := [], run := Jnp }
theorem JKp : Jc tau Tryz.prog 88 JKo := JO3.of fun xs es k res hr => by
 change Jnp xs es k = some res at hr
 unfold Jnp at hr
 split at hr
 · rename_i ad au id1 ve h kd oz of o wd wu
   obtain ⟨hc, hr⟩ := Ju hr
   exact (JEM ad au id1 ve h kd oz of o wd wu hc k).trans hr
 · cases hr
theorem Jyt (ad au id1 ve : Int) (h : List PV) (kd : Int) (oz of : Bool) (o : List PV) (wd wu : Int) (hc : cOk o = true) (k : KR) : JxX 0 ad au id1 ve h kd oz of o wd wu k = k ⟨.sc (.int .i64 (dCk ⟨ad, au, id1, ve, h, kd, o, wd, wu⟩)), [], []⟩ := by
 rw [Jue]
 unfold JxX Jys
 simp only [hc, JkK, cond_true, bne]
 simp only [JiN, JkB, JPy, JPz]
 have h2 : (kd == 2) = true -> (kd == 1) = false := fun h => by
     have : kd = 2 := by simpa using h
     rw [this]; decide
 generalize o.isEmpty = e0
 generalize (kd == 1) = d1 at *
 generalize (kd == 2) = d2 at *
 generalize (kd == 3) = d3
 generalize (wd == 0) = w0
 generalize (wu == 0) = w1
 generalize hck : ckO o = ck
 cases decide (ad >= 0)
 · rfl
 cases decide (ad <= 2)
 · rfl
 cases decide (au >= 0)
 · rfl
 cases decide (au <= 7)
 · rfl
 cases decide (id1 >= 0)
 · rfl
 cases decide (id1 <= 1073741824)
 · rfl
 cases decide (ve >= 0)
 · rfl
 cases decide (ve <= 1048576)
 · rfl
 cases d1
 · cases d2
   · cases d3
     · rfl
     · cases e0 <;> cases decide (wd >= 0) <;> cases decide (wd <= 2) <;> cases decide (wu >= 0) <;> cases decide (wu <= 7) <;> rfl
   · cases e0 <;> cases decide (wd >= 0) <;> cases decide (wd <= 2) <;> cases decide (wu >= 0) <;> cases decide (wu <= 7) <;> rfl
 · cases ck == 0 <;> cases w0 <;> cases w1 <;> rfl
def JiO : Jy
 | [.st 105 [.st 67 [.sc (.int .i64 ad), .sc (.int .i64 au)], .sc (.int .i64 id1), .sc (.int .i64 ve), .ar 28 h, .sc (.int .i64 kd), .ro 53 oz of o, .st 67 [.sc (.int .i64 wd), .sc (.int .i64 wu)]]], [], k => bif cOk o then k ⟨.sc (.int .i64 (dCk ⟨ad, au, id1, ve, h, kd, o, wd, wu⟩)), [], []⟩ else none
 | _, _, _ => none
def JBA : Sig := { own := [], run := JiO }
theorem JEN : Jc tau Tryz.prog 109 JBA := JJk.of fun xs es k res hr => by
 change JiO xs es k = some res at hr
 unfold JiO at hr
 split at hr
 · rename_i ad au id1 ve h kd oz of o wd wu
   obtain ⟨hc, hr⟩ := Ju hr
   exact (Jyt ad au id1 ve h kd oz of o wd wu hc k).trans hr
 · cases hr
structure AV where
 (d u : Int)
def Zx : PV -> Bool
 | .st t [.sc (.int .i64 _), .sc (.int .i64 _)] => t == 67
 | _ => false
def adP (a : AV) : PV := .st 67 [.sc (.int .i64 a.d), .sc (.int .i64 a.u)]
def av (p : PV) : AV := ⟨(p.child 0).int, (p.child 1).int⟩
theorem JkL {p : PV} : Zx p = true ↔ ∃ a, p = adP a := by
 constructor
 · intro h
   unfold Zx at h
   split at h
   · rename_i t d u
     obtain rfl : t = 67 := by simpa using h
     exact ⟨⟨d, u⟩, rfl⟩
   · cases h
 · rintro ⟨a, rfl⟩; rfl
theorem Jyu {p : PV} (h : Zx p = true) : adP (av p) = p := by obtain ⟨a, rfl⟩ := JkL.1 h; rfl
def Vy (p : PV) : Bool := PV.isSt 67 #[Field.mk "D" 3 0 false "" "" 0, Field.mk "U" 3 1 false "" "" 8].size p && (PV.isInt IntKind.i64 (PV.child 0 p) && (PV.isInt IntKind.i64 (PV.child (0 + 1) p) && true))
theorem Xa {p : PV} (h : Zx p = true) : Vy p = true := by
 obtain ⟨a, rfl⟩ := JkL.1 h
 rfl
theorem Xb {l : List PV} (h : l.all Zx = true) {i : Nat} (hi : i < l.length) : Zx (l.getD i .top) = true := by
 rw [List.getD_eq_getElem?_getD, List.getElem?_eq_getElem hi]
 exact List.all_eq_true.1 h _ (List.getElem_mem hi)
def eqA (x y : AV) : Bool := x.d == y.d && (x.u == y.u && true)
theorem QI {x y : AV} : eqA x y = true ↔ x = y := by
 obtain ⟨a, b⟩ := x; obtain ⟨c, d⟩ := y
 simp [eqA]
def ltA (x y : AV) : Bool := decide (x.d < y.d) || (x.d == y.d && decide (x.u < y.u))
theorem Yv {x y : AV} : ltA x y = true ↔ x.d < y.d ∨ (x.d = y.d /\ x.u < y.u) := by simp [ltA]
def srt : List PV -> Bool
 | [] => true
 | p :: ps => ps.all (fun q => ltA (av p) (av q)) && srt ps
def pOk : List PV -> Bool := hid fun l => l.all Zx && (srt l && decide (l.length <= 8))
theorem QJ {l : List PV} : pOk l = true ↔ l.all Zx = true /\ srt l = true /\ l.length <= 8 := by
 rw [pOk, hid_eq]; simp only [Bool.and_eq_true, decide_eq_true_eq]
structure PH where
 (l : List PV) (a : AV)
def hasL (l : List PV) (a : AV) : Bool := l.any fun p => eqA (av p) a
def hasP : PH -> Bool := hid fun x => hasL x.l x.a
theorem hasP_eq (x : PH) : hasP x = hasL x.l x.a := by rw [hasP, hid_eq]
def Jyv : AV -> AV -> Bool := hid ltA
theorem JpW (x y : AV) : Jyv x y = ltA x y := by rw [Jyv, hid_eq]
theorem JBB (l : List PV) (d u : Int) (h1 : l.all Zx = true) (h2 : l.length <= 1000) (f : Nat) (k0 : Bool -> OR) (k1 : OR) (z fl : Bool) : ∀ (e i n : Nat), i + e = l.length -> e < n ->
  GO f k0 k1 n z fl l (i : Int) d u = bif hasL (l.drop i) ⟨d, u⟩ then k0 true else k1
 | 0, i, n + 1, hi, hn => by
   rw [List.drop_of_length_le (by omega)]
   simp only [GO, Jbb]
   exact Jd (by simp [zi]; omega)
 | e + 1, i, n + 1, hi, hn => by
   have g1 := tI i
   have w1 := wI (i := i) (by omega)
   have hd := JY (l := l) (i := i) (by omega)
   have hc := Xa (Xb h1 (i := i) (by omega))
   unfold Vy at hc
   rw [hd]
   simp only [GO, Jbb, g1, w1]
   refine (Ja (by simp [zi]; omega)).trans ((Ja (by rw [hc]; simp [zi]; omega)).trans ?_)
   have he : ((PV.child 0 (l.getD i PV.top)).int == d && ((PV.child (0 + 1) (l.getD i PV.top)).int == u && true)) = eqA (av (l.getD i .top)) ⟨d, u⟩ := rfl
   rw [he]
   have hh : hasL (l.getD i .top :: l.drop (i + 1)) ⟨d, u⟩ = (eqA (av (l.getD i .top)) ⟨d, u⟩ || hasL (l.drop (i + 1)) ⟨d, u⟩) := rfl
   rw [hh]
   cases eqA (av (l.getD i .top)) ⟨d, u⟩ with
   | true => rfl
   | false => exact (Jd rfl).trans (JBB l d u h1 h2 f k0 k1 z fl e (i + 1) n (by omega) (by omega))
def Jnq : Jy
 | [.ro 67 z f l, .st 67 [.sc (.int .i64 d), .sc (.int .i64 u)]], [], k => bif pOk l then k ⟨.sc (.bool (hasP ⟨l, ⟨d, u⟩⟩)), [], []⟩ else none
 | _, _, _ => none
def Jyw : Sig := { own := [], run := Jnq }
theorem JEO (z f : Bool) (l : List PV) (d u : Int) (h : pOk l = true) (k : KR) : g55 20 z f l d u k = k ⟨.sc (.bool (hasP ⟨l, ⟨d, u⟩⟩)), [], []⟩ := by
 obtain ⟨h1, _, h3⟩ := QJ.1 h
 unfold g55
 rw [hasP_eq]
 refine (JBB l d u h1 (by omega) 20 _ _ z f l.length 0 20 (by omega) (by omega)).trans ?_
 rw [List.drop_zero]
 cases hasL l ⟨d, u⟩ <;> rfl
theorem Juf : Jc tau Tryz.prog 55 Jyw := Jc.mk' fun xs es k res hl hr => by
 change Jnq xs es k = some res at hr
 unfold Jnq at hr
 split at hr
 · rename_i z f l d u
   obtain ⟨hc, hr⟩ := Ju hr
   exact J1 Jn Jtc Jo JIL JIM (JxB (Je2 20)) [.ro] 0 0 (JOL 20) hl rfl ((e55 20 z f l d u k).trans ((JEO z f l d u hc k).trans hr))
 · cases hr
def JiP : Jy
 | [.st 67 [.sc (.int .i64 d), .sc (.int .i64 u)], .st 67 [.sc (.int .i64 d2), .sc (.int .i64 u2)]], [], k => k ⟨.sc (.bool (Jyv ⟨d, u⟩ ⟨d2, u2⟩)), [], []⟩
 | _, _, _ => none
def JBC : Sig := { own := [], run := JiP }
theorem JEP : Jc tau Tryz.prog 114 JBC := JIK.of fun xs es k res hr => by
 change JiP xs es k = some res at hr
 unfold JiP at hr
 split at hr
 · rename_i d u d2 u2
   refine Eq.trans ?_ hr
   show JxA 0 d u d2 u2 k = _
   unfold JxA
   rw [JpW]
   show _ = k ⟨.sc (.bool (decide (d < d2) || (d == d2 && decide (u < u2)))), [], []⟩
   cases decide (d < d2) <;> cases (d == d2) <;> rfl
 · cases hr
structure AA where
 (a b : List PV)
def JdK : List PV -> List PV -> Bool
 | [], [] => true
 | p :: ps, q :: qs => eqA (av p) (av q) && JdK ps qs
 | _, _ => false
def Jug : AA -> Bool := hid fun x => JdK x.a x.b
theorem JiQ (x : AA) : Jug x = JdK x.a x.b := by rw [Jug, hid_eq]
def JcP : List PV -> Bool := hid fun l => l.all Zx && decide (l.length <= 1000)
theorem YZ {l : List PV} : JcP l = true ↔ l.all Zx = true /\ l.length <= 1000 := by
 rw [JcP, hid_eq, Bool.and_eq_true, decide_eq_true_eq]
theorem JgW : ∀ l : List PV, JdK l l = true
 | [] => rfl
 | p :: ps => by simp only [JdK, JgW ps, QI.2 rfl, Bool.and_self]
theorem JkM : ∀ {a b : List PV}, JdK a b = true -> a.length = b.length
 | [], [], _ => rfl
 | p :: ps, q :: qs, h => by
  simp only [JdK, Bool.and_eq_true] at h
  simp [JkM h.2]
 | [], _ :: _, h => by simp [JdK] at h
 | _ :: _, [], h => by simp [JdK] at h

def kIn : Int -> Bool := hid fun d => X6 d 2
theorem Jfh (d : Int) : kIn d = X6 d 2 := by rw [kIn, hid_eq]






def Zy (l : List Int) (x : Int) : List Int := l.map fun b => JL .xor .u8 b x
@[simp] theorem JBD (l : List Int) (x : Int) : (Zy l x).length = l.length := by simp [Zy]
theorem Juh (K : List Int) (hK : K.length = 64) (x : Int) : (List.range 64).map (fun j => JL .xor .u8 x (K.getD j 0)) = Zy K x := by
 apply List.ext_getElem
 · simp [hK]
 · intro i h1 h2
   have h1' : i < K.length := by simpa using h2
   simp only [List.getElem_map, List.getElem_range, Zy]
   rw [GA, List.getD_eq_getElem?_getD, List.getElem?_eq_getElem h1']; rfl

theorem JkN (a b : List PV) : JC (a ++ b) = JC a ++ JC b := by simp [JC]
@[simp] theorem JKq : JC [] = [] := rfl
def Jui (s : List Int) : List Int := s ++ List.replicate (64 - s.length) 0
def JkO (key : List Int) : List Int := if key.length > 64 then Jui (JX key) else Jui key
def Juj (key text : List Int) : List Int := JX (Zy (JkO key) 92 ++ JX (Zy (JkO key) 54 ++ text))
def Jgj : List Int -> List Int -> List Int := hid Juj
theorem JpX (key text : List Int) : Jgj key text = Juj key text := by rw [Jgj, hid_eq]
theorem JkP (key text : List Int) : (Jgj key text).length = 32 := by rw [JpX]; exact Qw _
theorem Jdv (key : List Int) : (JkO key).length = 64 := by
 unfold JkO Jui
 split
 · rw [List.length_append, Qw, List.length_replicate]
 · rw [List.length_append, List.length_replicate]; omega
def kbG (src : List PV) : List PV := [] ++ List.take 64 src ++ List.drop (0 + min src.length 64) (pu .u8 (List.replicate 64 0))
theorem Juk (s : List Int) (h : s.length <= 64) : kbG (pu .u8 s) = pu .u8 (Jui s) := by
 unfold kbG Jui
 rw [JD, show 0 + min s.length 64 = s.length from by omega, Jo6, List.drop_replicate, List.take_of_length_le (by simpa using h), List.nil_append, ← Qa]

def F78 : Fns := F0
theorem JEQ : Jp tau Tryz.prog F78 := Js
def JER : An := (.seq .leaf (.seq .leaf .leaf))
def g78 (f : Nat) (k : KR) : OR := k (Res.mk (.ar 148 [.sc (.int .u32 1116352408), .sc (.int .u32 1899447441), .sc (.int .u32 3049323471), .sc (.int .u32 3921009573), .sc (.int .u32 961987163), .sc (.int .u32 1508970993), .sc (.int .u32 2453635748), .sc (.int .u32 2870763221), .sc (.int .u32 3624381080), .sc (.int .u32 310598401), .sc (.int .u32 607225278), .sc (.int .u32 1426881987), .sc (.int .u32 1925078388), .sc (.int .u32 2162078206), .sc (.int .u32 2614888103), .sc (.int .u32 3248222580), .sc (.int .u32 3835390401), .sc (.int .u32 4022224774), .sc (.int .u32 264347078), .sc (.int .u32 604807628), .sc (.int .u32 770255983), .sc (.int .u32 1249150122), .sc (.int .u32 1555081692), .sc (.int .u32 1996064986), .sc (.int .u32 2554220882), .sc (.int .u32 2821834349), .sc (.int .u32 2952996808), .sc (.int .u32 3210313671), .sc (.int .u32 3336571891), .sc (.int .u32 3584528711), .sc (.int .u32 113926993), .sc (.int .u32 338241895), .sc (.int .u32 666307205), .sc (.int .u32 773529912), .sc (.int .u32 1294757372), .sc (.int .u32 1396182291), .sc (.int .u32 1695183700), .sc (.int .u32 1986661051), .sc (.int .u32 2177026350), .sc (.int .u32 2456956037), .sc (.int .u32 2730485921), .sc (.int .u32 2820302411), .sc (.int .u32 3259730800), .sc (.int .u32 3345764771), .sc (.int .u32 3516065817), .sc (.int .u32 3600352804), .sc (.int .u32 4094571909), .sc (.int .u32 275423344), .sc (.int .u32 430227734), .sc (.int .u32 506948616), .sc (.int .u32 659060556), .sc (.int .u32 883997877), .sc (.int .u32 958139571), .sc (.int .u32 1322822218), .sc (.int .u32 1537002063), .sc (.int .u32 1747873779), .sc (.int .u32 1955562222), .sc (.int .u32 2024104815), .sc (.int .u32 2227730452), .sc (.int .u32 2361852424), .sc (.int .u32 2428436474), .sc (.int .u32 2756734187), .sc (.int .u32 3204031479), .sc (.int .u32 3329325298)]) [] [])
theorem e78 (f : Nat) (k : KR) : JI tau F78 Tryz.f78 (Tryz.f78.body.get!) JER [.ro] 0 [] [] k = g78 f k := by kernel_rfl
theorem JPA (f : Nat) : ∀ q ∈ Jf (Tryz.f78.body.get!) JER, q.Ok tau Tryz.prog 0 := Jv (by kernel_rfl)
theorem JKr : Tryz.prog.funcs[78]? = some Tryz.f78 := by kernel_rfl
theorem JKs : Tryz.f78.body = some (Tryz.f78.body.get!) := by kernel_rfl
theorem JPB : Enters Tryz.prog 78 := enters_of JKr (by kernel_rfl) JKs
def Jul : Jy
 | [], [], k => g78 0  k
 | _, _, _ => none
def s78 : Sig := { own := [], run := Jul }
theorem JPC : Jc tau Tryz.prog 78 s78 := JN Jn JEQ Jo JKr JKs JER [.ro] 0 [] Jul (JPA 0) fun xs es k res hr => by
 unfold Jul at hr
 split at hr
 · exact ⟨rfl, 0, (e78 0  _).trans hr⟩
 · cases hr
end
end Go.Proofs.YthpmachmnoljeaaGreat.Rx
