/- What the functions of this law compute, and their plain laws. Conditions: none. -/
import Derived.KernelRfl
import Derived.Test.YthpmachmnoljeaaWaveletPlaysP2
namespace Go.Proofs.Ythpmachmnoljeaa.Rx
noncomputable section
open Go
set_option linter.unusedVariables false
set_option linter.unusedSimpArgs false
set_option maxRecDepth 100000
set_option maxHeartbeats 0
def F71 : Fns := F0
theorem JCF : Jq tau Try.prog F71 := Js
def JCG : An := (.seq .leaf (.cond .leaf .leaf))
def g71 (f : Nat) (y0 y1 : Bool) (r_B : List PV) (r_P y2 e : Int) (k : KR) : OR := bif y2 == 0 then k (Res.mk (.tup []) [.box false 135 (PV.st 135 [.ro 5 y0 y1 r_B, .sc (.int .i64 r_P), .sc (.int .i64 e)])] []) else k (Res.mk (.tup []) [.box false 135 (PV.st 135 [.ro 5 y0 y1 r_B, .sc (.int .i64 r_P), .sc (.int .i64 y2)])] [])
theorem e71 (f : Nat) (y0 y1 : Bool) (r_B : List PV) (r_P y2 e : Int) (k : KR) : JJ tau F71 Try.f71 (Try.f71.body.get!) JCG [] 0 [.ptr 0 [], .sc (.int .i64 e)] [.box false 135 (.st 135 [.ro 5 y0 y1 r_B, .sc (.int .i64 r_P), .sc (.int .i64 y2)])] k = g71 f y0 y1 r_B r_P y2 e k := by kernel_rfl
theorem JNj (f : Nat) : ∀ q ∈ Jf (Try.f71.body.get!) JCG, q.Ok tau Try.prog 1 := Jw (by kernel_rfl)
theorem JIq : Try.prog.funcs[71]? = some Try.f71 := by kernel_rfl
theorem JIr : Try.f71.body = some (Try.f71.body.get!) := by kernel_rfl
theorem JNk : Enters Try.prog 71 := enters_of JIq (by kernel_rfl) JIr
def JsT : Jz
 | [.ptr 0 [], .sc (.int .i64 e)], [.box false 135 (.st 135 [.ro 5 y0 y1 r_B, .sc (.int .i64 r_P), .sc (.int .i64 y2)])], k => g71 0 y0 y1 r_B r_P y2 e k
 | _, _, _ => none
def s71 : Sig := { own := [], run := JsT }
theorem JNl : Jc tau Try.prog 71 s71 := JN Jn JCF Jo JIq JIr JCG [] 1 [] JsT (JNj 0) fun xs es k res hr => by
 unfold JsT at hr
 split at hr
 · exact ⟨rfl, 0, (e71 0 _ _ _ _ _ _  _).trans hr⟩
 · cases hr
def N49 : Nat := 53
def F49 : Fns := Jt 71 s71 (Jt 59 Jvw (Jt 48 s48 (Jt 47 JA4 (Jt 46 JvN (Jt 44 JvL (Jt 42 s42 (F0)))))))
theorem JsU : Jq tau Try.prog F49 := (((((((Js).add JIl JIk).add JrT JAY).add JrU JA1).add Jyv JFT).add JIp JIo).add Jrr JAu).add JNl JNk
def JoX : Code := Qd (Try.f49.body.get!) [1, 1, 1, 1, 1, 0, 1, 0, 0]
def JeW : Nm := [(4, .any), (5, .any), (6, .own), (7, .any)]
def JmI : Nm := [(4, .any), (6, .any)]
def JsV : An := (.seq (.seq .leaf (.cond .leaf .leaf)) (.seq (.block none (.seq .leaf (.seq .leaf (.seq .leaf .leaf)))) .leaf))
def JwE (r0 : Qr) : An := (.seq .leaf (.seq .leaf (.seq .leaf (.seq (.seq .leaf (.cond .leaf .leaf)) (.seq .leaf (.seq (.seq .leaf (.block none (.sum JeW N49 r0))) (.seq .leaf (.seq (.seq .leaf (.cond .leaf .leaf)) (.seq (.seq .leaf (.cond (.seq .leaf .leaf) .leaf)) (.seq .leaf .leaf))))))))))
def VP (f : Nat) (rc : Int -> Nat -> Int -> Bool -> Bool -> List PV -> Int -> Int -> Bool -> List PV -> OR) (k0 : Nat -> Bool -> Bool -> List PV -> Int -> Int -> Bool -> List PV -> OR) (v0 : Int) (v1 : Nat) (v2 : Int) (v3 v4 : Bool) (v5 : List PV) (v6 v7 : Int) (v8 : Bool) (v9 : List PV) : OR := bif decide (v2 < v0) then bif v7 == 0 then bif okT (RT.mk v5 v6 v7) then bif okT (Jh 1 (RT.mk v5 v6 v7)) then bif okT (Jh 8 (Jh 1 (RT.mk v5 v6 v7))) then bif Je (v1 + 1) 32 && true then rc v0 (v1 + 1) (IntKind.i64.wrap (v2 + 1)) v3 v4 ((QU (Jh 8 (Jh 1 (RT.mk v5 v6 v7)))).B) ((QU (Jh 8 (Jh 1 (RT.mk v5 v6 v7)))).P) ((QU (Jh 8 (Jh 1 (RT.mk v5 v6 v7)))).e) (v8 && false) (List.take v1 v9 ++ [.st 113 [.sc (.int .i64 (Qj 1 (RT.mk v5 v6 v7))), .sc (.int .i64 (Qj 8 (Jh 1 (RT.mk v5 v6 v7)))), .sc (.string (XV (Jh 8 (Jh 1 (RT.mk v5 v6 v7)))))]]) else none else none else none else none else k0 v1 v3 v4 v5 v6 v7 v8 v9 else k0 v1 v3 v4 v5 v6 v7 v8 v9
def X0 (f : Nat) (k0 : Nat -> Bool -> Bool -> List PV -> Int -> Int -> Bool -> List PV -> OR) : Nat -> Int -> Nat -> Int -> Bool -> Bool -> List PV -> Int -> Int -> Bool -> List PV -> OR
 | 0, _, _, _, _, _, _, _, _, _, _ => none
 | n + 1, v0, v1, v2, v3, v4, v5, v6, v7, v8, v9 => VP f (X0 f k0 n) k0 v0 v1 v2 v3 v4 v5 v6 v7 v8 v9
def Jbf (k : Kont) := fun x0 x1 x2 x3 x4 x5 x6 x7 => k (Ex.exit 0) (Ji JmI N49 [.ptr 864 [], .ow 113 865 [] 0 x0 none] [(864, .box false 135 (PV.st 135 [.ro 5 x1 x2 x3, .sc (.int .i64 x4), .sc (.int .i64 x5)])), (865, .vec false 113 x6 x7)])
def JmJ (f : Nat) (k : Kont) (n : Nat) (v0 : Int) (v1 : Nat) (v2 : Int) (v3 v4 : Bool) (v5 : List PV) (v6 v7 : Int) (v8 : Bool) (v9 : List PV) : OR := Jy tau 0 JeW (fun s k => ev tau F49 0 0 JoX (JsV ) s k) n (Ji JeW N49 [.ptr 864 [], .sc (.int .i64 v0), .ow 113 865 [] 0 v1 none, .sc (.int .i64 v2)] [(864, .box false 135 (PV.st 135 [.ro 5 v3 v4 v5, .sc (.int .i64 v6), .sc (.int .i64 v7)])), (865, .vec false 113 v8 v9)]) (JG tau 0 JmI k)
theorem JwF (f : Nat) (k : Kont) (n : Nat) (v0 : Int) (v1 : Nat) (v2 : Int) (v3 v4 : Bool) (v5 : List PV) (v6 v7 : Int) (v8 : Bool) (v9 : List PV) : JmJ f k (n + 1) v0 v1 v2 v3 v4 v5 v6 v7 v8 v9 = VP f (JmJ f k n) (Jbf k) v0 v1 v2 v3 v4 v5 v6 v7 v8 v9 := by kernel_rfl
theorem JoY (f : Nat) (k : Kont) : ∀ (n : Nat) (v0 : Int) (v1 : Nat) (v2 : Int) (v3 v4 : Bool) (v5 : List PV) (v6 v7 : Int) (v8 : Bool) (v9 : List PV), JmJ f k n v0 v1 v2 v3 v4 v5 v6 v7 v8 v9 = X0 f (Jbf k) n v0 v1 v2 v3 v4 v5 v6 v7 v8 v9 | 0, _, _, _, _, _, _, _, _, _, _ => rfl | n + 1, v0, v1, v2, v3, v4, v5, v6, v7, v8, v9 => (JwF f k n v0 v1 v2 v3 v4 v5 v6 v7 v8 v9).trans (congrArg (fun r => VP f r (Jbf k) v0 v1 v2 v3 v4 v5 v6 v7 v8 v9) (by funext v0 v1 v2 v3 v4 v5 v6 v7 v8 v9; exact JoY f k n v0 v1 v2 v3 v4 v5 v6 v7 v8 v9))
def JeX (f : Nat) : List PV -> List (Nat × Ent) -> Kont -> OR
 | [.ptr 864 [], .sc (.int .i64 v0), .ow 113 865 [] 0 v1 none,
 PV.sc
  (Value.int IntKind.i64
   v2)], [(864, .box false 135 (PV.st 135 [.ro 5 v3 v4 v5, .sc (.int .i64 v6), .sc (.int .i64 v7)])),
 (865,
  Ent.vec false 113 v8
   v9)], k => X0 f (Jbf k) f v0 v1 v2 v3 v4 v5 v6 v7 v8 v9
 | _, _, _ => none
theorem JCH (f : Nat) : Jf JoX JsV = [] := by kernel_rfl
theorem JCI (f : Nat) : (Item.l JoX JeW N49 (JeX f)).Ok tau Try.prog 0 := Ju Jn JsU Jo (x := JsV) (nm2 := JmI) (Jk _ _ (by rw [JCH f]; intro q hq; cases hq)) fun vs hp k res hr => by
 unfold JeX at hr
 split at hr
 · exact ⟨f, 0, (JoY f _ f _ _ _ _ _ _ _ _ _ _ ).trans hr⟩
 · cases hr
abbrev Jid := (Res.mk (PV.tup [PV.ro 113 true true [], PV.sc (.int .i64 9)]) [] [])
def g49 (f : Nat) (b_z b_f : Bool) (b : List PV) (k : KR) : OR := bif okT (RT.mk b 0 0) then bif decide (Qj 1 (RT.mk b 0 0) > 40) then bif (Jh 1 (RT.mk b 0 0)).e == 0 then X0 f (fun x0_0 _ _ x3_0 x4_0 x5_0 x6_0 QI => bif x5_0 == 0 then bif decide (x4_0 < zi x3_0.length) then k Jid else bif x5_0 == 0 then bif cOk (List.take x0_0 QI) then bif ckO (List.take x0_0 QI) != 0 then k (Res.mk (.tup [.ro 113 true true [], .sc (.int .i64 (ckO (List.take x0_0 QI)))]) [] []) else k (Res.mk (.tup [.ro 113 (Ent.vec false 113 x6_0 QI).nil false (List.take x0_0 QI), .sc (.int .i64 0)]) [] []) else none else bif x5_0 != 0 then k (Res.mk (.tup [.ro 113 true true [], .sc (.int .i64 x5_0)]) [] []) else k (Res.mk (.tup [.ro 113 (Ent.vec false 113 x6_0 QI).nil false (List.take x0_0 QI), .sc (.int .i64 0)]) [] []) else bif x5_0 == 0 then bif cOk (List.take x0_0 QI) then bif ckO (List.take x0_0 QI) != 0 then k (Res.mk (.tup [.ro 113 true true [], .sc (.int .i64 (ckO (List.take x0_0 QI)))]) [] []) else k (Res.mk (.tup [.ro 113 (Ent.vec false 113 x6_0 QI).nil false (List.take x0_0 QI), .sc (.int .i64 0)]) [] []) else none else bif x5_0 != 0 then k (Res.mk (.tup [.ro 113 true true [], .sc (.int .i64 x5_0)]) [] []) else k (Res.mk (.tup [.ro 113 (Ent.vec false 113 x6_0 QI).nil false (List.take x0_0 QI), .sc (.int .i64 0)]) [] [])) f (Qj 1 (RT.mk b 0 0)) (0) (0) b_z b_f ((Jh 1 (RT.mk b 0 0)).B) ((Jh 1 (RT.mk b 0 0)).P) (4) true ([]) else X0 f (fun x0_1 _ _ x3_1 x4_1 x5_1 x6_1 YW => bif x5_1 == 0 then bif decide (x4_1 < zi x3_1.length) then k Jid else bif x5_1 == 0 then bif cOk (List.take x0_1 YW) then bif ckO (List.take x0_1 YW) != 0 then k (Res.mk (.tup [.ro 113 true true [], .sc (.int .i64 (ckO (List.take x0_1 YW)))]) [] []) else k (Res.mk (.tup [.ro 113 (Ent.vec false 113 x6_1 YW).nil false (List.take x0_1 YW), .sc (.int .i64 0)]) [] []) else none else bif x5_1 != 0 then k (Res.mk (.tup [.ro 113 true true [], .sc (.int .i64 x5_1)]) [] []) else k (Res.mk (.tup [.ro 113 (Ent.vec false 113 x6_1 YW).nil false (List.take x0_1 YW), .sc (.int .i64 0)]) [] []) else bif x5_1 == 0 then bif cOk (List.take x0_1 YW) then bif ckO (List.take x0_1 YW) != 0 then k (Res.mk (.tup [.ro 113 true true [], .sc (.int .i64 (ckO (List.take x0_1 YW)))]) [] []) else k (Res.mk (.tup [.ro 113 (Ent.vec false 113 x6_1 YW).nil false (List.take x0_1 YW), .sc (.int .i64 0)]) [] []) else none else bif x5_1 != 0 then k (Res.mk (.tup [.ro 113 true true [], .sc (.int .i64 x5_1)]) [] []) else k (Res.mk (.tup [.ro 113 (Ent.vec false 113 x6_1 YW).nil false (List.take x0_1 YW), .sc (.int .i64 0)]) [] [])) f (Qj 1 (RT.mk b 0 0)) (0) (0) b_z b_f ((Jh 1 (RT.mk b 0 0)).B) ((Jh 1 (RT.mk b 0 0)).P) ((Jh 1 (RT.mk b 0 0)).e) true ([]) else X0 f (fun x0_2 _ _ x3_2 x4_2 x5_2 x6_2 ZJ => bif x5_2 == 0 then bif decide (x4_2 < zi x3_2.length) then k Jid else bif x5_2 == 0 then bif cOk (List.take x0_2 ZJ) then bif ckO (List.take x0_2 ZJ) != 0 then k (Res.mk (.tup [.ro 113 true true [], .sc (.int .i64 (ckO (List.take x0_2 ZJ)))]) [] []) else k (Res.mk (.tup [.ro 113 (Ent.vec false 113 x6_2 ZJ).nil false (List.take x0_2 ZJ), .sc (.int .i64 0)]) [] []) else none else bif x5_2 != 0 then k (Res.mk (.tup [.ro 113 true true [], .sc (.int .i64 x5_2)]) [] []) else k (Res.mk (.tup [.ro 113 (Ent.vec false 113 x6_2 ZJ).nil false (List.take x0_2 ZJ), .sc (.int .i64 0)]) [] []) else bif x5_2 == 0 then bif cOk (List.take x0_2 ZJ) then bif ckO (List.take x0_2 ZJ) != 0 then k (Res.mk (.tup [.ro 113 true true [], .sc (.int .i64 (ckO (List.take x0_2 ZJ)))]) [] []) else k (Res.mk (.tup [.ro 113 (Ent.vec false 113 x6_2 ZJ).nil false (List.take x0_2 ZJ), .sc (.int .i64 0)]) [] []) else none else bif x5_2 != 0 then k (Res.mk (.tup [.ro 113 true true [], .sc (.int .i64 x5_2)]) [] []) else k (Res.mk (.tup [.ro 113 (Ent.vec false 113 x6_2 ZJ).nil false (List.take x0_2 ZJ), .sc (.int .i64 0)]) [] [])) f (Qj 1 (RT.mk b 0 0)) (0) (0) b_z b_f ((Jh 1 (RT.mk b 0 0)).B) ((Jh 1 (RT.mk b 0 0)).P) ((Jh 1 (RT.mk b 0 0)).e) true ([]) else none
theorem e49 (f : Nat) (b_z b_f : Bool) (b : List PV) (k : KR) : JJ tau F49 Try.f49 (Try.f49.body.get!) (JwE (JeX f)) [.ro, .ro] 0 [.ro 5 b_z b_f b] [] k = g49 f b_z b_f b k := by kernel_rfl
theorem JNm (f : Nat) : Jf (Try.f49.body.get!) (JwE (JeX f)) = [.l JoX JeW N49 (JeX f)] := by kernel_rfl
theorem JNn (f : Nat) : ∀ q ∈ Jf (Try.f49.body.get!) (JwE (JeX f)), q.Ok tau Try.prog 0 := by rw [JNm f]; exact JL (JCI f) (fun _ h => nomatch h)
theorem JIs : Try.prog.funcs[49]? = some Try.f49 := by kernel_rfl
theorem JIt : Try.f49.body = some (Try.f49.body.get!) := by kernel_rfl
theorem JNo : Enters Try.prog 49 := enters_of JIs (by kernel_rfl) JIt
-- FN delta.OpParse | ref8.OpParse
def cpN (s : RS) : RS := Qc (Jb 8 (Jb 1 s))
def cpV (s : RS) : PV := .st 113 [.sc (.int .i64 (JA 1 s)), .sc (.int .i64 (JA 8 (Jb 1 s))), .sc (.string (JS (Jb 8 (Jb 1 s))))]
def cpR : Nat -> RS -> RS
 | 0, s => s
 | n + 1, s => cpR n (cpN s)
def cpL : Nat -> RS -> List PV
 | 0, _ => []
 | n + 1, s => cpV s :: cpL n (cpN s)
theorem GI : ∀ (n : Nat) (s : RS), (cpL n s).length = n
 | 0, _ => rfl
 | n + 1, s => by rw [cpL, List.length_cons, GI n]
theorem JsW : ∀ (n : Nat) (s : RS), (cpL n s).all isCp = true
 | 0, _ => rfl
 | n + 1, s => by rw [cpL, List.all_cons, JsW n, Bool.and_true]; exact JjG.2 ⟨_, _, _, rfl⟩
theorem JwG {s : RS} (h : byB s.b = true) : byB (cpN s).b = true := JoB (Qi (Qi h 1) 8)
def opN (b : List PV) : Nat := bif decide (JA 1 ⟨b, 0⟩ > 40) then 0 else (JA 1 ⟨b, 0⟩).toNat
def opS (b : List PV) : RS := bif decide (JA 1 ⟨b, 0⟩ > 40) then Z4 4 (Jb 1 ⟨b, 0⟩) else Jb 1 ⟨b, 0⟩
def Zl (b : List PV) : Int := bif (cpR (opN b) (opS b)).e == 0 then (bif decide ((cpR (opN b) (opS b)).b.length > 0) then 9 else ckO (cpL (opN b) (opS b))) else (cpR (opN b) (opS b)).e
def opE : List PV -> Int := hid Zl
def opL : List PV -> List PV := hid fun b => bif Zl b == 0 then cpL (opN b) (opS b) else []
def opF : List PV -> Bool := hid fun b => !(Zl b == 0)
theorem JeY (b : List PV) : opE b = Zl b := by rw [opE, hid_eq]
theorem JeZ (b : List PV) : opL b = bif Zl b == 0 then cpL (opN b) (opS b) else [] := by rw [opL, hid_eq]
theorem JmK (b : List PV) : opF b = !(Zl b == 0) := by rw [opF, hid_eq]
def WL (e : Int) : PV := .tup [.ro 113 true true [], .sc (.int .i64 e)]
def opP (b : List PV) : PV := .tup [.ro 113 (opL b).isEmpty (opL b).isEmpty (opL b), .sc (.int .i64 (opE b))]
def opQ (b : List PV) : PV := .tup [.ro 113 (opL b).isEmpty (opF b) (opL b), .sc (.int .i64 (opE b))]
theorem Jie {b : List PV} {e : Int} (h : Zl b = e) (h0 : (e == 0) = false) : opP b = WL e := by
 simp only [opP, WL, JeZ, JeY, h, h0, cond_false, List.isEmpty_nil]
theorem Jif {b : List PV} {e : Int} (h : Zl b = e) (h0 : (e == 0) = false) : opQ b = WL e := by
 simp only [opQ, WL, JeZ, JeY, JmK, h, h0, cond_false, List.isEmpty_nil, Bool.not_false]
theorem JCJ {b : List PV} (h : Zl b = 0) : opP b = .tup [.ro 113 (cpL (opN b) (opS b)).isEmpty (cpL (opN b) (opS b)).isEmpty (cpL (opN b) (opS b)), .sc (.int .i64 0)] := by
 simp only [opP, JeZ, JeY, h, beq_self_eq_true, cond_true]
theorem JCK {b : List PV} (h : Zl b = 0) : opQ b = .tup [.ro 113 (cpL (opN b) (opS b)).isEmpty false (cpL (opN b) (opS b)), .sc (.int .i64 0)] := by
 simp only [opQ, JeZ, JeY, JmK, h, beq_self_eq_true, cond_true, Bool.not_true]
theorem JmL {b : List PV} (h : byB b = true) : opN b <= 40 := by
 unfold opN
 have h0 : 0 <= JA 1 ⟨b, 0⟩ := by rw [Zb]; exact (XU (s := ⟨b, 0⟩) h (n := 1) (by omega)).1
 cases hc : decide (JA 1 ⟨b, 0⟩ > 40) with
 | true => exact Nat.zero_le _
 | false =>
  have : ¬ JA 1 ⟨b, 0⟩ > 40 := by simpa using hc
  rw [cond_false]; omega
theorem JwH {b : List PV} (h : byB b = true) : byB (opS b).b = true := by
 have := Qi (s := ⟨b, 0⟩) h 1
 unfold opS Z4
 cases decide (JA 1 ⟨b, 0⟩ > 40) <;> exact this
theorem Jig {n : Nat} (h : n <= 40) (s : RS) : cOk (cpL n s) = true := Yf.2 ⟨JsW n s, by rw [GI]; omega⟩
theorem Jzk (f : Nat) (k0 : Nat -> Bool -> Bool -> List PV -> Int -> Bool -> List PV -> OR) (z fl : Bool) (hz : (!z || fl) = true) (N : Nat) (hN : N <= 40) : ∀ (d i n : Nat) (s : RS) (nl : Bool) (L : List PV), i + d = N -> d < n -> byB s.b = true -> L.length = i ->
  YA f k0 n L.length (N : Int) (i : Int) z fl s.b s.e nl L = k0 (L ++ cpL d s).length z fl (cpR d s).b (cpR d s).e (nl && (cpL d s).isEmpty) (L ++ cpL d s)
 | 0, i, n + 1, s, nl, L, h, hn, hb, hL => by
   obtain rfl : i = N := by omega
   simp only [YA, Jbe, cpR, cpL, List.append_nil, List.isEmpty_nil, Bool.and_true]
   exact Jd (by simp)
 | d + 1, i, n + 1, s, nl, L, h, hn, hb, hL => by
   have w : IntKind.i64.wrap ((i : Int) + 1) = ((i + 1 : Nat) : Int) := by rw [wrap_i64 (by omega) (by omega)]; omega
   have hm : RS.mk s.b s.e = s := rfl
   have hn1 : Qc (Jb 8 (Jb 1 s)) = cpN s := rfl
   have hv1 : PV.st 113 [.sc (.int .i64 (JA 1 s)), .sc (.int .i64 (JA 8 (Jb 1 s))), .sc (.string (JS (Jb 8 (Jb 1 s))))] = cpV s := rfl
   simp only [YA, Jbe, w, hm, hn1, hv1, List.take_length]
   refine (Ja (by simp; omega)).trans ((Ja (by rw [hb, hz]; rfl)).trans ((Ja (by rw [Qi hb 1, hz]; rfl)).trans ((Ja (by rw [Qi (Qi hb 1) 8, hz]; rfl)).trans ((Ja (by simp [Je]; omega)).trans ?_))))
   have := Jzk f k0 z fl hz N hN d (i + 1) n (cpN s) (nl && false) (L ++ [cpV s]) (by omega) (by omega) (JwG hb) (by simp [hL])
   rw [List.length_append] at this
   refine Eq.trans this ?_
   simp only [cpR, cpL, Bool.and_false, Bool.false_and, List.isEmpty_cons, List.append_assoc, List.cons_append, List.nil_append]
theorem JCL (z f : Bool) (b : List PV) (hz : slB z b = true) (hb : byB b = true) (k : KR) :
  g84 50 z f b k = k ⟨opP b, [], []⟩ := by
 have hE : Zl b = Zl b := rfl
 conv at hE => rhs; unfold Zl
 have hN := JmL hb
 have hS := JwH hb
 have key : ∀ (N : Nat) (s : RS) (K : Nat -> Bool -> Bool -> List PV -> Int -> Bool -> List PV -> OR), opN b = N -> opS b = s ->
   (∀ (e : Int) (x1 x2 : Bool), Zl b = (bif (cpR N s).e == 0 then (bif decide ((cpR N s).b.length > 0) then 9 else ckO (cpL N s)) else (cpR N s).e) -> K (cpL N s).length x1 x2 (cpR N s).b (cpR N s).e (true && (cpL N s).isEmpty) ([] ++ cpL N s) = k ⟨opP b, [], []⟩) ->
   YA 50 K 50 0 (N : Int) 0 z z s.b s.e true [] = k ⟨opP b, [], []⟩ := by
  intro N s K h1 h2 h3
  subst h1; subst h2
  refine (Jzk 50 K z z (by cases z <;> rfl) (opN b) hN (opN b) 0 50 (opS b) true [] (by omega) (by omega) hS rfl).trans ?_
  exact h3 0 z z hE
 have fin : ∀ (N : Nat) (s : RS), opN b = N -> opS b = s -> Zl b = (bif (cpR N s).e == 0 then (bif decide ((cpR N s).b.length > 0) then 9 else ckO (cpL N s)) else (cpR N s).e) ->
   (bif (cpR N s).e == 0 then
    bif decide (zi (cpR N s).b.length > 0) then k ⟨WL 9, [], []⟩
    else bif (cpR N s).e == 0 then
     bif cOk (List.take (cpL N s).length ([] ++ cpL N s)) then
      bif ckO (List.take (cpL N s).length ([] ++ cpL N s)) != 0 then k ⟨WL (ckO (List.take (cpL N s).length ([] ++ cpL N s))), [], []⟩
      else bif (Ent.vec false 113 (true && (cpL N s).isEmpty) ([] ++ cpL N s)).nil then k ⟨WL 0, [], []⟩
      else bif Je (0 + (List.take (cpL N s).length ([] ++ cpL N s)).length) 32 && true then k ⟨.tup [.ro 113 false false (List.take (0 + (List.take (cpL N s).length ([] ++ cpL N s)).length) (List.take (cpL N s).length ([] ++ cpL N s))), .sc (.int .i64 0)], [], []⟩ else none
     else none
    else bif (cpR N s).e != 0 then k ⟨WL (cpR N s).e, [], []⟩
    else bif (Ent.vec false 113 (true && (cpL N s).isEmpty) ([] ++ cpL N s)).nil then k ⟨WL 0, [], []⟩
      else bif Je (0 + (List.take (cpL N s).length ([] ++ cpL N s)).length) 32 && true then k ⟨.tup [.ro 113 false false (List.take (0 + (List.take (cpL N s).length ([] ++ cpL N s)).length) (List.take (cpL N s).length ([] ++ cpL N s))), .sc (.int .i64 0)], [], []⟩ else none
   else bif (cpR N s).e == 0 then
     bif cOk (List.take (cpL N s).length ([] ++ cpL N s)) then
      bif ckO (List.take (cpL N s).length ([] ++ cpL N s)) != 0 then k ⟨WL (ckO (List.take (cpL N s).length ([] ++ cpL N s))), [], []⟩
      else bif (Ent.vec false 113 (true && (cpL N s).isEmpty) ([] ++ cpL N s)).nil then k ⟨WL 0, [], []⟩
      else bif Je (0 + (List.take (cpL N s).length ([] ++ cpL N s)).length) 32 && true then k ⟨.tup [.ro 113 false false (List.take (0 + (List.take (cpL N s).length ([] ++ cpL N s)).length) (List.take (cpL N s).length ([] ++ cpL N s))), .sc (.int .i64 0)], [], []⟩ else none
     else none
    else bif (cpR N s).e != 0 then k ⟨WL (cpR N s).e, [], []⟩
    else bif (Ent.vec false 113 (true && (cpL N s).isEmpty) ([] ++ cpL N s)).nil then k ⟨WL 0, [], []⟩
      else bif Je (0 + (List.take (cpL N s).length ([] ++ cpL N s)).length) 32 && true then k ⟨.tup [.ro 113 false false (List.take (0 + (List.take (cpL N s).length ([] ++ cpL N s)).length) (List.take (cpL N s).length ([] ++ cpL N s))), .sc (.int .i64 0)], [], []⟩ else none) = k ⟨opP b, [], []⟩ := by
  intro N s h1 h2 h3
  have hco : cOk (cpL N s) = true := Jig (by omega) s
  have hnl : (Ent.vec false 113 (cpL N s).isEmpty (cpL N s)).nil = (cpL N s).isEmpty := by simp [Ent.nil]
  have hlen : (cpL N s).length <= 40 := by rw [GI]; omega
  have hz9 : decide (zi (cpR N s).b.length > 0) = decide ((cpR N s).b.length > 0) := by apply decide_eq_decide.2; simp only [zi]; omega
  simp only [List.nil_append, List.take_length, Bool.true_and, Nat.zero_add, hco, hnl, hz9, cond_true]
  cases he : ((cpR N s).e == 0) with
  | false =>
   rw [he, cond_false] at h3
   rw [Jie h3 he]
   simp only [cond_false]
   exact Ja (by rw [bne, he]; rfl)
  | true =>
   rw [he, cond_true] at h3
   cases h9 : decide ((cpR N s).b.length > 0) with
   | true =>
    rw [h9, cond_true] at h3
    rw [Jie h3 (by decide)]
    rfl
   | false =>
    rw [h9, cond_false] at h3
    simp only [cond_true, cond_false]
    cases hc : (ckO (cpL N s) == 0) with
    | false =>
     rw [Jie h3 hc]
     exact Ja (by rw [bne, hc]; rfl)
    | true =>
     have hc' : ckO (cpL N s) = 0 := by simpa using hc
     rw [hc'] at h3
     rw [JCJ h3, h1, h2]
     refine (Jd (by rw [bne, hc]; rfl)).trans ?_
     cases hl : cpL N s with
     | nil => rfl
     | cons p ps =>
      rw [hl] at hlen
      refine (Jd rfl).trans ((Ja (by simp [Je] at hlen ⊢; omega)).trans rfl)
 unfold g84 Jic W2
 refine (Ja hz).trans ((Ja (by rw [hb]; cases z <;> rfl)).trans ?_)
 have h0 : 0 <= JA 1 ⟨b, 0⟩ := by rw [Zb]; exact (XU (s := ⟨b, 0⟩) hb (n := 1) (by omega)).1
 cases h4 : decide (JA 1 ⟨b, 0⟩ > 40) with
 | true =>
  have hN0 : opN b = 0 := by unfold opN; rw [h4]; rfl
  have hS0 : opS b = Z4 4 (Jb 1 ⟨b, 0⟩) := by unfold opS; rw [h4]; rfl
  rw [cond_true]
  cases he : ((Jb 1 ⟨b, 0⟩).e == 0) with
  | true =>
   rw [cond_true]
   have hs : opS b = ⟨(Jb 1 ⟨b, 0⟩).b, 4⟩ := by rw [hS0]; unfold Z4; rw [he]; rfl
   exact key 0 ⟨(Jb 1 ⟨b, 0⟩).b, 4⟩ _ hN0 hs fun _ _ _ h => fin 0 _ hN0 hs h
  | false =>
   rw [cond_false]
   have hs : opS b = ⟨(Jb 1 ⟨b, 0⟩).b, (Jb 1 ⟨b, 0⟩).e⟩ := by rw [hS0]; unfold Z4; rw [he]; rfl
   exact key 0 ⟨(Jb 1 ⟨b, 0⟩).b, (Jb 1 ⟨b, 0⟩).e⟩ _ hN0 hs fun _ _ _ h => fin 0 _ hN0 hs h
 | false =>
  have hN0 : opN b = (JA 1 ⟨b, 0⟩).toNat := by unfold opN; rw [h4]; rfl
  have hS0 : opS b = Jb 1 ⟨b, 0⟩ := by unfold opS; rw [h4]; rfl
  rw [cond_false]
  have q := fun K hK => key (JA 1 ⟨b, 0⟩).toNat (Jb 1 ⟨b, 0⟩) K hN0 hS0 hK
  rw [Int.toNat_of_nonneg h0] at q
  exact q _ fun _ _ _ h => fin _ _ hN0 hS0 h
def JmM : Jz
 | [.ro 5 z f b], [], k => bif slB z b && byB b then k ⟨opP b, [], []⟩ else none
 | _, _, _ => none
def JIu : Sig := { own := [], run := JmM }
theorem JIv : Jc tau Try.prog 84 JIu := Jc.mk' fun xs es k res hl hr => by
 change JmM xs es k = some res at hr
 unfold JmM at hr
 split at hr
 · rename_i z f b
   obtain ⟨hc, hr⟩ := Jv hr
   rw [Bool.and_eq_true] at hc
   have hg := (JCL z f b hc.1 hc.2 k).trans hr
   exact J2 Jn JsQ Jo JIg JIh (JwC (JeV 50)) [.ro, .ro] 0 0 (JNf 50) hl rfl ((e84 50 z f b k).trans hg)
 · cases hr
/-! The document's. -/
theorem JwI {s : RS} (h : s.e ≠ 0) : cpN s = s := by
 unfold cpN; rw [XT, XT, JaE h, JaE h, Jdn]; unfold JjI; rw [JaE h 2, JaE h]
theorem JoZ : ∀ (n : Nat) {s : RS}, s.e ≠ 0 -> cpR n s = s
 | 0, _, _ => rfl
 | n + 1, s, h => by show cpR n (cpN s) = s; rw [JwI h, JoZ n h]
theorem JsX (f : Nat) (k0 : Nat -> Bool -> Bool -> List PV -> Int -> Int -> Bool -> List PV -> OR) (n : Nat) {N i : Int} {z fl : Bool} {B : List PV} {P e : Int} (he : (e == 0) = false) {m : Nat} {nl : Bool} {L : List PV} :
  X0 f k0 (n + 1) N m i z fl B P e nl L = k0 m z fl B P e nl L := by
 simp only [X0, VP, he, cond_false]
 cases decide (i < N) <;> rfl
theorem Jzl (f : Nat) (k0 : Nat -> Bool -> Bool -> List PV -> Int -> Int -> Bool -> List PV -> OR) (R : OR) {z fl : Bool} (N : Nat) (hN : N <= 40) :
  ∀ (d i n : Nat) (t : RT) (nl : Bool) (L : List PV), i + d = N -> d < n -> okT t = true -> L.length <= i ->
  (∀ (t' : RT) (nl' : Bool) (L' : List PV), okT t' = true -> t'.view = cpR d t.view -> L'.length <= 40 -> (t'.view.e = 0 -> L' = L ++ cpL d t.view /\ nl' = (nl && (cpL d t.view).isEmpty)) -> k0 L'.length z fl t'.B t'.P t'.e nl' L' = R) ->
  X0 f k0 n (N : Int) L.length (i : Int) z fl t.B t.P t.e nl L = R
 | 0, i, n + 1, t, nl, L, h, hn, ht, hL, hk => by
   simp only [X0, VP]
   exact (Jd (by simp; omega)).trans (hk t nl L ht rfl (by omega) fun _ => by simp [cpL])
 | d + 1, i, n + 1, t, nl, L, h, hn, ht, hL, hk => by
   cases he : (t.e == 0) with
   | false =>
    have he' : t.view.e ≠ 0 := by simpa [RT.view] using he
    rw [JsX f k0 n he]
    exact hk t nl L ht (JoZ _ he').symm (by omega) fun h0 => absurd h0 he'
   | true =>
    have w : IntKind.i64.wrap ((i : Int) + 1) = ((i + 1 : Nat) : Int) := by rw [wrap_i64 (by omega) (by omega)]; omega
    have hm : RT.mk t.B t.P t.e = t := rfl
    have o1 := QA ht 1
    have o2 := QA o1 8
    have hview : (QU (Jh 8 (Jh 1 t))).view = cpN t.view := by simp only [Jgk, Qk, cpN]
    have hv1 : PV.st 113 [.sc (.int .i64 (Qj 1 t)), .sc (.int .i64 (Qj 8 (Jh 1 t))), .sc (.string (XV (Jh 8 (Jh 1 t))))] = cpV t.view := by simp only [WC, Jgl, Qk, cpV]
    simp only [X0, VP, w, hm, List.take_length, he]
    refine (Ja (by simp; omega)).trans ((Ja rfl).trans ((Ja ht).trans ((Ja o1).trans ((Ja o2).trans ((Ja (by simp [Je]; omega)).trans ?_)))))
    rw [hv1]
    have := Jzl f k0 R (z := z) (fl := fl) N hN d (i + 1) n (QU (Jh 8 (Jh 1 t))) (nl && false) (L ++ [cpV t.view]) (by omega) (by omega) (JjL o2) (by simp; omega) fun t' nl' L' h1 h2 h3 h4 => hk t' nl' L' h1 (by rw [h2, hview]; rfl) h3 fun h0 => by
     obtain ⟨q1, q2⟩ := h4 h0
     rw [hview] at q1 q2
     exact ⟨by rw [q1]; simp [cpL], by rw [q2]; simp [cpL]⟩
    rw [List.length_append] at this
    exact this
theorem JCM (z f : Bool) (b : List PV) (hb : byB b = true) (hlen : b.length <= 1000000000) (k : KR) :
  g49 50 z f b k = k ⟨opQ b, [], []⟩ := by
 have hE : Zl b = Zl b := rfl
 conv at hE => rhs; unfold Zl
 have hN := JmL hb
 have hok0 : okT (RT.mk b 0 0) = true := by simp [okT, hb]; omega
 have hv0 : (RT.mk b 0 0).view = RS.mk b 0 := rfl
 have fin : ∀ (t' : RT) (nl' : Bool) (L' : List PV), okT t' = true -> t'.view = cpR (opN b) (opS b) -> L'.length <= 40 -> (t'.view.e = 0 -> L' = cpL (opN b) (opS b) /\ nl' = (cpL (opN b) (opS b)).isEmpty) ->
   (bif t'.e == 0 then
     bif decide (t'.P < zi t'.B.length) then k ⟨WL 9, [], []⟩
     else bif t'.e == 0 then
      bif cOk (List.take L'.length L') then
       bif ckO (List.take L'.length L') != 0 then k ⟨WL (ckO (List.take L'.length L')), [], []⟩
       else k ⟨.tup [.ro 113 (Ent.vec false 113 nl' L').nil false (List.take L'.length L'), .sc (.int .i64 0)], [], []⟩
      else none
     else bif t'.e != 0 then k ⟨WL t'.e, [], []⟩
     else k ⟨.tup [.ro 113 (Ent.vec false 113 nl' L').nil false (List.take L'.length L'), .sc (.int .i64 0)], [], []⟩
   else bif t'.e == 0 then
      bif cOk (List.take L'.length L') then
       bif ckO (List.take L'.length L') != 0 then k ⟨WL (ckO (List.take L'.length L')), [], []⟩
       else k ⟨.tup [.ro 113 (Ent.vec false 113 nl' L').nil false (List.take L'.length L'), .sc (.int .i64 0)], [], []⟩
      else none
     else bif t'.e != 0 then k ⟨WL t'.e, [], []⟩
     else k ⟨.tup [.ro 113 (Ent.vec false 113 nl' L').nil false (List.take L'.length L'), .sc (.int .i64 0)], [], []⟩) = k ⟨opQ b, [], []⟩ := by
  intro t' nl' L' ht hV hL hq
  have hve : t'.e = (cpR (opN b) (opS b)).e := by rw [← hV]; rfl
  have hvP : decide (t'.P < zi t'.B.length) = decide ((cpR (opN b) (opS b)).b.length > 0) := by
   rw [← hV]
   show decide _ = decide ((List.drop _ _).length > 0)
   rw [List.length_drop]
   simp only [okT, Bool.and_eq_true, decide_eq_true_eq] at ht
   apply decide_eq_decide.2
   simp only [zi]; omega
  simp only [hvP, List.take_length]
  cases he : (t'.e == 0) with
  | false =>
   have he2 : ((cpR (opN b) (opS b)).e == 0) = false := by rw [← hve]; exact he
   rw [he2, cond_false, ← hve] at hE
   rw [Jif hE he]
   simp only [cond_false]
   exact Ja (by rw [bne, he]; rfl)
  | true =>
   have he2 : ((cpR (opN b) (opS b)).e == 0) = true := by rw [← hve]; exact he
   rw [he2, cond_true] at hE
   cases h9 : decide ((cpR (opN b) (opS b)).b.length > 0) with
   | true =>
     rw [h9, cond_true] at hE
     rw [Jif hE (by decide)]
     rfl
   | false =>
     rw [h9, cond_false] at hE
     obtain ⟨w1, w2⟩ := hq (by have := he; rw [beq_iff_eq] at this; exact this)
     simp only [cond_true, cond_false]
     rw [w1, w2]
     have hco : cOk (cpL (opN b) (opS b)) = true := Jig hN _
     have hnl : (Ent.vec false 113 (cpL (opN b) (opS b)).isEmpty (cpL (opN b) (opS b))).nil = (cpL (opN b) (opS b)).isEmpty := by simp [Ent.nil]
     refine (Ja hco).trans ?_
     cases hc : (ckO (cpL (opN b) (opS b)) == 0) with
     | false =>
      rw [Jif hE hc]
      exact Ja (by rw [bne, hc]; rfl)
     | true =>
      have hc' : ckO (cpL (opN b) (opS b)) = 0 := by simpa using hc
      rw [hc'] at hE
      rw [JCK hE, hnl]
      exact (Jd (by rw [bne, hc]; rfl))
 unfold g49 Jid
 refine (Ja hok0).trans ?_
 have hn : Qj 1 (RT.mk b 0 0) = JA 1 ⟨b, 0⟩ := by rw [WC, hv0]
 have hvs : (Jh 1 (RT.mk b 0 0)).view = Jb 1 ⟨b, 0⟩ := by rw [Qk, hv0]
 have hos : okT (Jh 1 (RT.mk b 0 0)) = true := QA hok0 1
 generalize hst : Jh 1 (RT.mk b 0 0) = st at *
 have hse : st.e = (Jb 1 ⟨b, 0⟩).e := by rw [← hvs]; rfl
 rw [hn]
 have h0 : 0 <= JA 1 ⟨b, 0⟩ := by rw [Zb]; exact (XU (s := ⟨b, 0⟩) hb (n := 1) (by omega)).1
 cases h4 : decide (JA 1 ⟨b, 0⟩ > 40) with
 | true =>
  have hN0 : opN b = 0 := by unfold opN; rw [h4]; rfl
  have hS0 : opS b = Z4 4 (Jb 1 ⟨b, 0⟩) := by unfold opS; rw [h4]; rfl
  rw [cond_true]
  cases he : (st.e == 0) with
  | true =>
   rw [cond_true]
   refine (JsX 50 _ 49 (by decide)).trans ?_
   refine fin ⟨st.B, st.P, 4⟩ true [] hos ?_ (by decide) fun h => ?_
   · rw [hN0, hS0, ← hvs]
     show RS.mk _ _ = Z4 4 st.view
     unfold Z4
     rw [show (st.view.e == 0) = true from he]; rfl
   · have h' : (4 : Int) = 0 := h
     exact absurd h' (by decide)
  | false =>
   rw [cond_false]
   refine (JsX 50 _ 49 he).trans ?_
   refine fin st true [] hos ?_ (by decide) fun h => ?_
   · rw [hN0, hS0, ← hvs]
     show st.view = Z4 4 st.view
     unfold Z4
     rw [show (st.view.e == 0) = false from he]; rfl
   · have h' : st.e = 0 := h
     rw [h'] at he; exact absurd he (by decide)
 | false =>
  have hN0 : opN b = (JA 1 ⟨b, 0⟩).toNat := by unfold opN; rw [h4]; rfl
  have hS0 : opS b = Jb 1 ⟨b, 0⟩ := by unfold opS; rw [h4]; rfl
  rw [cond_false]
  have hcn : JA 1 ⟨b, 0⟩ = ((opN b : Nat) : Int) := by rw [hN0]; exact (Int.toNat_of_nonneg h0).symm
  rw [hcn]
  refine Jzl 50 _ _ (opN b) hN (opN b) 0 50 st true [] (by omega) (by omega) hos (by decide) fun t' nl' L' q1 q2 q3 q4 => ?_
  have hVt : st.view = opS b := by rw [hS0, hvs]
  rw [hVt] at q2 q4
  exact fin t' nl' L' q1 q2 q3 fun h => by
   obtain ⟨w1, w2⟩ := q4 h
   exact ⟨by rw [w1, List.nil_append], by rw [w2, Bool.true_and]⟩
def JmN : Jz
 | [.ro 5 z f b], [], k => bif byB b && Nat.ble b.length 1000000000 then k ⟨opQ b, [], []⟩ else none
 | _, _, _ => none
def JIw : Sig := { own := [], run := JmN }
theorem JIx : Jc tau Try.prog 49 JIw := Jc.mk' fun xs es k res hl hr => by
 change JmN xs es k = some res at hr
 unfold JmN at hr
 split at hr
 · rename_i z f b
   obtain ⟨hc, hr⟩ := Jv hr
   rw [Bool.and_eq_true, Nat.ble_eq] at hc
   have hg := (JCM z f b hc.1 hc.2 k).trans hr
   exact J2 Jn JsU Jo JIs JIt (JwE (JeX 50)) [.ro, .ro] 0 0 (JNn 50) hl rfl ((e49 50 z f b k).trans hg)
 · cases hr
def N37 : Nat := 62
def F37 : Fns := Jt 85 JHt (Jt 84 JIu (Jt 83 JAP (Jt 82 s82 (Jt 81 s81 (Jt 67 s67 (Jt 65 s65 (F0)))))))
theorem JsY : Jq tau Try.prog F37 := (((((((Js).add JH5 JH4).add JH9 JH8).add JFz JFy).add JFD JFC).add Jyt JFG).add JIv JNg).add JHu JLR
def Jo0 : Code := Qd (Try.f37.body.get!) [1, 1, 1, 0, 1, 0, 0]
def Je0 : Nm := [(2, .any), (4, .any), (5, .any), (21, .any)]
def JmO : Nm := [(2, .any), (4, .any), (5, .any)]
def JsZ : An := (.seq .leaf (.seq (.cond .leaf .leaf) (.seq (.block none (.seq .leaf .leaf)) .leaf)))
def JwJ (r0 : Qr) : An := (.seq .leaf (.seq .leaf (.seq .leaf (.seq (.seq .leaf (.block none (.sum Je0 N37 r0))) (.seq .leaf (.seq .leaf (.seq .leaf (.seq .leaf (.seq (.seq .leaf (.cond .leaf .leaf)) (.seq (.seq .leaf (.cond .leaf .leaf)) (.seq (.seq .leaf (.cond (.seq .leaf .leaf) .leaf)) (.seq .leaf .leaf))))))))))))
def Jbg (f : Nat) (rc : Int -> Int -> Int -> Int -> Int -> List PV -> Int -> List PV -> Int -> Int -> Bool -> Bool -> List PV -> Int -> Int -> Int -> Int -> Int -> List PV -> Int -> List PV -> Int -> Int -> OR) (k0 : Int -> Int -> Int -> Int -> List PV -> Int -> List PV -> Int -> Int -> Bool -> Bool -> List PV -> Int -> Int -> Int -> Int -> Int -> List PV -> Int -> List PV -> Int -> Int -> OR) (v0 v1 v2 v3 v4 : Int) (v5 : List PV) (v6 : Int) (v7 : List PV) (v8 v9 : Int) (v10 v11 : Bool) (v12 : List PV) (v13 v14 v15 v16 v17 : Int) (v18 : List PV) (v19 : Int) (v20 : List PV) (v21 v22 : Int) : OR := bif decide (v0 < 32) then bif (!v10 || v11) && true && byB v12 then bif decide (0 <= v0) && decide (v0 < zi 32) && true then rc (IntKind.i64.wrap (v0 + 1)) v1 v2 v3 v4 v5 v6 v7 v8 v9 v10 v11 ((Jb 1 (RS.mk v12 v13)).b) ((Jb 1 (RS.mk v12 v13)).e) v14 v15 v16 v17 (v18.set v0.toNat (.sc (.int .u8 (IntKind.u8.wrap (JA 1 (RS.mk v12 v13)))))) v19 v20 v21 v22 else none else none else k0 v1 v2 v3 v4 v5 v6 v7 v8 v9 v10 v11 v12 v13 v14 v15 v16 v17 v18 v19 v20 v21 v22
def GJ (f : Nat) (k0 : Int -> Int -> Int -> Int -> List
 PV -> Int -> List
 PV -> Int -> Int -> Bool -> Bool -> List
 PV -> Int -> Int -> Int -> Int -> Int -> List
 PV -> Int -> List
 PV -> Int -> Int -> OR) : Nat -> Int -> Int -> Int -> Int -> Int -> List
 PV -> Int -> List PV -> Int -> Int -> Bool -> Bool -> List PV -> Int -> Int -> Int -> Int -> Int -> List PV -> Int -> List PV -> Int -> Int -> OR
 | 0, _, _, _, _, _, _, _, _, _, _, _, _, _, _, _, _, _, _, _, _, _, _, _ => none
 | n + 1, v0, v1, v2, v3, v4, v5, v6, v7, v8, v9, v10, v11, v12, v13, v14, v15, v16, v17, v18, v19, v20, v21, v22 => Jbg f (GJ f k0 n) k0 v0 v1 v2 v3 v4 v5 v6 v7 v8 v9 v10 v11 v12 v13 v14 v15 v16 v17 v18 v19 v20 v21 v22
def Jbh (k : Kont) := fun x0 x1 x2 x3 x4 x5 x6 x7 x8 x9 x10 x11 x12 x13 x14 x15 x16 x17 x18 x19 x20 x21 => k (Ex.exit 0) (Ji JmO N37 [.ptr 1008 [], .ptr 1009 [], .ptr 1010 []] [(1008, .box false 53 (PV.st 53 [.st 42 [.sc (.int .i64 x0), .sc (.int .i64 x1)], .sc (.int .i64 x2), .sc (.int .i64 x3), .ar 37 x4, .sc (.int .i64 x5), .ro 113 true true x6, .st 42 [.sc (.int .i64 x7), .sc (.int .i64 x8)]])), (1009, .box false 166 (PV.st 166 [.ro 5 x9 x10 x11, .sc (.int .i64 x12)])), (1010, .box false 53 (PV.st 53 [.st 42 [.sc (.int .i64 x13), .sc (.int .i64 x14)], .sc (.int .i64 x15), .sc (.int .i64 x16), .ar 37 x17, .sc (.int .i64 x18), .ro 113 true true x19, .st 42 [.sc (.int .i64 x20), .sc (.int .i64 x21)]]))])
def JmP (f : Nat) (k : Kont) (n : Nat) (v0 v1 v2 v3 v4 : Int) (v5 : List PV) (v6 : Int) (v7 : List PV) (v8 v9 : Int) (v10 v11 : Bool) (v12 : List PV) (v13 v14 v15 v16 v17 : Int) (v18 : List PV) (v19 : Int) (v20 : List PV) (v21 v22 : Int) : OR := Jy tau 0 Je0 (fun s k => ev tau F37 0 0 Jo0 (JsZ ) s k) n (Ji Je0 N37 [.ptr 1008 [], .ptr 1009 [], .ptr 1010 [], .sc (.int .i64 v0)] [(1008, .box false 53 (PV.st 53 [.st 42 [.sc (.int .i64 v1), .sc (.int .i64 v2)], .sc (.int .i64 v3), .sc (.int .i64 v4), .ar 37 v5, .sc (.int .i64 v6), .ro 113 true true v7, .st 42 [.sc (.int .i64 v8), .sc (.int .i64 v9)]])), (1009, .box false 166 (PV.st 166 [.ro 5 v10 v11 v12, .sc (.int .i64 v13)])), (1010, .box false 53 (PV.st 53 [.st 42 [.sc (.int .i64 v14), .sc (.int .i64 v15)], .sc (.int .i64 v16), .sc (.int .i64 v17), .ar 37 v18, .sc (.int .i64 v19), .ro 113 true true v20, .st 42 [.sc (.int .i64 v21), .sc (.int .i64 v22)]]))]) (JG tau 0 JmO k)
theorem JwK (f : Nat) (k : Kont) (n : Nat) (v0 v1 v2 v3 v4 : Int) (v5 : List PV) (v6 : Int) (v7 : List PV) (v8 v9 : Int) (v10 v11 : Bool) (v12 : List PV) (v13 v14 v15 v16 v17 : Int) (v18 : List PV) (v19 : Int) (v20 : List PV) (v21 v22 : Int) : JmP f k (n + 1) v0 v1 v2 v3 v4 v5 v6 v7 v8 v9 v10 v11 v12 v13 v14 v15 v16 v17 v18 v19 v20 v21 v22 = Jbg f (JmP f k n) (Jbh k) v0 v1 v2 v3 v4 v5 v6 v7 v8 v9 v10 v11 v12 v13 v14 v15 v16 v17 v18 v19 v20 v21 v22 := by kernel_rfl
theorem Jo1 (f : Nat) (k : Kont) : ∀ (n : Nat) (v0 v1 v2 v3 v4 : Int) (v5 : List PV) (v6 : Int) (v7 : List PV) (v8 v9 : Int) (v10 v11 : Bool) (v12 : List PV) (v13 v14 v15 v16 v17 : Int) (v18 : List PV) (v19 : Int) (v20 : List PV) (v21 v22 : Int), JmP f k n v0 v1 v2 v3 v4 v5 v6 v7 v8 v9 v10 v11 v12 v13 v14 v15 v16 v17 v18 v19 v20 v21 v22 = GJ f (Jbh k) n v0 v1 v2 v3 v4 v5 v6 v7 v8 v9 v10 v11 v12 v13 v14 v15 v16 v17 v18 v19 v20 v21 v22 | 0, _, _, _, _, _, _, _, _, _, _, _, _, _, _, _, _, _, _, _, _, _, _, _ => rfl | n + 1, v0, v1, v2, v3, v4, v5, v6, v7, v8, v9, v10, v11, v12, v13, v14, v15, v16, v17, v18, v19, v20, v21, v22 => (JwK f k n v0 v1 v2 v3 v4 v5 v6 v7 v8 v9 v10 v11 v12 v13 v14 v15 v16 v17 v18 v19 v20 v21 v22).trans (congrArg (fun r => Jbg f r (Jbh k) v0 v1 v2 v3 v4 v5 v6 v7 v8 v9 v10 v11 v12 v13 v14 v15 v16 v17 v18 v19 v20 v21 v22) (by funext v0 v1 v2 v3 v4 v5 v6 v7 v8 v9 v10 v11 v12 v13 v14 v15 v16 v17 v18 v19 v20 v21 v22; exact Jo1 f k n v0 v1 v2 v3 v4 v5 v6 v7 v8 v9 v10 v11 v12 v13 v14 v15 v16 v17 v18 v19 v20 v21 v22))
def Je1 (f : Nat) : List PV -> List (Nat × Ent) -> Kont -> OR
 | [.ptr 1008 [], .ptr 1009 [], .ptr 1010 [],
 PV.sc
  (Value.int IntKind.i64
   v0)], [(1008,
  Ent.box false 53
   (PV.st 53
    [.st 42 [.sc (.int .i64 v1), .sc (.int .i64 v2)], .sc (.int .i64 v3), .sc (.int .i64 v4), .ar 37 v5,
     .sc (.int .i64 v6), .ro 113 true true v7, .st 42 [.sc (.int .i64 v8), .sc (.int .i64 v9)]])),
 (1009, .box false 166 (PV.st 166 [.ro 5 v10 v11 v12, .sc (.int .i64 v13)])),
 (1010,
  Ent.box false 53
   (PV.st 53
    [.st 42 [.sc (.int .i64 v14), .sc (.int .i64 v15)], .sc (.int .i64 v16), .sc (.int .i64 v17), .ar 37 v18,
     .sc (.int .i64 v19), .ro 113 true true v20,
     PV.st 42
      [.sc (.int .i64 v21),
       PV.sc
        (Value.int IntKind.i64
         v22)]]))], k => GJ f (Jbh k) f v0 v1 v2 v3 v4 v5 v6 v7 v8 v9 v10 v11 v12 v13 v14 v15 v16 v17 v18 v19 v20 v21 v22
 | _, _, _ => none
theorem JCN (f : Nat) : Jf Jo0 JsZ = [] := by kernel_rfl
theorem JCO (f : Nat) : (Item.l Jo0 Je0 N37 (Je1 f)).Ok tau Try.prog 0 := Ju Jn JsY Jo (x := JsZ) (nm2 := JmO) (Jk _ _ (by rw [JCN f]; intro q hq; cases hq)) fun vs hp k res hr => by
 unfold Je1 at hr
 split at hr
 · exact ⟨f, 0, (Jo1 f _ f _ _ _ _ _ _ _ _ _ _ _ _ _ _ _ _ _ _ _ _ _ _ _ ).trans hr⟩
 · cases hr
abbrev Xq := [PV.sc (.int .u8 0), PV.sc (.int .u8 0), PV.sc (.int .u8 0), PV.sc (.int .u8 0), PV.sc (.int .u8 0), PV.sc (.int .u8 0), PV.sc (.int .u8 0), PV.sc (.int .u8 0), PV.sc (.int .u8 0), PV.sc (.int .u8 0), PV.sc (.int .u8 0), PV.sc (.int .u8 0), PV.sc (.int .u8 0), PV.sc (.int .u8 0), PV.sc (.int .u8 0), PV.sc (.int .u8 0), PV.sc (.int .u8 0), PV.sc (.int .u8 0), PV.sc (.int .u8 0), PV.sc (.int .u8 0), PV.sc (.int .u8 0), PV.sc (.int .u8 0), PV.sc (.int .u8 0), PV.sc (.int .u8 0), PV.sc (.int .u8 0), PV.sc (.int .u8 0), PV.sc (.int .u8 0), PV.sc (.int .u8 0), PV.sc (.int .u8 0), PV.sc (.int .u8 0), PV.sc (.int .u8 0), PV.sc (.int .u8 0)]
abbrev Je2 (b : List PV) := (Jb 8 (Jb 8 (Jb 8 (RS.mk b 0))))
def g37 (f : Nat) (b_z b_f : Bool) (b : List PV) (k : KR) : OR := bif slB b_z b then bif (!b_z || b_z) && true && byB b then bif (!b_z || b_z) && true && byB (Jb 8 (RS.mk b 0)).b then bif (!b_z || b_z) && true && byB (Jb 8 (Jb 8 (RS.mk b 0))).b then bif (!b_z || b_z) && true && byB (Je2 b).b then GJ f (fun _ _ _ _ _ _ _ _ _ x9_0 x10_0 Jp x12_0 Wo x14_0 x15_0 x16_0 x17_0 _ x19_0 _ _ => bif (!x9_0 || x10_0) && true && byB Jp then bif (!x9_0 || x10_0) && byB (Jb 1 (RS.mk Jp x12_0)).b then bif (!x9_0 || x10_0) && true && byB (Qc (Jb 1 (RS.mk Jp x12_0))).b then bif (!x9_0 || x10_0) && true && byB (Jb 8 (Qc (Jb 1 (RS.mk Jp x12_0)))).b then bif (Jb 8 (Jb 8 (Qc (Jb 1 (RS.mk Jp x12_0))))).e == 0 then bif decide (zi (Jb 8 (Jb 8 (Qc (Jb 1 (RS.mk Jp x12_0))))).b.length > 0) then k (Res.mk (.tup [.st 53 [.st 42 [.sc (.int .i64 0), .sc (.int .i64 0)], .sc (.int .i64 0), .sc (.int .i64 0), .ar 37 Xq, .sc (.int .i64 0), .ro 113 true true [], .st 42 [.sc (.int .i64 0), .sc (.int .i64 0)]], .sc (.int .i64 9)]) [] []) else bif (Jb 8 (Jb 8 (Qc (Jb 1 (RS.mk Jp x12_0))))).e == 0 then bif Je (JS (Jb 1 (RS.mk Jp x12_0))).size 1 && true then bif slB (Ent.vec false 5 false (Jj (JS (Jb 1 (RS.mk Jp x12_0))))).nil (List.take (JS (Jb 1 (RS.mk Jp x12_0))).size (List.drop 0 (Jj (JS (Jb 1 (RS.mk Jp x12_0)))))) && byB (List.take (JS (Jb 1 (RS.mk Jp x12_0))).size (Jj (JS (Jb 1 (RS.mk Jp x12_0))))) then bif opE (List.take (JS (Jb 1 (RS.mk Jp x12_0))).size (Jj (JS (Jb 1 (RS.mk Jp x12_0))))) == 0 then bif cOk (opL (List.take (JS (Jb 1 (RS.mk Jp x12_0))).size (Jj (JS (Jb 1 (RS.mk Jp x12_0)))))) then bif dCk (DV.mk Wo x14_0 x15_0 x16_0 x17_0 (JA 1 (RS.mk Jp x12_0)) (opL (List.take (JS (Jb 1 (RS.mk Jp x12_0))).size (Jj (JS (Jb 1 (RS.mk Jp x12_0)))))) (JA 8 (Qc (Jb 1 (RS.mk Jp x12_0)))) (JA 8 (Jb 8 (Qc (Jb 1 (RS.mk Jp x12_0)))))) != 0 then k (Res.mk (.tup [.st 53 [.st 42 [.sc (.int .i64 0), .sc (.int .i64 0)], .sc (.int .i64 0), .sc (.int .i64 0), .ar 37 Xq, .sc (.int .i64 0), .ro 113 true true [], .st 42 [.sc (.int .i64 0), .sc (.int .i64 0)]], .sc (.int .i64 (dCk (DV.mk Wo x14_0 x15_0 x16_0 x17_0 (JA 1 (RS.mk Jp x12_0)) (opL (List.take (JS (Jb 1 (RS.mk Jp x12_0))).size (Jj (JS (Jb 1 (RS.mk Jp x12_0)))))) (JA 8 (Qc (Jb 1 (RS.mk Jp x12_0)))) (JA 8 (Jb 8 (Qc (Jb 1 (RS.mk Jp x12_0))))))))]) [] []) else k (Res.mk (.tup [.st 53 [.st 42 [.sc (.int .i64 Wo), .sc (.int .i64 x14_0)], .sc (.int .i64 x15_0), .sc (.int .i64 x16_0), .ar 37 x17_0, .sc (.int .i64 (JA 1 (RS.mk Jp x12_0))), .ro 113 (opL (List.take (JS (Jb 1 (RS.mk Jp x12_0))).size (Jj (JS (Jb 1 (RS.mk Jp x12_0)))))).isEmpty (opL (List.take (JS (Jb 1 (RS.mk Jp x12_0))).size (Jj (JS (Jb 1 (RS.mk Jp x12_0)))))).isEmpty (opL (List.take (JS (Jb 1 (RS.mk Jp x12_0))).size (Jj (JS (Jb 1 (RS.mk Jp x12_0)))))), .st 42 [.sc (.int .i64 (JA 8 (Qc (Jb 1 (RS.mk Jp x12_0))))), .sc (.int .i64 (JA 8 (Jb 8 (Qc (Jb 1 (RS.mk Jp x12_0))))))]], .sc (.int .i64 0)]) [] []) else none else bif opE (List.take (JS (Jb 1 (RS.mk Jp x12_0))).size (Jj (JS (Jb 1 (RS.mk Jp x12_0))))) != 0 then k (Res.mk (.tup [.st 53 [.st 42 [.sc (.int .i64 0), .sc (.int .i64 0)], .sc (.int .i64 0), .sc (.int .i64 0), .ar 37 Xq, .sc (.int .i64 0), .ro 113 true true [], .st 42 [.sc (.int .i64 0), .sc (.int .i64 0)]], .sc (.int .i64 (opE (List.take (JS (Jb 1 (RS.mk Jp x12_0))).size (Jj (JS (Jb 1 (RS.mk Jp x12_0)))))))]) [] []) else k (Res.mk (.tup [.st 53 [.st 42 [.sc (.int .i64 Wo), .sc (.int .i64 x14_0)], .sc (.int .i64 x15_0), .sc (.int .i64 x16_0), .ar 37 x17_0, .sc (.int .i64 (JA 1 (RS.mk Jp x12_0))), .ro 113 (opL (List.take (JS (Jb 1 (RS.mk Jp x12_0))).size (Jj (JS (Jb 1 (RS.mk Jp x12_0)))))).isEmpty (opL (List.take (JS (Jb 1 (RS.mk Jp x12_0))).size (Jj (JS (Jb 1 (RS.mk Jp x12_0)))))).isEmpty (opL (List.take (JS (Jb 1 (RS.mk Jp x12_0))).size (Jj (JS (Jb 1 (RS.mk Jp x12_0)))))), .st 42 [.sc (.int .i64 (JA 8 (Qc (Jb 1 (RS.mk Jp x12_0))))), .sc (.int .i64 (JA 8 (Jb 8 (Qc (Jb 1 (RS.mk Jp x12_0))))))]], .sc (.int .i64 0)]) [] []) else none else none else bif (Jb 8 (Jb 8 (Qc (Jb 1 (RS.mk Jp x12_0))))).e == 0 then bif cOk x19_0 then bif dCk (DV.mk Wo x14_0 x15_0 x16_0 x17_0 (JA 1 (RS.mk Jp x12_0)) x19_0 (JA 8 (Qc (Jb 1 (RS.mk Jp x12_0)))) (JA 8 (Jb 8 (Qc (Jb 1 (RS.mk Jp x12_0)))))) != 0 then k (Res.mk (.tup [.st 53 [.st 42 [.sc (.int .i64 0), .sc (.int .i64 0)], .sc (.int .i64 0), .sc (.int .i64 0), .ar 37 Xq, .sc (.int .i64 0), .ro 113 true true [], .st 42 [.sc (.int .i64 0), .sc (.int .i64 0)]], .sc (.int .i64 (dCk (DV.mk Wo x14_0 x15_0 x16_0 x17_0 (JA 1 (RS.mk Jp x12_0)) x19_0 (JA 8 (Qc (Jb 1 (RS.mk Jp x12_0)))) (JA 8 (Jb 8 (Qc (Jb 1 (RS.mk Jp x12_0))))))))]) [] []) else k (Res.mk (.tup [.st 53 [.st 42 [.sc (.int .i64 Wo), .sc (.int .i64 x14_0)], .sc (.int .i64 x15_0), .sc (.int .i64 x16_0), .ar 37 x17_0, .sc (.int .i64 (JA 1 (RS.mk Jp x12_0))), .ro 113 true true x19_0, .st 42 [.sc (.int .i64 (JA 8 (Qc (Jb 1 (RS.mk Jp x12_0))))), .sc (.int .i64 (JA 8 (Jb 8 (Qc (Jb 1 (RS.mk Jp x12_0))))))]], .sc (.int .i64 0)]) [] []) else none else bif (Jb 8 (Jb 8 (Qc (Jb 1 (RS.mk Jp x12_0))))).e != 0 then k (Res.mk (.tup [.st 53 [.st 42 [.sc (.int .i64 0), .sc (.int .i64 0)], .sc (.int .i64 0), .sc (.int .i64 0), .ar 37 Xq, .sc (.int .i64 0), .ro 113 true true [], .st 42 [.sc (.int .i64 0), .sc (.int .i64 0)]], .sc (.int .i64 (Jb 8 (Jb 8 (Qc (Jb 1 (RS.mk Jp x12_0))))).e)]) [] []) else k (Res.mk (.tup [.st 53 [.st 42 [.sc (.int .i64 Wo), .sc (.int .i64 x14_0)], .sc (.int .i64 x15_0), .sc (.int .i64 x16_0), .ar 37 x17_0, .sc (.int .i64 (JA 1 (RS.mk Jp x12_0))), .ro 113 true true x19_0, .st 42 [.sc (.int .i64 (JA 8 (Qc (Jb 1 (RS.mk Jp x12_0))))), .sc (.int .i64 (JA 8 (Jb 8 (Qc (Jb 1 (RS.mk Jp x12_0))))))]], .sc (.int .i64 0)]) [] []) else bif (Jb 8 (Jb 8 (Qc (Jb 1 (RS.mk Jp x12_0))))).e == 0 then bif Je (JS (Jb 1 (RS.mk Jp x12_0))).size 1 && true then bif slB (Ent.vec false 5 false (Jj (JS (Jb 1 (RS.mk Jp x12_0))))).nil (List.take (JS (Jb 1 (RS.mk Jp x12_0))).size (List.drop 0 (Jj (JS (Jb 1 (RS.mk Jp x12_0)))))) && byB (List.take (JS (Jb 1 (RS.mk Jp x12_0))).size (Jj (JS (Jb 1 (RS.mk Jp x12_0))))) then bif opE (List.take (JS (Jb 1 (RS.mk Jp x12_0))).size (Jj (JS (Jb 1 (RS.mk Jp x12_0))))) == 0 then bif cOk (opL (List.take (JS (Jb 1 (RS.mk Jp x12_0))).size (Jj (JS (Jb 1 (RS.mk Jp x12_0)))))) then bif dCk (DV.mk Wo x14_0 x15_0 x16_0 x17_0 (JA 1 (RS.mk Jp x12_0)) (opL (List.take (JS (Jb 1 (RS.mk Jp x12_0))).size (Jj (JS (Jb 1 (RS.mk Jp x12_0)))))) (JA 8 (Qc (Jb 1 (RS.mk Jp x12_0)))) (JA 8 (Jb 8 (Qc (Jb 1 (RS.mk Jp x12_0)))))) != 0 then k (Res.mk (.tup [.st 53 [.st 42 [.sc (.int .i64 0), .sc (.int .i64 0)], .sc (.int .i64 0), .sc (.int .i64 0), .ar 37 Xq, .sc (.int .i64 0), .ro 113 true true [], .st 42 [.sc (.int .i64 0), .sc (.int .i64 0)]], .sc (.int .i64 (dCk (DV.mk Wo x14_0 x15_0 x16_0 x17_0 (JA 1 (RS.mk Jp x12_0)) (opL (List.take (JS (Jb 1 (RS.mk Jp x12_0))).size (Jj (JS (Jb 1 (RS.mk Jp x12_0)))))) (JA 8 (Qc (Jb 1 (RS.mk Jp x12_0)))) (JA 8 (Jb 8 (Qc (Jb 1 (RS.mk Jp x12_0))))))))]) [] []) else k (Res.mk (.tup [.st 53 [.st 42 [.sc (.int .i64 Wo), .sc (.int .i64 x14_0)], .sc (.int .i64 x15_0), .sc (.int .i64 x16_0), .ar 37 x17_0, .sc (.int .i64 (JA 1 (RS.mk Jp x12_0))), .ro 113 (opL (List.take (JS (Jb 1 (RS.mk Jp x12_0))).size (Jj (JS (Jb 1 (RS.mk Jp x12_0)))))).isEmpty (opL (List.take (JS (Jb 1 (RS.mk Jp x12_0))).size (Jj (JS (Jb 1 (RS.mk Jp x12_0)))))).isEmpty (opL (List.take (JS (Jb 1 (RS.mk Jp x12_0))).size (Jj (JS (Jb 1 (RS.mk Jp x12_0)))))), .st 42 [.sc (.int .i64 (JA 8 (Qc (Jb 1 (RS.mk Jp x12_0))))), .sc (.int .i64 (JA 8 (Jb 8 (Qc (Jb 1 (RS.mk Jp x12_0))))))]], .sc (.int .i64 0)]) [] []) else none else bif opE (List.take (JS (Jb 1 (RS.mk Jp x12_0))).size (Jj (JS (Jb 1 (RS.mk Jp x12_0))))) != 0 then k (Res.mk (.tup [.st 53 [.st 42 [.sc (.int .i64 0), .sc (.int .i64 0)], .sc (.int .i64 0), .sc (.int .i64 0), .ar 37 Xq, .sc (.int .i64 0), .ro 113 true true [], .st 42 [.sc (.int .i64 0), .sc (.int .i64 0)]], .sc (.int .i64 (opE (List.take (JS (Jb 1 (RS.mk Jp x12_0))).size (Jj (JS (Jb 1 (RS.mk Jp x12_0)))))))]) [] []) else k (Res.mk (.tup [.st 53 [.st 42 [.sc (.int .i64 Wo), .sc (.int .i64 x14_0)], .sc (.int .i64 x15_0), .sc (.int .i64 x16_0), .ar 37 x17_0, .sc (.int .i64 (JA 1 (RS.mk Jp x12_0))), .ro 113 (opL (List.take (JS (Jb 1 (RS.mk Jp x12_0))).size (Jj (JS (Jb 1 (RS.mk Jp x12_0)))))).isEmpty (opL (List.take (JS (Jb 1 (RS.mk Jp x12_0))).size (Jj (JS (Jb 1 (RS.mk Jp x12_0)))))).isEmpty (opL (List.take (JS (Jb 1 (RS.mk Jp x12_0))).size (Jj (JS (Jb 1 (RS.mk Jp x12_0)))))), .st 42 [.sc (.int .i64 (JA 8 (Qc (Jb 1 (RS.mk Jp x12_0))))), .sc (.int .i64 (JA 8 (Jb 8 (Qc (Jb 1 (RS.mk Jp x12_0))))))]], .sc (.int .i64 0)]) [] []) else none else none else bif (Jb 8 (Jb 8 (Qc (Jb 1 (RS.mk Jp x12_0))))).e == 0 then bif cOk x19_0 then bif dCk (DV.mk Wo x14_0 x15_0 x16_0 x17_0 (JA 1 (RS.mk Jp x12_0)) x19_0 (JA 8 (Qc (Jb 1 (RS.mk Jp x12_0)))) (JA 8 (Jb 8 (Qc (Jb 1 (RS.mk Jp x12_0)))))) != 0 then k (Res.mk (.tup [.st 53 [.st 42 [.sc (.int .i64 0), .sc (.int .i64 0)], .sc (.int .i64 0), .sc (.int .i64 0), .ar 37 Xq, .sc (.int .i64 0), .ro 113 true true [], .st 42 [.sc (.int .i64 0), .sc (.int .i64 0)]], .sc (.int .i64 (dCk (DV.mk Wo x14_0 x15_0 x16_0 x17_0 (JA 1 (RS.mk Jp x12_0)) x19_0 (JA 8 (Qc (Jb 1 (RS.mk Jp x12_0)))) (JA 8 (Jb 8 (Qc (Jb 1 (RS.mk Jp x12_0))))))))]) [] []) else k (Res.mk (.tup [.st 53 [.st 42 [.sc (.int .i64 Wo), .sc (.int .i64 x14_0)], .sc (.int .i64 x15_0), .sc (.int .i64 x16_0), .ar 37 x17_0, .sc (.int .i64 (JA 1 (RS.mk Jp x12_0))), .ro 113 true true x19_0, .st 42 [.sc (.int .i64 (JA 8 (Qc (Jb 1 (RS.mk Jp x12_0))))), .sc (.int .i64 (JA 8 (Jb 8 (Qc (Jb 1 (RS.mk Jp x12_0))))))]], .sc (.int .i64 0)]) [] []) else none else bif (Jb 8 (Jb 8 (Qc (Jb 1 (RS.mk Jp x12_0))))).e != 0 then k (Res.mk (.tup [.st 53 [.st 42 [.sc (.int .i64 0), .sc (.int .i64 0)], .sc (.int .i64 0), .sc (.int .i64 0), .ar 37 Xq, .sc (.int .i64 0), .ro 113 true true [], .st 42 [.sc (.int .i64 0), .sc (.int .i64 0)]], .sc (.int .i64 (Jb 8 (Jb 8 (Qc (Jb 1 (RS.mk Jp x12_0))))).e)]) [] []) else k (Res.mk (.tup [.st 53 [.st 42 [.sc (.int .i64 Wo), .sc (.int .i64 x14_0)], .sc (.int .i64 x15_0), .sc (.int .i64 x16_0), .ar 37 x17_0, .sc (.int .i64 (JA 1 (RS.mk Jp x12_0))), .ro 113 true true x19_0, .st 42 [.sc (.int .i64 (JA 8 (Qc (Jb 1 (RS.mk Jp x12_0))))), .sc (.int .i64 (JA 8 (Jb 8 (Qc (Jb 1 (RS.mk Jp x12_0))))))]], .sc (.int .i64 0)]) [] []) else none else none else none else none) f (0) (0) (0) (0) (0) (Xq) (0) ([]) (0) (0) b_z b_z ((Jb 8 (Je2 b)).b) ((Jb 8 (Je2 b)).e) (JA 8 (RS.mk b 0)) (JA 8 (Jb 8 (RS.mk b 0))) (JA 8 (Jb 8 (Jb 8 (RS.mk b 0)))) (JA 8 (Je2 b)) (Xq) (0) ([]) (0) (0) else none else none else none else none else none
theorem e37 (f : Nat) (b_z b_f : Bool) (b : List PV) (k : KR) : JJ tau F37 Try.f37 (Try.f37.body.get!) (JwJ (Je1 f)) [.ro, .ro] 0 [.ro 5 b_z b_f b] [] k = g37 f b_z b_f b k := by kernel_rfl
theorem JNp (f : Nat) : Jf (Try.f37.body.get!) (JwJ (Je1 f)) = [.l Jo0 Je0 N37 (Je1 f)] := by kernel_rfl
theorem JNq (f : Nat) : ∀ q ∈ Jf (Try.f37.body.get!) (JwJ (Je1 f)), q.Ok tau Try.prog 0 := by rw [JNp f]; exact JL (JCO f) (fun _ h => nomatch h)
theorem JIy : Try.prog.funcs[37]? = some Try.f37 := by kernel_rfl
theorem JIz : Try.f37.body = some (Try.f37.body.get!) := by kernel_rfl
theorem JNr : Enters Try.prog 37 := enters_of JIy (by kernel_rfl) JIz
def F43 : Fns := Jt 44 JvL (F0)
theorem JCP : Jq tau Try.prog F43 := (Js).add JrT JAY
def JCQ : An := (.seq .leaf (.seq .leaf (.seq .leaf (.seq .leaf .leaf))))
def g43 (f : Nat) (y0 y1 : Bool) (r_B : List PV) (r_P y2 : Int) (k : KR) : OR := bif okT (RT.mk r_B r_P y2) then bif okT (Jh 8 (RT.mk r_B r_P y2)) then k (Res.mk (.st 42 [.sc (.int .i64 (Qj 8 (RT.mk r_B r_P y2))), .sc (.int .i64 (Qj 8 (Jh 8 (RT.mk r_B r_P y2))))]) [.box false 135 (PV.st 135 [.ro 5 y0 y1 (Jh 8 (Jh 8 (RT.mk r_B r_P y2))).B, .sc (.int .i64 (Jh 8 (Jh 8 (RT.mk r_B r_P y2))).P), .sc (.int .i64 (Jh 8 (Jh 8 (RT.mk r_B r_P y2))).e)])] []) else none else none
theorem e43 (f : Nat) (y0 y1 : Bool) (r_B : List PV) (r_P y2 : Int) (k : KR) : JJ tau F43 Try.f43 (Try.f43.body.get!) JCQ [.ro] 0 [.ptr 0 []] [.box false 135 (.st 135 [.ro 5 y0 y1 r_B, .sc (.int .i64 r_P), .sc (.int .i64 y2)])] k = g43 f y0 y1 r_B r_P y2 k := by kernel_rfl
theorem JNs (f : Nat) : ∀ q ∈ Jf (Try.f43.body.get!) JCQ, q.Ok tau Try.prog 1 := Jw (by kernel_rfl)
theorem JIA : Try.prog.funcs[43]? = some Try.f43 := by kernel_rfl
theorem JIB : Try.f43.body = some (Try.f43.body.get!) := by kernel_rfl
theorem JNt : Enters Try.prog 43 := enters_of JIA (by kernel_rfl) JIB
def Js0 : Jz
 | [.ptr 0 []], [.box false 135 (.st 135 [.ro 5 y0 y1 r_B, .sc (.int .i64 r_P), .sc (.int .i64 y2)])], k => g43 0 y0 y1 r_B r_P y2 k
 | _, _, _ => none
def s43 : Sig := { own := [], run := Js0 }
theorem JNu : Jc tau Try.prog 43 s43 := JN Jn JCP Jo JIA JIB JCQ [.ro] 1 [] Js0 (JNs 0) fun xs es k res hr => by
 unfold Js0 at hr
 split at hr
 · exact ⟨rfl, 0, (e43 0 _ _ _ _ _  _).trans hr⟩
 · cases hr
def F15 : Fns := Jt 50 JHv (Jt 49 JIw (Jt 48 s48 (Jt 47 JA4 (Jt 46 JvN (Jt 45 JGe (Jt 44 JvL (Jt 43 s43 (Jt 42 s42 (F0)))))))))
theorem JCR : Jq tau Try.prog F15 := (((((((((Js).add JIl JIk).add JNu JNt).add JrT JAY).add JGf JMh).add JrU JA1).add Jyv JFT).add JIp JIo).add JIx JNo).add JHw JLU
def JCS : An := (.seq .leaf (.seq .leaf (.seq .leaf (.seq .leaf (.seq .leaf (.seq .leaf (.seq .leaf (.seq .leaf (.seq .leaf (.seq .leaf (.seq (.seq .leaf (.cond .leaf .leaf)) (.seq (.seq .leaf (.cond .leaf .leaf)) (.seq (.seq .leaf (.cond (.seq .leaf .leaf) .leaf)) (.seq .leaf .leaf))))))))))))))
abbrev WE (b : List PV) := (Jh 8 (Jh 8 (Jh 8 (RT.mk b 0 0))))
abbrev J4 (b : List PV) := (Jh 1 (hashT (Jh 8 (WE b))))
abbrev Jcm := [PV.sc (.int .u8 0), PV.sc (.int .u8 0), PV.sc (.int .u8 0), PV.sc (.int .u8 0), PV.sc (.int .u8 0), PV.sc (.int .u8 0), PV.sc (.int .u8 0), PV.sc (.int .u8 0), PV.sc (.int .u8 0), PV.sc (.int .u8 0), PV.sc (.int .u8 0), PV.sc (.int .u8 0), PV.sc (.int .u8 0), PV.sc (.int .u8 0), PV.sc (.int .u8 0), PV.sc (.int .u8 0), PV.sc (.int .u8 0), PV.sc (.int .u8 0), PV.sc (.int .u8 0), PV.sc (.int .u8 0), PV.sc (.int .u8 0), PV.sc (.int .u8 0), PV.sc (.int .u8 0), PV.sc (.int .u8 0), PV.sc (.int .u8 0), PV.sc (.int .u8 0), PV.sc (.int .u8 0), PV.sc (.int .u8 0), PV.sc (.int .u8 0), PV.sc (.int .u8 0), PV.sc (.int .u8 0), PV.sc (.int .u8 0)]
abbrev Jbi (b : List PV) := (Qj 8 (Jh 8 (Jh 8 (RT.mk b 0 0))))
abbrev Jbj (b : List PV) := (pu IntKind.u8 (hashVT (Jh 8 (WE b))))
abbrev WF (b : List PV) := (List.take (XV (J4 b)).size (Jj (XV (J4 b))))
abbrev Je3 (b : List PV) := (Res.mk (PV.tup [PV.st 53 [PV.st 42 [PV.sc (.int .i64 (Qj 8 (RT.mk b 0 0))), PV.sc (.int .i64 (Qj 8 (Jh 8 (RT.mk b 0 0))))], PV.sc (.int .i64 (Jbi b)), PV.sc (.int .i64 (Qj 8 (WE b))), PV.ar 37 (Jbj b), PV.sc (.int .i64 (Qj 1 (hashT (Jh 8 (WE b))))), PV.ro 113 (opL (WF b)).isEmpty (opF (WF b)) (opL (WF b)), PV.st 42 [PV.sc (.int .i64 (Qj 8 (QU (J4 b)))), PV.sc (.int .i64 (Qj 8 (Jh 8 (QU (J4 b)))))]], PV.sc (.int .i64 0)]) [] [])
abbrev Je4 (b : List PV) := (Res.mk (PV.tup [PV.st 53 [PV.st 42 [PV.sc (.int .i64 (Qj 8 (RT.mk b 0 0))), PV.sc (.int .i64 (Qj 8 (Jh 8 (RT.mk b 0 0))))], PV.sc (.int .i64 (Jbi b)), PV.sc (.int .i64 (Qj 8 (WE b))), PV.ar 37 (Jbj b), PV.sc (.int .i64 (Qj 1 (hashT (Jh 8 (WE b))))), PV.ro 113 true true [], PV.st 42 [PV.sc (.int .i64 (Qj 8 (QU (J4 b)))), PV.sc (.int .i64 (Qj 8 (Jh 8 (QU (J4 b)))))]], PV.sc (.int .i64 0)]) [] [])
abbrev Jih (b : List PV) := (DV.mk (Qj 8 (RT.mk b 0 0)) (Qj 8 (Jh 8 (RT.mk b 0 0))) (Jbi b) (Qj 8 (WE b)) (Jbj b) (Qj 1 (hashT (Jh 8 (WE b)))) (opL (WF b)) (Qj 8 (QU (J4 b))) (Qj 8 (Jh 8 (QU (J4 b)))))
abbrev Jii (b : List PV) := (DV.mk (Qj 8 (RT.mk b 0 0)) (Qj 8 (Jh 8 (RT.mk b 0 0))) (Jbi b) (Qj 8 (WE b)) (Jbj b) (Qj 1 (hashT (Jh 8 (WE b)))) [] (Qj 8 (QU (J4 b))) (Qj 8 (Jh 8 (QU (J4 b)))))
abbrev JmQ (b : List PV) := (Res.mk (PV.tup [PV.st 53 [PV.st 42 [PV.sc (.int .i64 0), PV.sc (.int .i64 0)], PV.sc (.int .i64 0), PV.sc (.int .i64 0), PV.ar 37 Jcm, PV.sc (.int .i64 0), PV.ro 113 true true [], PV.st 42 [PV.sc (.int .i64 0), PV.sc (.int .i64 0)]], PV.sc (.int .i64 (Jh 8 (Jh 8 (QU (J4 b)))).e)]) [] [])
abbrev JmR (b : List PV) := (Res.mk (PV.tup [PV.st 53 [PV.st 42 [PV.sc (.int .i64 0), PV.sc (.int .i64 0)], PV.sc (.int .i64 0), PV.sc (.int .i64 0), PV.ar 37 Jcm, PV.sc (.int .i64 0), PV.ro 113 true true [], PV.st 42 [PV.sc (.int .i64 0), PV.sc (.int .i64 0)]], PV.sc (.int .i64 (dCk (Jih b)))]) [] [])
abbrev Jij (b : List PV) := (Res.mk (PV.tup [PV.st 53 [PV.st 42 [PV.sc (.int .i64 0), PV.sc (.int .i64 0)], PV.sc (.int .i64 0), PV.sc (.int .i64 0), PV.ar 37 Jcm, PV.sc (.int .i64 0), PV.ro 113 true true [], PV.st 42 [PV.sc (.int .i64 0), PV.sc (.int .i64 0)]], PV.sc (.int .i64 (opE (WF b)))]) [] [])
abbrev Jik (b : List PV) := (Res.mk (PV.tup [PV.st 53 [PV.st 42 [PV.sc (.int .i64 0), PV.sc (.int .i64 0)], PV.sc (.int .i64 0), PV.sc (.int .i64 0), PV.ar 37 Jcm, PV.sc (.int .i64 0), PV.ro 113 true true [], PV.st 42 [PV.sc (.int .i64 0), PV.sc (.int .i64 0)]], PV.sc (.int .i64 (dCk (Jii b)))]) [] [])
def g15 (f : Nat) (b_z b_f : Bool) (b : List PV) (k : KR) : OR := bif okT (RT.mk b 0 0) then bif okT (Jh 8 (RT.mk b 0 0)) then bif okT (Jh 8 (Jh 8 (RT.mk b 0 0))) then bif okT (WE b) then bif okT (Jh 8 (WE b)) then bif okT (hashT (Jh 8 (WE b))) then bif okT (J4 b) then bif okT (QU (J4 b)) then bif okT (Jh 8 (QU (J4 b))) then bif (Jh 8 (Jh 8 (QU (J4 b)))).e == 0 then bif decide ((Jh 8 (Jh 8 (QU (J4 b)))).P < zi (Jh 8 (Jh 8 (QU (J4 b)))).B.length) then k (Res.mk (.tup [.st 53 [.st 42 [.sc (.int .i64 0), .sc (.int .i64 0)], .sc (.int .i64 0), .sc (.int .i64 0), .ar 37 Jcm, .sc (.int .i64 0), .ro 113 true true [], .st 42 [.sc (.int .i64 0), .sc (.int .i64 0)]], .sc (.int .i64 9)]) [] []) else bif (Jh 8 (Jh 8 (QU (J4 b)))).e == 0 then bif Je (XV (J4 b)).size 1 && true then bif byB (WF b) && (List.take (XV (J4 b)).size (List.drop 0 (Jj (XV (J4 b))))).length.ble 1000000000 then bif opE (WF b) == 0 then bif cOk (opL (WF b)) then bif dCk (Jih b) != 0 then k (JmR b) else k (Je3 b) else none else bif opE (WF b) != 0 then k (Jij b) else k (Je3 b) else none else none else bif (Jh 8 (Jh 8 (QU (J4 b)))).e == 0 then bif cOk [] then bif dCk (Jii b) != 0 then k (Jik b) else k (Je4 b) else none else bif (Jh 8 (Jh 8 (QU (J4 b)))).e != 0 then k (JmQ b) else k (Je4 b) else bif (Jh 8 (Jh 8 (QU (J4 b)))).e == 0 then bif Je (XV (J4 b)).size 1 && true then bif byB (WF b) && (List.take (XV (J4 b)).size (List.drop 0 (Jj (XV (J4 b))))).length.ble 1000000000 then bif opE (WF b) == 0 then bif cOk (opL (WF b)) then bif dCk (Jih b) != 0 then k (JmR b) else k (Je3 b) else none else bif opE (WF b) != 0 then k (Jij b) else k (Je3 b) else none else none else bif (Jh 8 (Jh 8 (QU (J4 b)))).e == 0 then bif cOk [] then bif dCk (Jii b) != 0 then k (Jik b) else k (Je4 b) else none else bif (Jh 8 (Jh 8 (QU (J4 b)))).e != 0 then k (JmQ b) else k (Je4 b) else none else none else none else none else none else none else none else none else none
theorem e15 (f : Nat) (b_z b_f : Bool) (b : List PV) (k : KR) : JJ tau F15 Try.f15 (Try.f15.body.get!) JCS [.ro, .ro] 0 [.ro 5 b_z b_f b] [] k = g15 f b_z b_f b k := by kernel_rfl
theorem JNv (f : Nat) : ∀ q ∈ Jf (Try.f15.body.get!) JCS, q.Ok tau Try.prog 0 := Jw (by kernel_rfl)
theorem JIC : Try.prog.funcs[15]? = some Try.f15 := by kernel_rfl
theorem JID : Try.f15.body = some (Try.f15.body.get!) := by kernel_rfl
theorem JNw : Enters Try.prog 15 := enters_of JIC (by kernel_rfl) JID
def Js1 : Jz
 | [.ro 5 b_z b_f b], [], k => g15 0 b_z b_f b k
 | _, _, _ => none
def s15 : Sig := { own := [], run := Js1 }
theorem JNx : Jc tau Try.prog 15 s15 := JN Jn JCR Jo JIC JID JCS [.ro, .ro] 0 [] Js1 (JNv 0) fun xs es k res hr => by
 unfold Js1 at hr
 split at hr
 · exact ⟨rfl, 0, (e15 0 _ _ _  _).trans hr⟩
 · cases hr
-- FN delta.Parse | ref8.Parse
theorem Js2 (t : ByteArray) : byB (Jj t) = true := by
 unfold byB Jj
 refine List.all_eq_true.2 fun p hp => ?_
 obtain ⟨x, hx, rfl⟩ := List.mem_map.1 hp
 have := x.toNat_lt
 rw [Bool.and_eq_true, Bool.and_eq_true]
 refine ⟨rfl, decide_eq_true ?_, decide_eq_true ?_⟩
 · exact Int.natCast_nonneg _
 · exact Int.ofNat_lt.2 this
def d4 (b : List PV) : RS := Jb 8 (Jb 8 (Jb 8 (Jb 8 ⟨b, 0⟩)))
def d5 (b : List PV) : RS := hashS (d4 b)
def d7 (b : List PV) : RS := Qc (Jb 1 (d5 b))
def d9 (b : List PV) : RS := Jb 8 (Jb 8 (d7 b))
def dt (b : List PV) : List PV := Jj (JS (Jb 1 (d5 b)))
def dv (b : List PV) : DV := ⟨JA 8 ⟨b, 0⟩, JA 8 (Jb 8 ⟨b, 0⟩), JA 8 (Jb 8 (Jb 8 ⟨b, 0⟩)), JA 8 (Jb 8 (Jb 8 (Jb 8 ⟨b, 0⟩))), pu .u8 (hashV (d4 b)), JA 1 (d5 b), opL (dt b), JA 8 (d7 b), JA 8 (Jb 8 (d7 b))⟩
def dE0 (b : List PV) : Int := bif (d9 b).e == 0 then (bif decide ((d9 b).b.length > 0) then 9 else bif opE (dt b) == 0 then dCk (dv b) else opE (dt b)) else (d9 b).e
def dE : List PV -> Int := hid dE0
def dN (b : List PV) : Nat -> Int
 | 0 => (dv b).ad
 | 1 => (dv b).au
 | 2 => (dv b).id
 | 3 => (dv b).ve
 | 4 => (dv b).kd
 | 5 => (dv b).wd
 | _ => (dv b).wu
def dF : Nat -> List PV -> Int := hid fun i b => bif dE0 b == 0 then dN b i else 0
def dH : List PV -> List Int := hid fun b => bif dE0 b == 0 then hashV (d4 b) else List.replicate 32 0
def dO : List PV -> List PV := hid fun b => bif dE0 b == 0 then opL (dt b) else []
def dOF : List PV -> Bool := hid fun b => !(dE0 b == 0)
theorem Jo2 (b : List PV) : dE b = dE0 b := by rw [dE, hid_eq]
theorem Jo3 (i : Nat) (b : List PV) : dF i b = bif dE0 b == 0 then dN b i else 0 := by rw [dF, hid_eq]
theorem Jo4 (b : List PV) : dH b = bif dE0 b == 0 then hashV (d4 b) else List.replicate 32 0 := by rw [dH, hid_eq]
theorem Jo5 (b : List PV) : dO b = bif dE0 b == 0 then opL (dt b) else [] := by rw [dO, hid_eq]
theorem Js3 (b : List PV) : dOF b = !(dE0 b == 0) := by rw [dOF, hid_eq]
def Jo6 (e : Int) : PV := .tup [.st 53 [.st 42 [.sc (.int .i64 0), .sc (.int .i64 0)], .sc (.int .i64 0), .sc (.int .i64 0), .ar 37 (pu .u8 (List.replicate 32 0)), .sc (.int .i64 0), .ro 113 true true [], .st 42 [.sc (.int .i64 0), .sc (.int .i64 0)]], .sc (.int .i64 e)]
def dP (b : List PV) : PV := .tup [.st 53 [.st 42 [.sc (.int .i64 (dF 0 b)), .sc (.int .i64 (dF 1 b))], .sc (.int .i64 (dF 2 b)), .sc (.int .i64 (dF 3 b)), .ar 37 (pu .u8 (dH b)), .sc (.int .i64 (dF 4 b)), .ro 113 (dO b).isEmpty (dO b).isEmpty (dO b), .st 42 [.sc (.int .i64 (dF 5 b)), .sc (.int .i64 (dF 6 b))]], .sc (.int .i64 (dE b))]
def dQ (b : List PV) : PV := .tup [.st 53 [.st 42 [.sc (.int .i64 (dF 0 b)), .sc (.int .i64 (dF 1 b))], .sc (.int .i64 (dF 2 b)), .sc (.int .i64 (dF 3 b)), .ar 37 (pu .u8 (dH b)), .sc (.int .i64 (dF 4 b)), .ro 113 (dO b).isEmpty (dOF b) (dO b), .st 42 [.sc (.int .i64 (dF 5 b)), .sc (.int .i64 (dF 6 b))]], .sc (.int .i64 (dE b))]
theorem Jil {b : List PV} {e : Int} (h : dE0 b = e) (h0 : (e == 0) = false) : dP b = Jo6 e := by
 simp only [dP, Jo6, Jo3, Jo4, Jo5, Jo2, h, h0, cond_false, List.isEmpty_nil]
theorem Jim {b : List PV} {e : Int} (h : dE0 b = e) (h0 : (e == 0) = false) : dQ b = Jo6 e := by
 simp only [dQ, Jo6, Jo3, Jo4, Jo5, Jo2, Js3, h, h0, cond_false, List.isEmpty_nil, Bool.not_false]
theorem JIE {b : List PV} (h : dE0 b = 0) : dP b = .tup [.st 53 [.st 42 [.sc (.int .i64 (JA 8 ⟨b, 0⟩)), .sc (.int .i64 (JA 8 (Jb 8 ⟨b, 0⟩)))], .sc (.int .i64 (JA 8 (Jb 8 (Jb 8 ⟨b, 0⟩)))), .sc (.int .i64 (JA 8 (Jb 8 (Jb 8 (Jb 8 ⟨b, 0⟩))))), .ar 37 (pu .u8 (hashV (d4 b))), .sc (.int .i64 (JA 1 (d5 b))), .ro 113 (opL (dt b)).isEmpty (opL (dt b)).isEmpty (opL (dt b)), .st 42 [.sc (.int .i64 (JA 8 (d7 b))), .sc (.int .i64 (JA 8 (Jb 8 (d7 b))))]], .sc (.int .i64 0)] := by
 simp only [dP, Jo3, Jo4, Jo5, Jo2, h, beq_self_eq_true, cond_true, dN, dv]
theorem JIF {b : List PV} (h : dE0 b = 0) : dQ b = .tup [.st 53 [.st 42 [.sc (.int .i64 (JA 8 ⟨b, 0⟩)), .sc (.int .i64 (JA 8 (Jb 8 ⟨b, 0⟩)))], .sc (.int .i64 (JA 8 (Jb 8 (Jb 8 ⟨b, 0⟩)))), .sc (.int .i64 (JA 8 (Jb 8 (Jb 8 (Jb 8 ⟨b, 0⟩))))), .ar 37 (pu .u8 (hashV (d4 b))), .sc (.int .i64 (JA 1 (d5 b))), .ro 113 (opL (dt b)).isEmpty false (opL (dt b)), .st 42 [.sc (.int .i64 (JA 8 (d7 b))), .sc (.int .i64 (JA 8 (Jb 8 (d7 b))))]], .sc (.int .i64 0)] := by
 simp only [dQ, Jo3, Jo4, Jo5, Jo2, Js3, h, beq_self_eq_true, cond_true, Bool.not_true, dN, dv]
theorem Jo7 {b : List PV} (h : byB b = true) : cOk (opL b) = true := by
 rw [JeZ]
 cases Zl b == 0 with
 | true => exact Jig (JmL h) _
 | false => exact Yf.2 ⟨rfl, Nat.zero_le _⟩
theorem Jzm (f : Nat) (k0 : Int -> Int -> Int -> Int -> List PV -> Int -> List PV -> Int -> Int -> Bool -> Bool -> List PV -> Int -> Int -> Int -> Int -> Int -> List PV -> Int -> List PV -> Int -> Int -> OR) (z fl : Bool) (hz : (!z || fl) = true) (x1 x2 x3 x4 : Int) (x5 : List PV) (x6 : Int) (x7 : List PV) (x8 x9 y14 y15 y16 y17 y19 : Int) (y20 : List PV) (y21 y22 : Int) : ∀ (d i n : Nat) (s : RS) (L : List Int), i + d = 32 -> d < n -> byB s.b = true -> L.length = 32 ->
  GJ f k0 n (i : Int) x1 x2 x3 x4 x5 x6 x7 x8 x9 z fl s.b s.e y14 y15 y16 y17 (pu .u8 L) y19 y20 y21 y22 = k0 x1 x2 x3 x4 x5 x6 x7 x8 x9 z fl (Jes d s).b (Jes d s).e y14 y15 y16 y17 (pu .u8 (L.take i ++ JaO d s)) y19 y20 y21 y22
 | 0, i, n + 1, s, L, h, hn, hb, hL => by
   obtain rfl : i = 32 := by omega
   simp only [GJ, Jbg, Jes, JaO, List.append_nil]
   rw [List.take_of_length_le (by omega)]
   exact Jd (by decide)
 | d + 1, i, n + 1, s, L, h, hn, hb, hL => by
   have g1 : ((i : Int)).toNat = i := by omega
   have w1 : IntKind.i64.wrap ((i : Int) + 1) = ((i + 1 : Nat) : Int) := by rw [wrap_i64 (by omega) (by omega)]; omega
   have hm : RS.mk s.b s.e = s := rfl
   simp only [GJ, Jbg, g1, w1, hm, Xp]
   refine (Ja (by simp; omega)).trans ((Ja (by rw [hb, hz]; rfl)).trans ((Ja (by simp [zi]; omega)).trans ?_))
   have := Jzm f k0 z fl hz x1 x2 x3 x4 x5 x6 x7 x8 x9 y14 y15 y16 y17 y19 y20 y21 y22 d (i + 1) n (Qh 1 s) (L.set i (IntKind.u8.wrap (JA 1 s))) (by omega) (by omega) (YP hb 1) (by simpa using hL)
   rw [XT]
   refine Eq.trans this ?_
   have hset : (L.set i (IntKind.u8.wrap (JA 1 s))).take (i + 1) = L.take i ++ [IntKind.u8.wrap (JA 1 s)] := by
    rw [List.take_add_one, List.take_set_of_le (Nat.le_refl i), List.getElem?_set_self (by omega)]; rfl
   rw [hset, Zb]
   simp only [Jes, JaO, List.append_assoc, List.cons_append, List.nil_append]
theorem JCT (z f : Bool) (b : List PV) (hz : slB z b = true) (hb : byB b = true) (k : KR) :
  g37 40 z f b k = k ⟨dP b, [], []⟩ := by
 have hE : dE0 b = dE0 b := rfl
 conv at hE => rhs; unfold dE0
 have hzz : (!z || z) = true := by cases z <;> rfl
 have c1 := Qi (s := ⟨b, 0⟩) hb 8
 have c2 := Qi c1 8
 have c3 := Qi c2 8
 have c4 : byB (d4 b).b = true := Qi c3 8
 have c5 : byB (d5 b).b = true := by unfold d5; rw [hashS_eq]; exact JhJ 32 c4
 have c6 := Qi c5 1
 have c7 : byB (d7 b).b = true := JoB c6
 have c8 := Qi c7 8
 unfold g37 Je2 Xq
 refine (Ja hz).trans ((Ja (by rw [hb, hzz]; rfl)).trans ((Ja (by rw [c1, hzz]; rfl)).trans ((Ja (by rw [c2, hzz]; rfl)).trans ((Ja (by rw [c3, hzz]; rfl)).trans ?_))))
 refine (Jzm 40 _ z z hzz _ _ _ _ _ _ _ _ _ _ _ _ _ _ _ _ _ 32 0 40 (d4 b) (List.replicate 32 0) (by omega) (by omega) c4 (by simp)).trans ?_
 have hr : Jes 32 (d4 b) = d5 b := by unfold d5; rw [hashS_eq]
 have hv : JaO 32 (d4 b) = hashV (d4 b) := by rw [hashV_eq]
 have hm : RS.mk (d5 b).b (d5 b).e = d5 b := rfl
 have h7 : Qc (Jb 1 (d5 b)) = d7 b := rfl
 have h9 : Jb 8 (Jb 8 (d7 b)) = d9 b := rfl
 have hsz := Jgp c6
 have htk : List.take (JS (Jb 1 (d5 b))).size (dt b) = dt b := List.take_of_length_le (by unfold dt; rw [Yk]; exact Nat.le_refl _)
 have hto : Jj (JS (Jb 1 (d5 b))) = dt b := rfl
 have hbt : byB (dt b) = true := Js2 _
 have hlt : (dt b).length <= 65535 := by unfold dt; rw [Yk]; exact hsz
 have hsl : slB (Ent.vec false 5 false (dt b)).nil (dt b) = true := Xw.2 ⟨fun h => by simp [Ent.nil] at h, by omega⟩
 have hz9 : decide (zi (d9 b).b.length > 0) = decide ((d9 b).b.length > 0) := by apply decide_eq_decide.2; simp only [zi]; omega
 have hdv : DV.mk (JA 8 ⟨b, 0⟩) (JA 8 (Jb 8 ⟨b, 0⟩)) (JA 8 (Jb 8 (Jb 8 ⟨b, 0⟩))) (JA 8 (Jb 8 (Jb 8 (Jb 8 ⟨b, 0⟩)))) (pu .u8 (hashV (d4 b))) (JA 1 (d5 b)) (opL (dt b)) (JA 8 (d7 b)) (JA 8 (Jb 8 (d7 b))) = dv b := rfl
 simp only [hr, hv, hm, h7, h9, List.take_zero, List.nil_append, List.drop_zero, htk, hto, hz9, hdv, hsl, hbt, hzz, c5, c6, c7, c8, Jo7 hbt, Bool.true_and, Bool.and_true, cond_true]
 cases he : ((d9 b).e == 0) with
 | false =>
  rw [he, cond_false] at hE
  rw [Jil hE he]
  simp only [cond_false]
  exact Ja (by rw [bne, he]; rfl)
 | true =>
  rw [he, cond_true] at hE
  cases h9 : decide ((d9 b).b.length > 0) with
  | true =>
   rw [h9, cond_true] at hE
   rw [Jil hE (by decide)]
   rfl
  | false =>
   rw [h9, cond_false] at hE
   simp only [cond_true, cond_false]
   refine (Ja (by simp [Je]; omega)).trans ?_
   cases ho : (opE (dt b) == 0) with
   | false =>
    rw [ho, cond_false] at hE
    try simp only [cond_false]
    rw [Jil hE ho]
    exact Ja (by rw [bne, ho]; rfl)
   | true =>
    rw [ho, cond_true] at hE
    try simp only [cond_true]
    cases hd : (dCk (dv b) == 0) with
    | false =>
     rw [Jil hE hd]
     exact Ja (by rw [bne, hd]; rfl)
    | true =>
     have hd' : dCk (dv b) = 0 := by simpa using hd
     rw [hd'] at hE
     rw [JIE hE]
     exact Jd (by rw [bne, hd]; rfl)
def JmS : Jz
 | [.ro 5 z f b], [], k => bif slB z b && byB b then k ⟨dP b, [], []⟩ else none
 | _, _, _ => none
def JIG : Sig := { own := [], run := JmS }
theorem JIH : Jc tau Try.prog 37 JIG := Jc.mk' fun xs es k res hl hr => by
 change JmS xs es k = some res at hr
 unfold JmS at hr
 split at hr
 · rename_i z f b
   obtain ⟨hc, hr⟩ := Jv hr
   rw [Bool.and_eq_true] at hc
   have hg := (JCT z f b hc.1 hc.2 k).trans hr
   exact J2 Jn JsY Jo JIy JIz (JwJ (Je1 40)) [.ro, .ro] 0 0 (JNq 40) hl rfl ((e37 40 z f b k).trans hg)
 · cases hr
theorem JCU (z f : Bool) (b : List PV) (hb : byB b = true) (hlen : b.length <= 1000000000) (k : KR) :
  g15 0 z f b k = k ⟨dQ b, [], []⟩ := by
 have hE : dE0 b = dE0 b := rfl
 conv at hE => rhs; unfold dE0
 have c0 : okT (RT.mk b 0 0) = true := by simp [okT, hb]; omega
 have hv0 : (RT.mk b 0 0).view = RS.mk b 0 := rfl
 have c1 := QA c0 8
 have c2 := QA c1 8
 have c3 := QA c2 8
 have c4 := QA c3 8
 have c5 := Jsa c4
 have c6 := QA c5 1
 have c7 := JjL c6
 have c8 := QA c7 8
 have c9 := QA c8 8
 have b1 := Qi (s := ⟨b, 0⟩) hb 8
 have b4 : byB (d4 b).b = true := Qi (Qi (Qi b1 8) 8) 8
 have b5 : byB (d5 b).b = true := by unfold d5; rw [hashS_eq]; exact JhJ 32 b4
 have b6 := Qi b5 1
 have v4 : (Jh 8 (Jh 8 (Jh 8 (Jh 8 (RT.mk b 0 0))))).view = d4 b := by simp only [Qk, hv0, d4]
 have v5 : (hashT (Jh 8 (Jh 8 (Jh 8 (Jh 8 (RT.mk b 0 0)))))).view = d5 b := by rw [hashT_view, v4, d5]
 have v7 : (QU (Jh 1 (hashT (Jh 8 (Jh 8 (Jh 8 (Jh 8 (RT.mk b 0 0)))))))).view = d7 b := by rw [Jgk, Qk, v5, d7]
 have v9 : (Jh 8 (Jh 8 (QU (Jh 1 (hashT (Jh 8 (Jh 8 (Jh 8 (Jh 8 (RT.mk b 0 0)))))))))).view = d9 b := by rw [Qk, Qk, v7, d9]
 have n0 : Qj 8 (RT.mk b 0 0) = JA 8 ⟨b, 0⟩ := by rw [WC, hv0]
 have n1 : Qj 8 (Jh 8 (RT.mk b 0 0)) = JA 8 (Jb 8 ⟨b, 0⟩) := by simp only [WC, Qk, hv0]
 have n2 : Qj 8 (Jh 8 (Jh 8 (RT.mk b 0 0))) = JA 8 (Jb 8 (Jb 8 ⟨b, 0⟩)) := by simp only [WC, Qk, hv0]
 have n3 : Qj 8 (Jh 8 (Jh 8 (Jh 8 (RT.mk b 0 0)))) = JA 8 (Jb 8 (Jb 8 (Jb 8 ⟨b, 0⟩))) := by simp only [WC, Qk, hv0]
 have n4 : hashVT (Jh 8 (Jh 8 (Jh 8 (Jh 8 (RT.mk b 0 0))))) = hashV (d4 b) := by rw [hashVT_val, v4]
 have n5 : Qj 1 (hashT (Jh 8 (Jh 8 (Jh 8 (Jh 8 (RT.mk b 0 0)))))) = JA 1 (d5 b) := by rw [WC, v5]
 have n6 : XV (Jh 1 (hashT (Jh 8 (Jh 8 (Jh 8 (Jh 8 (RT.mk b 0 0))))))) = JS (Jb 1 (d5 b)) := by rw [Jgl, Qk, v5]
 have n7 : Qj 8 (QU (Jh 1 (hashT (Jh 8 (Jh 8 (Jh 8 (Jh 8 (RT.mk b 0 0)))))))) = JA 8 (d7 b) := by rw [WC, v7]
 have n8 : Qj 8 (Jh 8 (QU (Jh 1 (hashT (Jh 8 (Jh 8 (Jh 8 (Jh 8 (RT.mk b 0 0))))))))) = JA 8 (Jb 8 (d7 b)) := by rw [WC, Qk, v7]
 unfold g15 Jik Jij JmR JmQ Jii Jih Je4 Je3 WF Jbj Jbi Jcm J4 WE
 refine (Ja c0).trans ((Ja c1).trans ((Ja c2).trans ((Ja c3).trans ((Ja c4).trans ((Ja c5).trans ((Ja c6).trans ((Ja c7).trans ((Ja c8).trans ?_))))))))
 simp only [n0, n1, n2, n3, n4, n5, n6, n7, n8]
 generalize Jh 8 (Jh 8 (QU (Jh 1 (hashT (Jh 8 (Jh 8 (Jh 8 (Jh 8 (RT.mk b 0 0))))))))) = t at *
 have hte : t.e = (d9 b).e := by rw [← v9]; rfl
 have htP : decide (t.P < zi t.B.length) = decide ((d9 b).b.length > 0) := by
  rw [← v9]
  show decide _ = decide ((List.drop _ _).length > 0)
  rw [List.length_drop]
  simp only [okT, Bool.and_eq_true, decide_eq_true_eq] at c9
  apply decide_eq_decide.2
  simp only [zi]; omega
 have hsz := Jgp b6
 have htk : List.take (JS (Jb 1 (d5 b))).size (dt b) = dt b := List.take_of_length_le (by unfold dt; rw [Yk]; exact Nat.le_refl _)
 have hto : Jj (JS (Jb 1 (d5 b))) = dt b := rfl
 have hbt : byB (dt b) = true := Js2 _
 have hlt : (dt b).length <= 65535 := by unfold dt; rw [Yk]; exact hsz
 have hble : (dt b).length.ble 1000000000 = true := by rw [Nat.ble_eq]; omega
 have hdv : DV.mk (JA 8 ⟨b, 0⟩) (JA 8 (Jb 8 ⟨b, 0⟩)) (JA 8 (Jb 8 (Jb 8 ⟨b, 0⟩))) (JA 8 (Jb 8 (Jb 8 (Jb 8 ⟨b, 0⟩)))) (pu .u8 (hashV (d4 b))) (JA 1 (d5 b)) (opL (dt b)) (JA 8 (d7 b)) (JA 8 (Jb 8 (d7 b))) = dv b := rfl
 simp only [hte, htP, List.drop_zero, htk, hto, hdv, hbt, hble, Jo7 hbt, Bool.true_and, Bool.and_true, cond_true]
 cases he : ((d9 b).e == 0) with
 | false =>
  rw [he, cond_false] at hE
  rw [Jim hE he]
  simp only [cond_false]
  exact Ja (by rw [bne, he]; rfl)
 | true =>
  rw [he, cond_true] at hE
  cases h9 : decide ((d9 b).b.length > 0) with
  | true =>
   rw [h9, cond_true] at hE
   rw [Jim hE (by decide)]
   rfl
  | false =>
   rw [h9, cond_false] at hE
   simp only [cond_true, cond_false]
   refine (Ja (by simp [Je]; omega)).trans ?_
   cases ho : (opE (dt b) == 0) with
   | false =>
    rw [ho, cond_false] at hE
    try simp only [cond_false]
    rw [Jim hE ho]
    exact Ja (by rw [bne, ho]; rfl)
   | true =>
    have hoF : opF (dt b) = false := by rw [JmK, ← JeY, ho]; rfl
    rw [ho, cond_true] at hE
    try simp only [cond_true]
    cases hd : (dCk (dv b) == 0) with
    | false =>
     rw [Jim hE hd]
     exact Ja (by rw [bne, hd]; rfl)
    | true =>
     have hd' : dCk (dv b) = 0 := by simpa using hd
     rw [hd'] at hE
     rw [JIF hE, hoF]
     exact Jd (by rw [bne, hd]; rfl)
def JmT : Jz
 | [.ro 5 z f b], [], k => bif byB b && Nat.ble b.length 1000000000 then k ⟨dQ b, [], []⟩ else none
 | _, _, _ => none
def JII : Sig := { own := [], run := JmT }
theorem JIJ : Jc tau Try.prog 15 JII := JNx.of fun xs es k res hr => by
 change JmT xs es k = some res at hr
 unfold JmT at hr
 split at hr
 · rename_i z f b
   obtain ⟨hc, hr⟩ := Jv hr
   rw [Bool.and_eq_true, Nat.ble_eq] at hc
   exact (JCU z f b hc.1 hc.2 k).trans hr
 · cases hr
def F95 : Fns := F0
theorem JCV : Jq tau Try.prog F95 := Js
def JCW : An := (.seq .leaf (.seq .leaf .leaf))
def g95 (f : Nat) (k : KR) : OR := k (Res.mk (.ar 159 [.sc (.int .u32 1116352408), .sc (.int .u32 1899447441), .sc (.int .u32 3049323471), .sc (.int .u32 3921009573), .sc (.int .u32 961987163), .sc (.int .u32 1508970993), .sc (.int .u32 2453635748), .sc (.int .u32 2870763221), .sc (.int .u32 3624381080), .sc (.int .u32 310598401), .sc (.int .u32 607225278), .sc (.int .u32 1426881987), .sc (.int .u32 1925078388), .sc (.int .u32 2162078206), .sc (.int .u32 2614888103), .sc (.int .u32 3248222580), .sc (.int .u32 3835390401), .sc (.int .u32 4022224774), .sc (.int .u32 264347078), .sc (.int .u32 604807628), .sc (.int .u32 770255983), .sc (.int .u32 1249150122), .sc (.int .u32 1555081692), .sc (.int .u32 1996064986), .sc (.int .u32 2554220882), .sc (.int .u32 2821834349), .sc (.int .u32 2952996808), .sc (.int .u32 3210313671), .sc (.int .u32 3336571891), .sc (.int .u32 3584528711), .sc (.int .u32 113926993), .sc (.int .u32 338241895), .sc (.int .u32 666307205), .sc (.int .u32 773529912), .sc (.int .u32 1294757372), .sc (.int .u32 1396182291), .sc (.int .u32 1695183700), .sc (.int .u32 1986661051), .sc (.int .u32 2177026350), .sc (.int .u32 2456956037), .sc (.int .u32 2730485921), .sc (.int .u32 2820302411), .sc (.int .u32 3259730800), .sc (.int .u32 3345764771), .sc (.int .u32 3516065817), .sc (.int .u32 3600352804), .sc (.int .u32 4094571909), .sc (.int .u32 275423344), .sc (.int .u32 430227734), .sc (.int .u32 506948616), .sc (.int .u32 659060556), .sc (.int .u32 883997877), .sc (.int .u32 958139571), .sc (.int .u32 1322822218), .sc (.int .u32 1537002063), .sc (.int .u32 1747873779), .sc (.int .u32 1955562222), .sc (.int .u32 2024104815), .sc (.int .u32 2227730452), .sc (.int .u32 2361852424), .sc (.int .u32 2428436474), .sc (.int .u32 2756734187), .sc (.int .u32 3204031479), .sc (.int .u32 3329325298)]) [] [])
theorem e95 (f : Nat) (k : KR) : JJ tau F95 Try.f95 (Try.f95.body.get!) JCW [.ro] 0 [] [] k = g95 f k := by kernel_rfl
theorem JNy (f : Nat) : ∀ q ∈ Jf (Try.f95.body.get!) JCW, q.Ok tau Try.prog 0 := Jw (by kernel_rfl)
theorem JIK : Try.prog.funcs[95]? = some Try.f95 := by kernel_rfl
theorem JIL : Try.f95.body = some (Try.f95.body.get!) := by kernel_rfl
theorem JNz : Enters Try.prog 95 := enters_of JIK (by kernel_rfl) JIL
def Js4 : Jz
 | [], [], k => g95 0  k
 | _, _, _ => none
def s95 : Sig := { own := [], run := Js4 }
theorem JNA : Jc tau Try.prog 95 s95 := JN Jn JCV Jo JIK JIL JCW [.ro] 0 [] Js4 (JNy 0) fun xs es k res hr => by
 unfold Js4 at hr
 split at hr
 · exact ⟨rfl, 0, (e95 0  _).trans hr⟩
 · cases hr
def N51 : Nat := 278
def F51 : Fns := Jt 95 s95 (Jt 96 JF7 F0)
theorem Zm : Jq tau Try.prog F51 := (Js.add JF8 JMm).add JNA JNz
def Jo8 : Code := Qd (Try.f51.body.get!) [1, 1, 1, 1, 1, 0, 0, 0]
def Je5 : Nm := [(0, .any), (2, .any), (3, .any), (4, .any), (5, .any)]
def JmU : Nm := [(0, .any), (2, .any), (3, .any), (4, .any), (5, .any)]
def Js5 : An := (.seq (.seq .leaf (.cond .leaf .leaf)) (.block none .leaf))
def Jgz : Code := Qd (Try.f51.body.get!) [1, 1, 1, 1, 1, 1, 1, 0, 1, 0, 0]
def Zn : Nm := [(2, .any), (3, .any), (4, .any), (5, .any), (6, .any), (7, .any)]
def Vl : Nm := [(2, .any), (3, .any), (4, .any), (5, .any)]
def Jj2 : An := (.seq (.seq .leaf (.cond .leaf .leaf)) (.seq (.block none .leaf) .leaf))
def JgA : Code := Qd (Try.f51.body.get!) [1, 1, 1, 1, 1, 1, 1, 1, 1, 0, 1, 0, 0, 1, 0, 0, 0, 1, 0, 0]
def Zo : Nm := [(2, .any), (3, .any), (4, .any), (5, .any), (8, .any), (9, .any), (10, .any)]
def Vm : Nm := [(2, .any), (3, .any), (4, .any), (5, .any), (8, .any), (9, .any)]
def Jj3 : An := (.seq (.seq .leaf (.cond .leaf .leaf)) (.seq (.block none (.seq .leaf .leaf)) .leaf))
def JgB : Code := Qd (Try.f51.body.get!) [1, 1, 1, 1, 1, 1, 1, 1, 1, 0, 1, 0, 0, 1, 0, 0, 1, 0, 1, 0, 0]
def Zp : Nm := [(2, .any), (3, .any), (4, .any), (5, .any), (8, .any), (9, .any), (12, .any)]
def Vn : Nm := [(2, .any), (3, .any), (4, .any), (5, .any), (8, .any), (9, .any)]
def Jj4 : An := (.seq (.seq .leaf (.cond .leaf .leaf)) (.seq (.block none (.seq .leaf .leaf)) .leaf))
def JgC : Code := Qd (Try.f51.body.get!) [1, 1, 1, 1, 1, 1, 1, 1, 1, 0, 1, 0, 0, 1, 0, 0, 1, 1, 1, 0, 1, 0, 0]
def Zq : Nm := [(2, .any), (3, .any), (4, .any), (5, .any), (8, .any), (9, .any), (15, .any), (16, .any)]
def Vo : Nm := [(2, .any), (3, .any), (4, .any), (5, .any), (8, .any), (9, .any), (15, .any)]
def Jj5 : An := (.seq (.seq .leaf (.cond .leaf .leaf)) (.seq (.block none (.seq .leaf (.seq .leaf (.seq .leaf .leaf)))) .leaf))
def JgD : Code := Qd (Try.f51.body.get!) [1, 1, 1, 1, 1, 1, 1, 1, 1, 0, 1, 0, 0, 1, 0, 0, 1, 1, 1, 1, 1, 0, 0]
def Zr : Nm := [(2, .any), (3, .any), (4, .any), (5, .any), (8, .any), (9, .any), (15, .any), (20, .any)]
def Vp : Nm := [(2, .any), (3, .any), (4, .any), (5, .any), (8, .any), (9, .any)]
def Jj6 : An := (.seq (.seq .leaf (.cond .leaf .leaf)) (.seq (.block none .leaf) .leaf))
def JgE : Code := Qd (Try.f51.body.get!) [1, 1, 1, 1, 1, 1, 1, 1, 1, 0, 1, 0, 0]
def Zs : Nm := [(2, .any), (3, .any), (4, .any), (5, .any), (8, .any), (9, .any)]
def Vq : Nm := [(2, .any), (4, .any)]
def Jj7 (r3 : Qr) (r4 : Qr) (r5 : Qr) (r6 : Qr) : An := (.seq (.seq .leaf (.cond .leaf .leaf)) (.seq (.block none (.seq (.seq .leaf (.block none (.sum Zo N51 r3))) (.seq (.seq .leaf (.block none (.sum Zp N51 r4))) (.seq .leaf (.seq (.seq .leaf (.block none (.sum Zq N51 r5))) (.seq .leaf (.block none (.sum Zr N51 r6)))))))) .leaf))
def Jo9 : Code := Qd (Try.f51.body.get!) [1, 1, 1, 1, 1, 1, 1, 1, 1, 1, 1, 0, 1, 0, 0]
def Je6 : Nm := [(2, .any), (4, .any), (21, .any), (22, .any)]
def JmV : Nm := [(2, .any), (21, .any)]
def Js6 : An := (.seq (.seq .leaf (.cond .leaf .leaf)) (.seq (.block none .leaf) .leaf))
def JwL (r0 : Qr) (r1 : Qr) (r2 : Qr) (r7 : Qr) : An := (.seq .leaf (.seq .leaf (.seq .leaf (.seq .leaf (.seq .leaf (.seq (.block none (.sum Je5 N51 r0)) (.seq .leaf (.seq (.seq .leaf (.block none (.sum Zn N51 r1))) (.seq .leaf (.seq (.seq .leaf (.block none (.sum Zs N51 r2))) (.seq .leaf (.seq (.seq .leaf (.block none (.sum Je6 N51 r7))) (.seq .leaf .leaf)))))))))))))
def Jbk (f : Nat) (rc : Bool -> Bool -> List PV -> Nat -> List PV -> List PV -> List PV -> List PV -> OR) (k0 : Bool -> Bool -> List PV -> Nat -> List PV -> List PV -> List PV -> List PV -> OR) (v0 v1 : Bool) (v2 : List PV) (v3 : Nat) (v4 v5 v6 v7 : List PV) : OR := bif (zi v3).tmod 64 != 56 then bif Je (v3 + 1) 1 && true then rc v0 v1 v2 (v3 + 1) v4 v5 v6 (List.take v3 v7 ++ [.sc (.int .u8 0)]) else none else k0 v0 v1 v2 v3 v4 v5 v6 v7
def GK (f : Nat) (k0 : Bool -> Bool -> List PV -> Nat -> List PV -> List PV -> List PV -> List PV -> OR) : Nat -> Bool -> Bool -> List PV -> Nat -> List PV -> List PV -> List PV -> List PV -> OR
 | 0, _, _, _, _, _, _, _, _ => none
 | n + 1, v0, v1, v2, v3, v4, v5, v6, v7 => Jbk f (GK f k0 n) k0 v0 v1 v2 v3 v4 v5 v6 v7
def Jbl (k : Kont) := fun x0 x1 x2 x3 x4 x5 x6 x7 => k (Ex.exit 0) (Ji JmU N51 [.ro 5 x0 x1 x2, .ptr 4464 [], .ptr 4465 [], .ptr 4466 [], .ow 5 4467 [] 0 x3 none] [(4464, .box false 37 (PV.ar 37 x4)), (4465, .box false 159 (PV.ar 159 x5)), (4466, .box false 142 (PV.ar 142 x6)), (4467, .vec false 5 false x7)])
def JmW (f : Nat) (k : Kont) (n : Nat) (v0 v1 : Bool) (v2 : List PV) (v3 : Nat) (v4 v5 v6 v7 : List PV) : OR := Jy tau 0 Je5 (fun s k => ev tau F51 0 0 Jo8 (Js5 ) s k) n (Ji Je5 N51 [.ro 5 v0 v1 v2, .ptr 4464 [], .ptr 4465 [], .ptr 4466 [], .ow 5 4467 [] 0 v3 none] [(4464, .box false 37 (PV.ar 37 v4)), (4465, .box false 159 (PV.ar 159 v5)), (4466, .box false 142 (PV.ar 142 v6)), (4467, .vec false 5 false v7)]) (JG tau 0 JmU k)
theorem JwM (f : Nat) (k : Kont) (n : Nat) (v0 v1 : Bool) (v2 : List PV) (v3 : Nat) (v4 v5 v6 v7 : List PV) : JmW f k (n + 1) v0 v1 v2 v3 v4 v5 v6 v7 = Jbk f (JmW f k n) (Jbl k) v0 v1 v2 v3 v4 v5 v6 v7 := by kernel_rfl
theorem Jpa (f : Nat) (k : Kont) : ∀ (n : Nat) (v0 v1 : Bool) (v2 : List PV) (v3 : Nat) (v4 v5 v6 v7 : List PV), JmW f k n v0 v1 v2 v3 v4 v5 v6 v7 = GK f (Jbl k) n v0 v1 v2 v3 v4 v5 v6 v7 | 0, _, _, _, _, _, _, _, _ => rfl | n + 1, v0, v1, v2, v3, v4, v5, v6, v7 => (JwM f k n v0 v1 v2 v3 v4 v5 v6 v7).trans (congrArg (fun r => Jbk f r (Jbl k) v0 v1 v2 v3 v4 v5 v6 v7) (by funext v0 v1 v2 v3 v4 v5 v6 v7; exact Jpa f k n v0 v1 v2 v3 v4 v5 v6 v7))
def Je7 (f : Nat) : List PV -> List (Nat × Ent) -> Kont -> OR
 | [.ro 5 v0 v1 v2, .ptr 4464 [], .ptr 4465 [], .ptr 4466 [],
 PV.ow 5 4467 [] 0 v3
  none], [(4464, .box false 37 (PV.ar 37 v4)), (4465, .box false 159 (PV.ar 159 v5)), (4466, .box false 142 (PV.ar 142 v6)),
 (4467,
  Ent.vec false 5 false
   v7)], k => GK f (Jbl k) f v0 v1 v2 v3 v4 v5 v6 v7
 | _, _, _ => none
theorem JCX (f : Nat) : Jf Jo8 Js5 = [] := by kernel_rfl
theorem JIM (f : Nat) : (Item.l Jo8 Je5 N51 (Je7 f)).Ok tau Try.prog 0 := Ju Jn Zm Jo (x := Js5) (nm2 := JmU) (Jk _ _ (by rw [JCX f]; intro q hq; cases hq)) fun vs hp k res hr => by
 unfold Je7 at hr
 split at hr
 · exact ⟨f, 0, (Jpa f _ f _ _ _ _ _ _ _ _ ).trans hr⟩
 · cases hr
def Jbm (f : Nat) (rc : Nat -> Int -> Int -> List PV -> List PV -> List PV -> List PV -> OR) (k0 : Nat -> List PV -> List PV -> List PV -> List PV -> OR) (v0 : Nat) (v1 v2 : Int) (v3 v4 v5 v6 : List PV) : OR := bif decide (v2 >= 0) then bif decide (0 <= IntKind.u64.wrap (8 * IntKind.u64.wrap v2)) && true then bif Je (v0 + 1) 1 && true then rc (v0 + 1) v1 (IntKind.i64.wrap (v2 - 1)) v3 v4 v5 (List.take v0 v6 ++ [.sc (.int .u8 (IntKind.u8.wrap (JV IntKind.u64 v1 (IntKind.u64.wrap (8 * IntKind.u64.wrap v2)))))]) else none else none else k0 v0 v3 v4 v5 v6
def GL (f : Nat) (k0 : Nat -> List PV -> List PV -> List PV -> List PV -> OR) : Nat -> Nat -> Int -> Int -> List PV -> List PV -> List PV -> List PV -> OR
 | 0, _, _, _, _, _, _, _ => none
 | n + 1, v0, v1, v2, v3, v4, v5, v6 => Jbm f (GL f k0 n) k0 v0 v1 v2 v3 v4 v5 v6
theorem JwN (f : Nat) (k : Kont) (n v0 : Nat) (v1 v2 : Int) (v3 v4 v5 v6 : List PV) : Jy tau 0 Zn (fun s k => ev tau F51 0 0 Jgz (Jj2 ) s k) (n + 1) (Ji Zn N51 [.ptr 4464 [], .ptr 4465 [], .ptr 4466 [], .ow 5 4467 [] 0 v0 none, .sc (.int .u64 v1), .sc (.int .i64 v2)] [(4464, .box false 37 (PV.ar 37 v3)), (4465, .box false 159 (PV.ar 159 v4)), (4466, .box false 142 (PV.ar 142 v5)), (4467, .vec false 5 false v6)]) (JG tau 0 Vl k) = Jbm f (fun v0 v1 v2 v3 v4 v5 v6 => Jy tau 0 Zn (fun s k => ev tau F51 0 0 Jgz (Jj2 ) s k) n (Ji Zn N51 [.ptr 4464 [], .ptr 4465 [], .ptr 4466 [], .ow 5 4467 [] 0 v0 none, .sc (.int .u64 v1), .sc (.int .i64 v2)] [(4464, .box false 37 (PV.ar 37 v3)), (4465, .box false 159 (PV.ar 159 v4)), (4466, .box false 142 (PV.ar 142 v5)), (4467, .vec false 5 false v6)]) (JG tau 0 Vl k)) (fun x0 x1 x2 x3 x4 => k (Ex.exit 2) (Ji Vl N51 [.ptr 4464 [], .ptr 4465 [], .ptr 4466 [], .ow 5 4467 [] 0 x0 none] [(4464, .box false 37 (PV.ar 37 x1)), (4465, .box false 159 (PV.ar 159 x2)), (4466, .box false 142 (PV.ar 142 x3)), (4467, .vec false 5 false x4)])) v0 v1 v2 v3 v4 v5 v6 := by kernel_rfl
theorem Jpb (f : Nat) (k : Kont) : ∀ (n v0 : Nat) (v1 v2 : Int) (v3 v4 v5 v6 : List PV), Jy tau 0 Zn (fun s k => ev tau F51 0 0 Jgz (Jj2 ) s k) n (Ji Zn N51 [.ptr 4464 [], .ptr 4465 [], .ptr 4466 [], .ow 5 4467 [] 0 v0 none, .sc (.int .u64 v1), .sc (.int .i64 v2)] [(4464, .box false 37 (PV.ar 37 v3)), (4465, .box false 159 (PV.ar 159 v4)), (4466, .box false 142 (PV.ar 142 v5)), (4467, .vec false 5 false v6)]) (JG tau 0 Vl k) = GL f (fun x0 x1 x2 x3 x4 => k (Ex.exit 2) (Ji Vl N51 [.ptr 4464 [], .ptr 4465 [], .ptr 4466 [], .ow 5 4467 [] 0 x0 none] [(4464, .box false 37 (PV.ar 37 x1)), (4465, .box false 159 (PV.ar 159 x2)), (4466, .box false 142 (PV.ar 142 x3)), (4467, .vec false 5 false x4)])) n v0 v1 v2 v3 v4 v5 v6 | 0, _, _, _, _, _, _, _ => rfl | n + 1, v0, v1, v2, v3, v4, v5, v6 => (JwN f k n v0 v1 v2 v3 v4 v5 v6).trans (congrArg (fun r => Jbm f r (fun x0 x1 x2 x3 x4 => k (Ex.exit 2) (Ji Vl N51 [.ptr 4464 [], .ptr 4465 [], .ptr 4466 [], .ow 5 4467 [] 0 x0 none] [(4464, .box false 37 (PV.ar 37 x1)), (4465, .box false 159 (PV.ar 159 x2)), (4466, .box false 142 (PV.ar 142 x3)), (4467, .vec false 5 false x4)])) v0 v1 v2 v3 v4 v5 v6) (by funext v0 v1 v2 v3 v4 v5 v6; exact Jpb f k n v0 v1 v2 v3 v4 v5 v6))
def Je8 (f : Nat) : List PV -> List (Nat × Ent) -> Kont -> OR
 | [.ptr 4464 [], .ptr 4465 [], .ptr 4466 [], .ow 5 4467 [] 0 v0 none, .sc (.int .u64 v1),
 PV.sc
  (Value.int IntKind.i64
   v2)], [(4464, .box false 37 (PV.ar 37 v3)), (4465, .box false 159 (PV.ar 159 v4)), (4466, .box false 142 (PV.ar 142 v5)),
 (4467,
  Ent.vec false 5 false
   v6)], k => GL f (fun x0 x1 x2 x3 x4 => k (Ex.exit
 2) (Ji Vl N51 [.ptr 4464 [], .ptr 4465 [], .ptr 4466 [],
 PV.ow 5 4467 [] 0 x0
  none] [(4464, .box false 37 (PV.ar 37 x1)), (4465, .box false 159 (PV.ar 159 x2)), (4466, .box false 142 (PV.ar 142 x3)), (4467, .vec false 5 false x4)])) f v0 v1 v2 v3 v4 v5 v6
 | _, _, _ => none
theorem JCY (f : Nat) : Jf Jgz Jj2 = [] := by kernel_rfl
theorem JIN (f : Nat) : (Item.l Jgz Zn N51 (Je8 f)).Ok tau Try.prog 0 := Ju Jn Zm Jo (x := Jj2) (nm2 := Vl) (Jk _ _ (by rw [JCY f]; intro q hq; cases hq)) fun vs hp k res hr => by
 unfold Je8 at hr
 split at hr
 · exact ⟨f, 0, (Jpb f _ f _ _ _ _ _ _ _ ).trans hr⟩
 · cases hr
abbrev W3 (v1 : Int) (v2 : Int) := (IntKind.i64.wrap (v1 + IntKind.i64.wrap (4 * v2)) + 1)
abbrev W4 (v1 : Int) (v2 : Int) := (IntKind.i64.wrap (v1 + IntKind.i64.wrap (4 * v2)) + 2)
abbrev W5 (v1 : Int) (v2 : Int) := (IntKind.i64.wrap (v1 + IntKind.i64.wrap (4 * v2)) + 3)
def Jbn (f : Nat) (rc : Nat -> Int -> Int -> List PV -> List PV -> List PV -> List PV -> List PV -> OR) (k0 : Nat -> Int -> List PV -> List PV -> List PV -> List PV -> List PV -> OR) (v0 : Nat) (v1 v2 : Int) (v3 v4 v5 v6 v7 : List PV) : OR := bif decide (v2 < 16) then bif decide (0 <= IntKind.i64.wrap (v1 + IntKind.i64.wrap (4 * v2))) && decide (IntKind.i64.wrap (v1 + IntKind.i64.wrap (4 * v2)) < zi v0) && true then bif PV.isInt IntKind.u8 (Jr (v6.getD (0 + (IntKind.i64.wrap (v1 + IntKind.i64.wrap (4 * v2))).toNat) PV.top) []) && true then bif decide (0 <= IntKind.i64.wrap (W3 v1 v2)) && decide (IntKind.i64.wrap (W3 v1 v2) < zi v0) && true then bif PV.isInt IntKind.u8 (Jr (v6.getD (0 + (IntKind.i64.wrap (W3 v1 v2)).toNat) PV.top) []) && true then bif decide (0 <= IntKind.i64.wrap (W4 v1 v2)) && decide (IntKind.i64.wrap (W4 v1 v2) < zi v0) && true then bif PV.isInt IntKind.u8 (Jr (v6.getD (0 + (IntKind.i64.wrap (W4 v1 v2)).toNat) PV.top) []) && true then bif decide (0 <= IntKind.i64.wrap (W5 v1 v2)) && decide (IntKind.i64.wrap (W5 v1 v2) < zi v0) && true then bif PV.isInt IntKind.u8 (Jr (v6.getD (0 + (IntKind.i64.wrap (W5 v1 v2)).toNat) PV.top) []) && true then bif decide (0 <= v2) && decide (v2 < zi 64) && true then rc v0 v1 (IntKind.i64.wrap (v2 + 1)) v3 v4 v5 v6 (v7.set v2.toNat (.sc (.int .u32 (JM BinOp.or IntKind.u32 (JM BinOp.or IntKind.u32 (JM BinOp.or IntKind.u32 (Xs IntKind.u32 (IntKind.u32.wrap (Jr (v6.getD (0 + (IntKind.i64.wrap (v1 + IntKind.i64.wrap (4 * v2))).toNat) PV.top) []).int) 24) (Xs IntKind.u32 (IntKind.u32.wrap (Jr (v6.getD (0 + (IntKind.i64.wrap (W3 v1 v2)).toNat) PV.top) []).int) 16)) (Xs IntKind.u32 (IntKind.u32.wrap (Jr (v6.getD (0 + (IntKind.i64.wrap (W4 v1 v2)).toNat) PV.top) []).int) 8)) (IntKind.u32.wrap (Jr (v6.getD (0 + (IntKind.i64.wrap (W5 v1 v2)).toNat) PV.top) []).int))))) else none else none else none else none else none else none else none else none else none else k0 v0 v1 v3 v4 v5 v6 v7
def GM (f : Nat) (k0 : Nat -> Int -> List PV -> List PV -> List PV -> List PV -> List PV -> OR) : Nat -> Nat -> Int -> Int -> List PV -> List PV -> List PV -> List PV -> List PV -> OR
 | 0, _, _, _, _, _, _, _, _ => none
 | n + 1, v0, v1, v2, v3, v4, v5, v6, v7 => Jbn f (GM f k0 n) k0 v0 v1 v2 v3 v4 v5 v6 v7
theorem JwO (f : Nat) (k : Kont) (n v0 : Nat) (v1 v2 : Int) (v3 v4 v5 v6 v7 : List PV) : Jy tau 0 Zo (fun s k => ev tau F51 0 0 JgA (Jj3 ) s k) (n + 1) (Ji Zo N51 [.ptr 4464 [], .ptr 4465 [], .ptr 4466 [], .ow 5 4467 [] 0 v0 none, .ptr 4468 [], .sc (.int .i64 v1), .sc (.int .i64 v2)] [(4464, .box false 37 (PV.ar 37 v3)), (4465, .box false 159 (PV.ar 159 v4)), (4466, .box false 142 (PV.ar 142 v5)), (4467, .vec false 5 false v6), (4468, .box false 159 (PV.ar 159 v7))]) (JG tau 0 Vm k) = Jbn f (fun v0 v1 v2 v3 v4 v5 v6 v7 => Jy tau 0 Zo (fun s k => ev tau F51 0 0 JgA (Jj3 ) s k) n (Ji Zo N51 [.ptr 4464 [], .ptr 4465 [], .ptr 4466 [], .ow 5 4467 [] 0 v0 none, .ptr 4468 [], .sc (.int .i64 v1), .sc (.int .i64 v2)] [(4464, .box false 37 (PV.ar 37 v3)), (4465, .box false 159 (PV.ar 159 v4)), (4466, .box false 142 (PV.ar 142 v5)), (4467, .vec false 5 false v6), (4468, .box false 159 (PV.ar 159 v7))]) (JG tau 0 Vm k)) (fun x0 x1 x2 x3 x4 x5 x6 => k (Ex.exit 6) (Ji Vm N51 [.ptr 4464 [], .ptr 4465 [], .ptr 4466 [], .ow 5 4467 [] 0 x0 none, .ptr 4468 [], .sc (.int .i64 x1)] [(4464, .box false 37 (PV.ar 37 x2)), (4465, .box false 159 (PV.ar 159 x3)), (4466, .box false 142 (PV.ar 142 x4)), (4467, .vec false 5 false x5), (4468, .box false 159 (PV.ar 159 x6))])) v0 v1 v2 v3 v4 v5 v6 v7 := by kernel_rfl
theorem Jpc (f : Nat) (k : Kont) : ∀ (n v0 : Nat) (v1 v2 : Int) (v3 v4 v5 v6 v7 : List PV), Jy tau 0 Zo (fun s k => ev tau F51 0 0 JgA (Jj3 ) s k) n (Ji Zo N51 [.ptr 4464 [], .ptr 4465 [], .ptr 4466 [], .ow 5 4467 [] 0 v0 none, .ptr 4468 [], .sc (.int .i64 v1), .sc (.int .i64 v2)] [(4464, .box false 37 (PV.ar 37 v3)), (4465, .box false 159 (PV.ar 159 v4)), (4466, .box false 142 (PV.ar 142 v5)), (4467, .vec false 5 false v6), (4468, .box false 159 (PV.ar 159 v7))]) (JG tau 0 Vm k) = GM f (fun x0 x1 x2 x3 x4 x5 x6 => k (Ex.exit 6) (Ji Vm N51 [.ptr 4464 [], .ptr 4465 [], .ptr 4466 [], .ow 5 4467 [] 0 x0 none, .ptr 4468 [], .sc (.int .i64 x1)] [(4464, .box false 37 (PV.ar 37 x2)), (4465, .box false 159 (PV.ar 159 x3)), (4466, .box false 142 (PV.ar 142 x4)), (4467, .vec false 5 false x5), (4468, .box false 159 (PV.ar 159 x6))])) n v0 v1 v2 v3 v4 v5 v6 v7 | 0, _, _, _, _, _, _, _, _ => rfl | n + 1, v0, v1, v2, v3, v4, v5, v6, v7 => (JwO f k n v0 v1 v2 v3 v4 v5 v6 v7).trans (congrArg (fun r => Jbn f r (fun x0 x1 x2 x3 x4 x5 x6 => k (Ex.exit 6) (Ji Vm N51 [.ptr 4464 [], .ptr 4465 [], .ptr 4466 [], .ow 5 4467 [] 0 x0 none, .ptr 4468 [], .sc (.int .i64 x1)] [(4464, .box false 37 (PV.ar 37 x2)), (4465, .box false 159 (PV.ar 159 x3)), (4466, .box false 142 (PV.ar 142 x4)), (4467, .vec false 5 false x5), (4468, .box false 159 (PV.ar 159 x6))])) v0 v1 v2 v3 v4 v5 v6 v7) (by funext v0 v1 v2 v3 v4 v5 v6 v7; exact Jpc f k n v0 v1 v2 v3 v4 v5 v6 v7))
def Jc2 (f : Nat) : List PV -> List (Nat × Ent) -> Kont -> OR
 | [.ptr 4464 [], .ptr 4465 [], .ptr 4466 [], .ow 5 4467 [] 0 v0 none, .ptr 4468 [], .sc (.int .i64 v1),
 PV.sc
  (Value.int IntKind.i64
   v2)], [(4464, .box false 37 (PV.ar 37 v3)), (4465, .box false 159 (PV.ar 159 v4)), (4466, .box false 142 (PV.ar 142 v5)), (4467, .vec false 5 false v6),
 (4468,
  Ent.box false 159
   (PV.ar 159
    v7))], k => GM f (fun x0 x1 x2 x3 x4 x5 x6 => k (Ex.exit
 6) (Ji Vm N51 [.ptr 4464 [], .ptr 4465 [], .ptr 4466 [], .ow 5 4467 [] 0 x0 none, .ptr 4468 [],
 PV.sc
  (Value.int IntKind.i64
   x1)] [(4464, .box false 37 (PV.ar 37 x2)), (4465, .box false 159 (PV.ar 159 x3)), (4466, .box false 142 (PV.ar 142 x4)), (4467, .vec false 5 false x5),
 (4468, .box false 159 (PV.ar 159 x6))])) f v0 v1 v2 v3 v4 v5 v6 v7
 | _, _, _ => none
theorem JCZ (f : Nat) : Jf JgA Jj3 = [] := by kernel_rfl
theorem JIO (f : Nat) : (Item.l JgA Zo N51 (Jc2 f)).Ok tau Try.prog 0 := Ju Jn Zm Jo (x := Jj3) (nm2 := Vm) (Jk _ _ (by rw [JCZ f]; intro q hq; cases hq)) fun vs hp k res hr => by
 unfold Jc2 at hr
 split at hr
 · exact ⟨f, 0, (Jpc f _ f _ _ _ _ _ _ _ _ ).trans hr⟩
 · cases hr
abbrev W6 (v2 : Int) (v7 : List PV) := (Jr (PV.ar 159 v7) [(IntKind.i64.wrap (v2 - 15)).toNat])
abbrev W7 (v2 : Int) (v7 : List PV) := (Jr (PV.ar 159 v7) [(IntKind.i64.wrap (v2 - 2)).toNat])
def Jbo (f : Nat) (rc : Nat -> Int -> Int -> List PV -> List PV -> List PV -> List PV -> List PV -> OR) (k0 : Nat -> Int -> List PV -> List PV -> List PV -> List PV -> List PV -> OR) (v0 : Nat) (v1 v2 : Int) (v3 v4 v5 v6 v7 : List PV) : OR := bif decide (v2 < 64) then bif decide (0 <= IntKind.i64.wrap (v2 - 15)) && decide (IntKind.i64.wrap (v2 - 15) < zi 64) && true then bif PV.isInt IntKind.u32 (W6 v2 v7) && true then bif decide (0 <= IntKind.i64.wrap (v2 - 2)) && decide (IntKind.i64.wrap (v2 - 2) < zi 64) && true then bif PV.isInt IntKind.u32 (W7 v2 v7) && true then bif decide (0 <= IntKind.i64.wrap (v2 - 7)) && decide (IntKind.i64.wrap (v2 - 7) < zi 64) && true then bif PV.isInt IntKind.u32 (Jr (PV.ar 159 v7) [(IntKind.i64.wrap (v2 - 7)).toNat]) && true then bif decide (0 <= IntKind.i64.wrap (v2 - 16)) && decide (IntKind.i64.wrap (v2 - 16) < zi 64) && true then bif PV.isInt IntKind.u32 (Jr (PV.ar 159 v7) [(IntKind.i64.wrap (v2 - 16)).toNat]) && true then bif decide (0 <= v2) && decide (v2 < zi 64) && true then rc v0 v1 (IntKind.i64.wrap (v2 + 1)) v3 v4 v5 v6 (v7.set v2.toNat (.sc (.int .u32 (IntKind.u32.wrap (IntKind.u32.wrap (IntKind.u32.wrap (JM BinOp.xor IntKind.u32 (JM BinOp.xor IntKind.u32 (rr (W7 v2 v7).int 17) (rr (W7 v2 v7).int 19)) (JV IntKind.u32 (W7 v2 v7).int 10) + (Jr (PV.ar 159 v7) [(IntKind.i64.wrap (v2 - 7)).toNat]).int) + JM BinOp.xor IntKind.u32 (JM BinOp.xor IntKind.u32 (rr (W6 v2 v7).int 7) (rr (W6 v2 v7).int 18)) (JV IntKind.u32 (W6 v2 v7).int 3)) + (Jr (PV.ar 159 v7) [(IntKind.i64.wrap (v2 - 16)).toNat]).int))))) else none else none else none else none else none else none else none else none else none else k0 v0 v1 v3 v4 v5 v6 v7
def GN (f : Nat) (k0 : Nat -> Int -> List PV -> List PV -> List PV -> List PV -> List PV -> OR) : Nat -> Nat -> Int -> Int -> List PV -> List PV -> List PV -> List PV -> List PV -> OR
 | 0, _, _, _, _, _, _, _, _ => none
 | n + 1, v0, v1, v2, v3, v4, v5, v6, v7 => Jbo f (GN f k0 n) k0 v0 v1 v2 v3 v4 v5 v6 v7
theorem JwP (f : Nat) (k : Kont) (n v0 : Nat) (v1 v2 : Int) (v3 v4 v5 v6 v7 : List PV) : Jy tau 0 Zp (fun s k => ev tau F51 0 0 JgB (Jj4 ) s k) (n + 1) (Ji Zp N51 [.ptr 4464 [], .ptr 4465 [], .ptr 4466 [], .ow 5 4467 [] 0 v0 none, .ptr 4468 [], .sc (.int .i64 v1), .sc (.int .i64 v2)] [(4464, .box false 37 (PV.ar 37 v3)), (4465, .box false 159 (PV.ar 159 v4)), (4466, .box false 142 (PV.ar 142 v5)), (4467, .vec false 5 false v6), (4468, .box false 159 (PV.ar 159 v7))]) (JG tau 0 Vn k) = Jbo f (fun v0 v1 v2 v3 v4 v5 v6 v7 => Jy tau 0 Zp (fun s k => ev tau F51 0 0 JgB (Jj4 ) s k) n (Ji Zp N51 [.ptr 4464 [], .ptr 4465 [], .ptr 4466 [], .ow 5 4467 [] 0 v0 none, .ptr 4468 [], .sc (.int .i64 v1), .sc (.int .i64 v2)] [(4464, .box false 37 (PV.ar 37 v3)), (4465, .box false 159 (PV.ar 159 v4)), (4466, .box false 142 (PV.ar 142 v5)), (4467, .vec false 5 false v6), (4468, .box false 159 (PV.ar 159 v7))]) (JG tau 0 Vn k)) (fun x0 x1 x2 x3 x4 x5 x6 => k (Ex.exit 8) (Ji Vn N51 [.ptr 4464 [], .ptr 4465 [], .ptr 4466 [], .ow 5 4467 [] 0 x0 none, .ptr 4468 [], .sc (.int .i64 x1)] [(4464, .box false 37 (PV.ar 37 x2)), (4465, .box false 159 (PV.ar 159 x3)), (4466, .box false 142 (PV.ar 142 x4)), (4467, .vec false 5 false x5), (4468, .box false 159 (PV.ar 159 x6))])) v0 v1 v2 v3 v4 v5 v6 v7 := by kernel_rfl
theorem Jpd (f : Nat) (k : Kont) : ∀ (n v0 : Nat) (v1 v2 : Int) (v3 v4 v5 v6 v7 : List PV), Jy tau 0 Zp (fun s k => ev tau F51 0 0 JgB (Jj4 ) s k) n (Ji Zp N51 [.ptr 4464 [], .ptr 4465 [], .ptr 4466 [], .ow 5 4467 [] 0 v0 none, .ptr 4468 [], .sc (.int .i64 v1), .sc (.int .i64 v2)] [(4464, .box false 37 (PV.ar 37 v3)), (4465, .box false 159 (PV.ar 159 v4)), (4466, .box false 142 (PV.ar 142 v5)), (4467, .vec false 5 false v6), (4468, .box false 159 (PV.ar 159 v7))]) (JG tau 0 Vn k) = GN f (fun x0 x1 x2 x3 x4 x5 x6 => k (Ex.exit 8) (Ji Vn N51 [.ptr 4464 [], .ptr 4465 [], .ptr 4466 [], .ow 5 4467 [] 0 x0 none, .ptr 4468 [], .sc (.int .i64 x1)] [(4464, .box false 37 (PV.ar 37 x2)), (4465, .box false 159 (PV.ar 159 x3)), (4466, .box false 142 (PV.ar 142 x4)), (4467, .vec false 5 false x5), (4468, .box false 159 (PV.ar 159 x6))])) n v0 v1 v2 v3 v4 v5 v6 v7 | 0, _, _, _, _, _, _, _, _ => rfl | n + 1, v0, v1, v2, v3, v4, v5, v6, v7 => (JwP f k n v0 v1 v2 v3 v4 v5 v6 v7).trans (congrArg (fun r => Jbo f r (fun x0 x1 x2 x3 x4 x5 x6 => k (Ex.exit 8) (Ji Vn N51 [.ptr 4464 [], .ptr 4465 [], .ptr 4466 [], .ow 5 4467 [] 0 x0 none, .ptr 4468 [], .sc (.int .i64 x1)] [(4464, .box false 37 (PV.ar 37 x2)), (4465, .box false 159 (PV.ar 159 x3)), (4466, .box false 142 (PV.ar 142 x4)), (4467, .vec false 5 false x5), (4468, .box false 159 (PV.ar 159 x6))])) v0 v1 v2 v3 v4 v5 v6 v7) (by funext v0 v1 v2 v3 v4 v5 v6 v7; exact Jpd f k n v0 v1 v2 v3 v4 v5 v6 v7))
def Jc3 (f : Nat) : List PV -> List (Nat × Ent) -> Kont -> OR
 | [.ptr 4464 [], .ptr 4465 [], .ptr 4466 [], .ow 5 4467 [] 0 v0 none, .ptr 4468 [], .sc (.int .i64 v1),
 PV.sc
  (Value.int IntKind.i64
   v2)], [(4464, .box false 37 (PV.ar 37 v3)), (4465, .box false 159 (PV.ar 159 v4)), (4466, .box false 142 (PV.ar 142 v5)), (4467, .vec false 5 false v6),
 (4468,
  Ent.box false 159
   (PV.ar 159
    v7))], k => GN f (fun x0 x1 x2 x3 x4 x5 x6 => k (Ex.exit
 8) (Ji Vn N51 [.ptr 4464 [], .ptr 4465 [], .ptr 4466 [], .ow 5 4467 [] 0 x0 none, .ptr 4468 [],
 PV.sc
  (Value.int IntKind.i64
   x1)] [(4464, .box false 37 (PV.ar 37 x2)), (4465, .box false 159 (PV.ar 159 x3)), (4466, .box false 142 (PV.ar 142 x4)), (4467, .vec false 5 false x5),
 (4468, .box false 159 (PV.ar 159 x6))])) f v0 v1 v2 v3 v4 v5 v6 v7
 | _, _, _ => none
theorem JC0 (f : Nat) : Jf JgB Jj4 = [] := by kernel_rfl
theorem JIP (f : Nat) : (Item.l JgB Zp N51 (Jc3 f)).Ok tau Try.prog 0 := Ju Jn Zm Jo (x := Jj4) (nm2 := Vn) (Jk _ _ (by rw [JC0 f]; intro q hq; cases hq)) fun vs hp k res hr => by
 unfold Jc3 at hr
 split at hr
 · exact ⟨f, 0, (Jpd f _ f _ _ _ _ _ _ _ _ ).trans hr⟩
 · cases hr
abbrev Zt (v2 : Int) (v4 : List PV) (v7 : List PV) (v8 : List PV) := (IntKind.u32.wrap (IntKind.u32.wrap (IntKind.u32.wrap ((Jr (PV.ar 142 v8) [7]).int + JM BinOp.xor IntKind.u32 (JM BinOp.xor IntKind.u32 (rr (Jr (PV.ar 142 v8) [4]).int 6) (rr (Jr (PV.ar 142 v8) [4]).int 11)) (rr (Jr (PV.ar 142 v8) [4]).int 25)) + JM BinOp.xor IntKind.u32 (JM BinOp.and IntKind.u32 (Jr (PV.ar 142 v8) [4]).int (Jr (PV.ar 142 v8) [5]).int) (JM BinOp.and IntKind.u32 (JM BinOp.xor IntKind.u32 (Int.ofNat (2 ^ IntKind.u32.bits - Nat.succ 0)) (Jr (PV.ar 142 v8) [4]).int) (Jr (PV.ar 142 v8) [6]).int)) + (Jr (PV.ar 159 v4) [v2.toNat]).int) + (Jr (PV.ar 159 v7) [v2.toNat]).int)
def Jbp (f : Nat) (rc : Nat -> Int -> Int -> List PV -> List PV -> List PV -> List PV -> List PV -> List PV -> OR) (k0 : Nat -> Int -> List PV -> List PV -> List PV -> List PV -> List PV -> List PV -> OR) (v0 : Nat) (v1 v2 : Int) (v3 v4 v5 v6 v7 v8 : List PV) : OR := bif decide (v2 < 64) then bif PV.isInt IntKind.u32 (Jr (PV.ar 142 v8) [4]) && true then bif PV.isInt IntKind.u32 (Jr (PV.ar 142 v8) [7]) && true then bif PV.isInt IntKind.u32 (Jr (PV.ar 142 v8) [5]) && true then bif PV.isInt IntKind.u32 (Jr (PV.ar 142 v8) [6]) && true then bif decide (0 <= v2) && decide (v2 < zi 64) && true then bif PV.isInt IntKind.u32 (Jr (PV.ar 159 v4) [v2.toNat]) && true then bif decide (0 <= v2) && decide (v2 < zi 64) && true then bif PV.isInt IntKind.u32 (Jr (PV.ar 159 v7) [v2.toNat]) && true then bif PV.isInt IntKind.u32 (Jr (PV.ar 142 v8) [0]) && true then bif PV.isInt IntKind.u32 (Jr (PV.ar 142 v8) [0]) && true then bif PV.isInt IntKind.u32 (Jr (PV.ar 142 v8) [0]) && true then bif PV.isInt IntKind.u32 (Jr (PV.ar 142 v8) [0]) && true then bif PV.isInt IntKind.u32 (Jr (PV.ar 142 v8) [1]) && true then bif PV.isInt IntKind.u32 (Jr (PV.ar 142 v8) [0]) && true then bif PV.isInt IntKind.u32 (Jr (PV.ar 142 v8) [2]) && true then bif PV.isInt IntKind.u32 (Jr (PV.ar 142 v8) [1]) && true then bif PV.isInt IntKind.u32 (Jr (PV.ar 142 v8) [2]) && true then bif PV.isInt IntKind.u32 (Jr (PV.ar 142 v8) [0]) && true then bif PV.isInt IntKind.u32 (Jr (PV.ar 142 v8) [1]) && true then bif PV.isInt IntKind.u32 (Jr (PV.ar 142 v8) [2]) && true then bif PV.isInt IntKind.u32 (Jr (PV.ar 142 v8) [3]) && true then bif PV.isInt IntKind.u32 (Jr (PV.ar 142 v8) [4]) && true then bif PV.isInt IntKind.u32 (Jr (PV.ar 142 v8) [5]) && true then bif PV.isInt IntKind.u32 (Jr (PV.ar 142 v8) [6]) && true then rc v0 v1 (IntKind.i64.wrap (v2 + 1)) v3 v4 v5 v6 v7 ([.sc (.int .u32 (IntKind.u32.wrap (IntKind.u32.wrap (Zt v2 v4 v7 v8) + IntKind.u32.wrap (JM BinOp.xor IntKind.u32 (JM BinOp.xor IntKind.u32 (rr (Jr (PV.ar 142 v8) [0]).int 2) (rr (Jr (PV.ar 142 v8) [0]).int 13)) (rr (Jr (PV.ar 142 v8) [0]).int 22) + JM BinOp.xor IntKind.u32 (JM BinOp.xor IntKind.u32 (JM BinOp.and IntKind.u32 (Jr (PV.ar 142 v8) [0]).int (Jr (PV.ar 142 v8) [1]).int) (JM BinOp.and IntKind.u32 (Jr (PV.ar 142 v8) [0]).int (Jr (PV.ar 142 v8) [2]).int)) (JM BinOp.and IntKind.u32 (Jr (PV.ar 142 v8) [1]).int (Jr (PV.ar 142 v8) [2]).int))))), .sc (.int .u32 (Jr (PV.ar 142 v8) [0]).int), .sc (.int .u32 (Jr (PV.ar 142 v8) [1]).int), .sc (.int .u32 (Jr (PV.ar 142 v8) [2]).int), .sc (.int .u32 (IntKind.u32.wrap ((Jr (PV.ar 142 v8) [3]).int + IntKind.u32.wrap (Zt v2 v4 v7 v8)))), .sc (.int .u32 (Jr (PV.ar 142 v8) [4]).int), .sc (.int .u32 (Jr (PV.ar 142 v8) [5]).int), .sc (.int .u32 (Jr (PV.ar 142 v8) [6]).int)]) else none else none else none else none else none else none else none else none else none else none else none else none else none else none else none else none else none else none else none else none else none else none else none else none else k0 v0 v1 v3 v4 v5 v6 v7 v8
def GO (f : Nat) (k0 : Nat -> Int -> List
 PV -> List PV -> List PV -> List PV -> List PV -> List PV -> OR) : Nat -> Nat -> Int -> Int -> List PV -> List PV -> List PV -> List PV -> List PV -> List PV -> OR
 | 0, _, _, _, _, _, _, _, _, _ => none
 | n + 1, v0, v1, v2, v3, v4, v5, v6, v7, v8 => Jbp f (GO f k0 n) k0 v0 v1 v2 v3 v4 v5 v6 v7 v8
theorem JwQ (f : Nat) (k : Kont) (n v0 : Nat) (v1 v2 : Int) (v3 v4 v5 v6 v7 v8 : List PV) : Jy tau 0 Zq (fun s k => ev tau F51 0 0 JgC (Jj5 ) s k) (n + 1) (Ji Zq N51 [.ptr 4464 [], .ptr 4465 [], .ptr 4466 [], .ow 5 4467 [] 0 v0 none, .ptr 4468 [], .sc (.int .i64 v1), .ptr 4469 [], .sc (.int .i64 v2)] [(4464, .box false 37 (PV.ar 37 v3)), (4465, .box false 159 (PV.ar 159 v4)), (4466, .box false 142 (PV.ar 142 v5)), (4467, .vec false 5 false v6), (4468, .box false 159 (PV.ar 159 v7)), (4469, .box false 142 (PV.ar 142 v8))]) (JG tau 0 Vo k) = Jbp f (fun v0 v1 v2 v3 v4 v5 v6 v7 v8 => Jy tau 0 Zq (fun s k => ev tau F51 0 0 JgC (Jj5 ) s k) n (Ji Zq N51 [.ptr 4464 [], .ptr 4465 [], .ptr 4466 [], .ow 5 4467 [] 0 v0 none, .ptr 4468 [], .sc (.int .i64 v1), .ptr 4469 [], .sc (.int .i64 v2)] [(4464, .box false 37 (PV.ar 37 v3)), (4465, .box false 159 (PV.ar 159 v4)), (4466, .box false 142 (PV.ar 142 v5)), (4467, .vec false 5 false v6), (4468, .box false 159 (PV.ar 159 v7)), (4469, .box false 142 (PV.ar 142 v8))]) (JG tau 0 Vo k)) (fun x0 x1 x2 x3 x4 x5 x6 x7 => k (Ex.exit 10) (Ji Vo N51 [.ptr 4464 [], .ptr 4465 [], .ptr 4466 [], .ow 5 4467 [] 0 x0 none, .ptr 4468 [], .sc (.int .i64 x1), .ptr 4469 []] [(4464, .box false 37 (PV.ar 37 x2)), (4465, .box false 159 (PV.ar 159 x3)), (4466, .box false 142 (PV.ar 142 x4)), (4467, .vec false 5 false x5), (4468, .box false 159 (PV.ar 159 x6)), (4469, .box false 142 (PV.ar 142 x7))])) v0 v1 v2 v3 v4 v5 v6 v7 v8 := by kernel_rfl
theorem Jpe (f : Nat) (k : Kont) : ∀ (n v0 : Nat) (v1 v2 : Int) (v3 v4 v5 v6 v7 v8 : List PV), Jy tau 0 Zq (fun s k => ev tau F51 0 0 JgC (Jj5 ) s k) n (Ji Zq N51 [.ptr 4464 [], .ptr 4465 [], .ptr 4466 [], .ow 5 4467 [] 0 v0 none, .ptr 4468 [], .sc (.int .i64 v1), .ptr 4469 [], .sc (.int .i64 v2)] [(4464, .box false 37 (PV.ar 37 v3)), (4465, .box false 159 (PV.ar 159 v4)), (4466, .box false 142 (PV.ar 142 v5)), (4467, .vec false 5 false v6), (4468, .box false 159 (PV.ar 159 v7)), (4469, .box false 142 (PV.ar 142 v8))]) (JG tau 0 Vo k) = GO f (fun x0 x1 x2 x3 x4 x5 x6 x7 => k (Ex.exit 10) (Ji Vo N51 [.ptr 4464 [], .ptr 4465 [], .ptr 4466 [], .ow 5 4467 [] 0 x0 none, .ptr 4468 [], .sc (.int .i64 x1), .ptr 4469 []] [(4464, .box false 37 (PV.ar 37 x2)), (4465, .box false 159 (PV.ar 159 x3)), (4466, .box false 142 (PV.ar 142 x4)), (4467, .vec false 5 false x5), (4468, .box false 159 (PV.ar 159 x6)), (4469, .box false 142 (PV.ar 142 x7))])) n v0 v1 v2 v3 v4 v5 v6 v7 v8 | 0, _, _, _, _, _, _, _, _, _ => rfl | n + 1, v0, v1, v2, v3, v4, v5, v6, v7, v8 => (JwQ f k n v0 v1 v2 v3 v4 v5 v6 v7 v8).trans (congrArg (fun r => Jbp f r (fun x0 x1 x2 x3 x4 x5 x6 x7 => k (Ex.exit 10) (Ji Vo N51 [.ptr 4464 [], .ptr 4465 [], .ptr 4466 [], .ow 5 4467 [] 0 x0 none, .ptr 4468 [], .sc (.int .i64 x1), .ptr 4469 []] [(4464, .box false 37 (PV.ar 37 x2)), (4465, .box false 159 (PV.ar 159 x3)), (4466, .box false 142 (PV.ar 142 x4)), (4467, .vec false 5 false x5), (4468, .box false 159 (PV.ar 159 x6)), (4469, .box false 142 (PV.ar 142 x7))])) v0 v1 v2 v3 v4 v5 v6 v7 v8) (by funext v0 v1 v2 v3 v4 v5 v6 v7 v8; exact Jpe f k n v0 v1 v2 v3 v4 v5 v6 v7 v8))
def Jc4 (f : Nat) : List PV -> List (Nat × Ent) -> Kont -> OR
 | [.ptr 4464 [], .ptr 4465 [], .ptr 4466 [], .ow 5 4467 [] 0 v0 none, .ptr 4468 [], .sc (.int .i64 v1), .ptr 4469 [],
 PV.sc
  (Value.int IntKind.i64
   v2)], [(4464, .box false 37 (PV.ar 37 v3)), (4465, .box false 159 (PV.ar 159 v4)), (4466, .box false 142 (PV.ar 142 v5)), (4467, .vec false 5 false v6),
 (4468, .box false 159 (PV.ar 159 v7)),
 (4469,
  Ent.box false 142
   (PV.ar 142
    v8))], k => GO f (fun x0 x1 x2 x3 x4 x5 x6 x7 => k (Ex.exit
 10) (Ji Vo N51 [.ptr 4464 [], .ptr 4465 [], .ptr 4466 [], .ow 5 4467 [] 0 x0 none, .ptr 4468 [], .sc (.int .i64 x1),
 PV.ptr 4469
  []] [(4464, .box false 37 (PV.ar 37 x2)), (4465, .box false 159 (PV.ar 159 x3)), (4466, .box false 142 (PV.ar 142 x4)), (4467, .vec false 5 false x5),
 (4468, .box false 159 (PV.ar 159 x6)), (4469, .box false 142 (PV.ar 142 x7))])) f v0 v1 v2 v3 v4 v5 v6 v7 v8
 | _, _, _ => none
theorem JC1 (f : Nat) : Jf JgC Jj5 = [] := by kernel_rfl
theorem JIQ (f : Nat) : (Item.l JgC Zq N51 (Jc4 f)).Ok tau Try.prog 0 := Ju Jn Zm Jo (x := Jj5) (nm2 := Vo) (Jk _ _ (by rw [JC1 f]; intro q hq; cases hq)) fun vs hp k res hr => by
 unfold Jc4 at hr
 split at hr
 · exact ⟨f, 0, (Jpe f _ f _ _ _ _ _ _ _ _ _ ).trans hr⟩
 · cases hr
def Jbq (f : Nat) (rc : Nat -> Int -> Int -> List PV -> List PV -> List PV -> List PV -> List PV -> List PV -> OR) (k0 : Nat -> Int -> List PV -> List PV -> List PV -> List PV -> List PV -> OR) (v0 : Nat) (v1 v2 : Int) (v3 v4 v5 v6 v7 v8 : List PV) : OR := bif decide (v2 < 8) then bif decide (0 <= v2) && decide (v2 < zi 8) && true then bif PV.isInt IntKind.u32 (Jr (PV.ar 142 v5) [v2.toNat]) && true then bif decide (0 <= v2) && decide (v2 < zi 8) && true then bif PV.isInt IntKind.u32 (Jr (PV.ar 142 v8) [v2.toNat]) && true then bif decide (0 <= v2) && decide (v2 < zi 8) && true then rc v0 v1 (IntKind.i64.wrap (v2 + 1)) v3 v4 (v5.set v2.toNat (.sc (.int .u32 (IntKind.u32.wrap ((Jr (PV.ar 142 v5) [v2.toNat]).int + (Jr (PV.ar 142 v8) [v2.toNat]).int))))) v6 v7 v8 else none else none else none else none else none else k0 v0 v1 v3 v4 v5 v6 v7
def GP (f : Nat) (k0 : Nat -> Int -> List PV -> List PV -> List PV -> List PV -> List PV -> OR) : Nat -> Nat -> Int -> Int -> List PV -> List PV -> List PV -> List PV -> List PV -> List PV -> OR
 | 0, _, _, _, _, _, _, _, _, _ => none
 | n + 1, v0, v1, v2, v3, v4, v5, v6, v7, v8 => Jbq f (GP f k0 n) k0 v0 v1 v2 v3 v4 v5 v6 v7 v8
theorem JwR (f : Nat) (k : Kont) (n v0 : Nat) (v1 v2 : Int) (v3 v4 v5 v6 v7 v8 : List PV) : Jy tau 0 Zr (fun s k => ev tau F51 0 0 JgD (Jj6 ) s k) (n + 1) (Ji Zr N51 [.ptr 4464 [], .ptr 4465 [], .ptr 4466 [], .ow 5 4467 [] 0 v0 none, .ptr 4468 [], .sc (.int .i64 v1), .ptr 4469 [], .sc (.int .i64 v2)] [(4464, .box false 37 (PV.ar 37 v3)), (4465, .box false 159 (PV.ar 159 v4)), (4466, .box false 142 (PV.ar 142 v5)), (4467, .vec false 5 false v6), (4468, .box false 159 (PV.ar 159 v7)), (4469, .box false 142 (PV.ar 142 v8))]) (JG tau 0 Vp k) = Jbq f (fun v0 v1 v2 v3 v4 v5 v6 v7 v8 => Jy tau 0 Zr (fun s k => ev tau F51 0 0 JgD (Jj6 ) s k) n (Ji Zr N51 [.ptr 4464 [], .ptr 4465 [], .ptr 4466 [], .ow 5 4467 [] 0 v0 none, .ptr 4468 [], .sc (.int .i64 v1), .ptr 4469 [], .sc (.int .i64 v2)] [(4464, .box false 37 (PV.ar 37 v3)), (4465, .box false 159 (PV.ar 159 v4)), (4466, .box false 142 (PV.ar 142 v5)), (4467, .vec false 5 false v6), (4468, .box false 159 (PV.ar 159 v7)), (4469, .box false 142 (PV.ar 142 v8))]) (JG tau 0 Vp k)) (fun x0 x1 x2 x3 x4 x5 x6 => k (Ex.exit 12) (Ji Vp N51 [.ptr 4464 [], .ptr 4465 [], .ptr 4466 [], .ow 5 4467 [] 0 x0 none, .ptr 4468 [], .sc (.int .i64 x1)] [(4464, .box false 37 (PV.ar 37 x2)), (4465, .box false 159 (PV.ar 159 x3)), (4466, .box false 142 (PV.ar 142 x4)), (4467, .vec false 5 false x5), (4468, .box false 159 (PV.ar 159 x6))])) v0 v1 v2 v3 v4 v5 v6 v7 v8 := by kernel_rfl
theorem Jpf (f : Nat) (k : Kont) : ∀ (n v0 : Nat) (v1 v2 : Int) (v3 v4 v5 v6 v7 v8 : List PV), Jy tau 0 Zr (fun s k => ev tau F51 0 0 JgD (Jj6 ) s k) n (Ji Zr N51 [.ptr 4464 [], .ptr 4465 [], .ptr 4466 [], .ow 5 4467 [] 0 v0 none, .ptr 4468 [], .sc (.int .i64 v1), .ptr 4469 [], .sc (.int .i64 v2)] [(4464, .box false 37 (PV.ar 37 v3)), (4465, .box false 159 (PV.ar 159 v4)), (4466, .box false 142 (PV.ar 142 v5)), (4467, .vec false 5 false v6), (4468, .box false 159 (PV.ar 159 v7)), (4469, .box false 142 (PV.ar 142 v8))]) (JG tau 0 Vp k) = GP f (fun x0 x1 x2 x3 x4 x5 x6 => k (Ex.exit 12) (Ji Vp N51 [.ptr 4464 [], .ptr 4465 [], .ptr 4466 [], .ow 5 4467 [] 0 x0 none, .ptr 4468 [], .sc (.int .i64 x1)] [(4464, .box false 37 (PV.ar 37 x2)), (4465, .box false 159 (PV.ar 159 x3)), (4466, .box false 142 (PV.ar 142 x4)), (4467, .vec false 5 false x5), (4468, .box false 159 (PV.ar 159 x6))])) n v0 v1 v2 v3 v4 v5 v6 v7 v8 | 0, _, _, _, _, _, _, _, _, _ => rfl | n + 1, v0, v1, v2, v3, v4, v5, v6, v7, v8 => (JwR f k n v0 v1 v2 v3 v4 v5 v6 v7 v8).trans (congrArg (fun r => Jbq f r (fun x0 x1 x2 x3 x4 x5 x6 => k (Ex.exit 12) (Ji Vp N51 [.ptr 4464 [], .ptr 4465 [], .ptr 4466 [], .ow 5 4467 [] 0 x0 none, .ptr 4468 [], .sc (.int .i64 x1)] [(4464, .box false 37 (PV.ar 37 x2)), (4465, .box false 159 (PV.ar 159 x3)), (4466, .box false 142 (PV.ar 142 x4)), (4467, .vec false 5 false x5), (4468, .box false 159 (PV.ar 159 x6))])) v0 v1 v2 v3 v4 v5 v6 v7 v8) (by funext v0 v1 v2 v3 v4 v5 v6 v7 v8; exact Jpf f k n v0 v1 v2 v3 v4 v5 v6 v7 v8))
def Jc5 (f : Nat) : List PV -> List (Nat × Ent) -> Kont -> OR
 | [.ptr 4464 [], .ptr 4465 [], .ptr 4466 [], .ow 5 4467 [] 0 v0 none, .ptr 4468 [], .sc (.int .i64 v1), .ptr 4469 [],
 PV.sc
  (Value.int IntKind.i64
   v2)], [(4464, .box false 37 (PV.ar 37 v3)), (4465, .box false 159 (PV.ar 159 v4)), (4466, .box false 142 (PV.ar 142 v5)), (4467, .vec false 5 false v6),
 (4468, .box false 159 (PV.ar 159 v7)),
 (4469,
  Ent.box false 142
   (PV.ar 142
    v8))], k => GP f (fun x0 x1 x2 x3 x4 x5 x6 => k (Ex.exit
 12) (Ji Vp N51 [.ptr 4464 [], .ptr 4465 [], .ptr 4466 [], .ow 5 4467 [] 0 x0 none, .ptr 4468 [],
 PV.sc
  (Value.int IntKind.i64
   x1)] [(4464, .box false 37 (PV.ar 37 x2)), (4465, .box false 159 (PV.ar 159 x3)), (4466, .box false 142 (PV.ar 142 x4)), (4467, .vec false 5 false x5),
 (4468, .box false 159 (PV.ar 159 x6))])) f v0 v1 v2 v3 v4 v5 v6 v7 v8
 | _, _, _ => none
theorem JC2 (f : Nat) : Jf JgD Jj6 = [] := by kernel_rfl
theorem JIR (f : Nat) : (Item.l JgD Zr N51 (Jc5 f)).Ok tau Try.prog 0 := Ju Jn Zm Jo (x := Jj6) (nm2 := Vp) (Jk _ _ (by rw [JC2 f]; intro q hq; cases hq)) fun vs hp k res hr => by
 unfold Jc5 at hr
 split at hr
 · exact ⟨f, 0, (Jpf f _ f _ _ _ _ _ _ _ _ _ ).trans hr⟩
 · cases hr
def Jbr (f : Nat) (rc : Nat -> Int -> List PV -> List PV -> List PV -> List PV -> List PV -> OR) (k0 : List PV -> List PV -> OR) (v0 : Nat) (v1 : Int) (v2 v3 v4 v5 v6 : List PV) : OR := bif decide (v1 < zi v0) then GM f (fun x0_2 x1_2 x2_2 x3_2 x4_2 x5_2 x6_2 => GN f (fun x0_3 x1_3 x2_3 x3_3 x4_3 x5_3 x6_3 => GO f (fun x0_4 x1_4 x2_4 x3_4 x4_4 x5_4 x6_4 x7_4 => GP f (fun x0_5 x1_5 x2_5 x3_5 x4_5 x5_5 x6_5 => rc x0_5 (IntKind.i64.wrap (x1_5 + 64)) x2_5 x3_5 x4_5 x5_5 x6_5) f x0_4 x1_4 (0) x2_4 x3_4 x4_4 x5_4 x6_4 x7_4) f x0_3 x1_3 (0) x2_3 x3_3 x4_3 x5_3 x6_3 x4_3) f x0_2 x1_2 (16) x2_2 x3_2 x4_2 x5_2 x6_2) f v0 v1 (0) v2 v3 v4 v5 v6 else k0 v2 v4
def GQ (f : Nat) (k0 : List PV -> List PV -> OR) : Nat -> Nat -> Int -> List PV -> List PV -> List PV -> List PV -> List PV -> OR
 | 0, _, _, _, _, _, _, _ => none
 | n + 1, v0, v1, v2, v3, v4, v5, v6 => Jbr f (GQ f k0 n) k0 v0 v1 v2 v3 v4 v5 v6
theorem JwS (f : Nat) (k : Kont) (n v0 : Nat) (v1 : Int) (v2 v3 v4 v5 v6 : List PV) : Jy tau 0 Zs (fun s k => ev tau F51 0 0 JgE (Jj7 (Jc2 f) (Jc3 f) (Jc4 f) (Jc5 f)) s k) (n + 1) (Ji Zs N51 [.ptr 4464 [], .ptr 4465 [], .ptr 4466 [], .ow 5 4467 [] 0 v0 none, .ptr 4468 [], .sc (.int .i64 v1)] [(4464, .box false 37 (PV.ar 37 v2)), (4465, .box false 159 (PV.ar 159 v3)), (4466, .box false 142 (PV.ar 142 v4)), (4467, .vec false 5 false v5), (4468, .box false 159 (PV.ar 159 v6))]) (JG tau 0 Vq k) = Jbr f (fun v0 v1 v2 v3 v4 v5 v6 => Jy tau 0 Zs (fun s k => ev tau F51 0 0 JgE (Jj7 (Jc2 f) (Jc3 f) (Jc4 f) (Jc5 f)) s k) n (Ji Zs N51 [.ptr 4464 [], .ptr 4465 [], .ptr 4466 [], .ow 5 4467 [] 0 v0 none, .ptr 4468 [], .sc (.int .i64 v1)] [(4464, .box false 37 (PV.ar 37 v2)), (4465, .box false 159 (PV.ar 159 v3)), (4466, .box false 142 (PV.ar 142 v4)), (4467, .vec false 5 false v5), (4468, .box false 159 (PV.ar 159 v6))]) (JG tau 0 Vq k)) (fun x0 x1 => k (Ex.exit 4) (Ji Vq N51 [.ptr 4464 [], .ptr 4465 []] [(4464, .box false 37 (PV.ar 37 x0)), (4465, .box false 142 (PV.ar 142 x1))])) v0 v1 v2 v3 v4 v5 v6 := by kernel_rfl
theorem Jpg (f : Nat) (k : Kont) : ∀ (n v0 : Nat) (v1 : Int) (v2 v3 v4 v5 v6 : List PV), Jy tau 0 Zs (fun s k => ev tau F51 0 0 JgE (Jj7 (Jc2 f) (Jc3 f) (Jc4 f) (Jc5 f)) s k) n (Ji Zs N51 [.ptr 4464 [], .ptr 4465 [], .ptr 4466 [], .ow 5 4467 [] 0 v0 none, .ptr 4468 [], .sc (.int .i64 v1)] [(4464, .box false 37 (PV.ar 37 v2)), (4465, .box false 159 (PV.ar 159 v3)), (4466, .box false 142 (PV.ar 142 v4)), (4467, .vec false 5 false v5), (4468, .box false 159 (PV.ar 159 v6))]) (JG tau 0 Vq k) = GQ f (fun x0 x1 => k (Ex.exit 4) (Ji Vq N51 [.ptr 4464 [], .ptr 4465 []] [(4464, .box false 37 (PV.ar 37 x0)), (4465, .box false 142 (PV.ar 142 x1))])) n v0 v1 v2 v3 v4 v5 v6 | 0, _, _, _, _, _, _, _ => rfl | n + 1, v0, v1, v2, v3, v4, v5, v6 => (JwS f k n v0 v1 v2 v3 v4 v5 v6).trans (congrArg (fun r => Jbr f r (fun x0 x1 => k (Ex.exit 4) (Ji Vq N51 [.ptr 4464 [], .ptr 4465 []] [(4464, .box false 37 (PV.ar 37 x0)), (4465, .box false 142 (PV.ar 142 x1))])) v0 v1 v2 v3 v4 v5 v6) (by funext v0 v1 v2 v3 v4 v5 v6; exact Jpg f k n v0 v1 v2 v3 v4 v5 v6))
def Je9 (f : Nat) : List PV -> List (Nat × Ent) -> Kont -> OR
 | [.ptr 4464 [], .ptr 4465 [], .ptr 4466 [], .ow 5 4467 [] 0 v0 none, .ptr 4468 [],
 PV.sc
  (Value.int IntKind.i64
   v1)], [(4464, .box false 37 (PV.ar 37 v2)), (4465, .box false 159 (PV.ar 159 v3)), (4466, .box false 142 (PV.ar 142 v4)), (4467, .vec false 5 false v5),
 (4468,
  Ent.box false 159
   (PV.ar 159
    v6))], k => GQ f (fun x0 x1 => k (Ex.exit
 4) (Ji Vq N51 [.ptr 4464 [], .ptr 4465 []] [(4464, .box false 37 (PV.ar 37 x0)), (4465, .box false 142 (PV.ar 142 x1))])) f v0 v1 v2 v3 v4 v5 v6
 | _, _, _ => none
theorem JC3 (f : Nat) : Jf JgE (Jj7 (Jc2 f) (Jc3 f) (Jc4 f) (Jc5 f)) = [.l JgA Zo N51 (Jc2 f), .l JgB Zp N51 (Jc3 f), .l JgC Zq N51 (Jc4 f), .l JgD Zr N51 (Jc5 f)] := by kernel_rfl
theorem JIS (f : Nat) : (Item.l JgE Zs N51 (Je9 f)).Ok tau Try.prog 0 := Ju Jn Zm Jo (x := (Jj7 (Jc2 f) (Jc3 f) (Jc4 f) (Jc5 f))) (nm2 := Vq) (Jk _ _ (by rw [JC3 f]; simp only [List.forall_mem_cons, List.not_mem_nil, false_implies, implies_true, and_true]; exact ⟨JIO f, JIP f, JIQ f, JIR f⟩)) fun vs hp k res hr => by
 unfold Je9 at hr
 split at hr
 · exact ⟨f, 0, (Jpg f _ f _ _ _ _ _ _ _ ).trans hr⟩
 · cases hr
def Jbs (f : Nat) (rc : Int -> List PV -> List PV -> List PV -> OR) (k0 : List PV -> List PV -> OR) (v0 : Int) (v1 v2 v3 : List PV) : OR := bif decide (v0 < 8) then bif decide (0 <= v0) && decide (v0 < zi 8) && true then bif PV.isInt IntKind.u32 (Jr (PV.ar 142 v2) [v0.toNat]) && true then bif decide (0 <= v0) && decide (v0 < zi 8) && true then bif PV.isInt IntKind.u32 (Jr (PV.ar 142 v2) [v0.toNat]) && true then bif decide (0 <= v0) && decide (v0 < zi 8) && true then bif PV.isInt IntKind.u32 (Jr (PV.ar 142 v2) [v0.toNat]) && true then bif decide (0 <= v0) && decide (v0 < zi 8) && true then bif PV.isInt IntKind.u32 (Jr (PV.ar 142 v2) [v0.toNat]) && true then bif decide (0 <= IntKind.i64.wrap (4 * v0)) && decide (IntKind.i64.wrap (4 * v0) < zi 32) && true then bif decide (0 <= IntKind.i64.wrap (IntKind.i64.wrap (4 * v0) + 1)) && decide (IntKind.i64.wrap (IntKind.i64.wrap (4 * v0) + 1) < zi 32) && true then bif decide (0 <= IntKind.i64.wrap (IntKind.i64.wrap (4 * v0) + 2)) && decide (IntKind.i64.wrap (IntKind.i64.wrap (4 * v0) + 2) < zi 32) && true then bif decide (0 <= IntKind.i64.wrap (IntKind.i64.wrap (4 * v0) + 3)) && decide (IntKind.i64.wrap (IntKind.i64.wrap (4 * v0) + 3) < zi 32) && true then rc (IntKind.i64.wrap (v0 + 1)) v1 v2 ((((v3.set (IntKind.i64.wrap (4 * v0)).toNat (.sc (.int .u8 (IntKind.u8.wrap (JV IntKind.u32 (Jr (PV.ar 142 v2) [v0.toNat]).int 24))))).set (IntKind.i64.wrap (IntKind.i64.wrap (4 * v0) + 1)).toNat (.sc (.int .u8 (IntKind.u8.wrap (JV IntKind.u32 (Jr (PV.ar 142 v2) [v0.toNat]).int 16))))).set (IntKind.i64.wrap (IntKind.i64.wrap (4 * v0) + 2)).toNat (.sc (.int .u8 (IntKind.u8.wrap (JV IntKind.u32 (Jr (PV.ar 142 v2) [v0.toNat]).int 8))))).set (IntKind.i64.wrap (IntKind.i64.wrap (4 * v0) + 3)).toNat (.sc (.int .u8 (IntKind.u8.wrap (Jr (PV.ar 142 v2) [v0.toNat]).int)))) else none else none else none else none else none else none else none else none else none else none else none else none else k0 v1 v3
def GR (f : Nat) (k0 : List PV -> List PV -> OR) : Nat -> Int -> List PV -> List PV -> List PV -> OR
 | 0, _, _, _, _ => none
 | n + 1, v0, v1, v2, v3 => Jbs f (GR f k0 n) k0 v0 v1 v2 v3
def Jbt (k : Kont) := fun x0 x1 => k (Ex.exit 14) (Ji JmV N51 [.ptr 4464 [], .ptr 4465 []] [(4464, .box false 37 (PV.ar 37 x0)), (4465, .box false 37 (PV.ar 37 x1))])
def JmX (f : Nat) (k : Kont) (n : Nat) (v0 : Int) (v1 v2 v3 : List PV) : OR := Jy tau 0 Je6 (fun s k => ev tau F51 0 0 Jo9 (Js6 ) s k) n (Ji Je6 N51 [.ptr 4464 [], .ptr 4465 [], .ptr 4466 [], .sc (.int .i64 v0)] [(4464, .box false 37 (PV.ar 37 v1)), (4465, .box false 142 (PV.ar 142 v2)), (4466, .box false 37 (PV.ar 37 v3))]) (JG tau 0 JmV k)
theorem JwT (f : Nat) (k : Kont) (n : Nat) (v0 : Int) (v1 v2 v3 : List PV) : JmX f k (n + 1) v0 v1 v2 v3 = Jbs f (JmX f k n) (Jbt k) v0 v1 v2 v3 := by kernel_rfl
theorem Jph (f : Nat) (k : Kont) : ∀ (n : Nat) (v0 : Int) (v1 v2 v3 : List PV), JmX f k n v0 v1 v2 v3 = GR f (Jbt k) n v0 v1 v2 v3 | 0, _, _, _, _ => rfl | n + 1, v0, v1, v2, v3 => (JwT f k n v0 v1 v2 v3).trans (congrArg (fun r => Jbs f r (Jbt k) v0 v1 v2 v3) (by funext v0 v1 v2 v3; exact Jph f k n v0 v1 v2 v3))
def Jfa (f : Nat) : List PV -> List (Nat × Ent) -> Kont -> OR
 | [.ptr 4464 [], .ptr 4465 [], .ptr 4466 [],
 PV.sc
  (Value.int IntKind.i64
   v0)], [(4464, .box false 37 (PV.ar 37 v1)), (4465, .box false 142 (PV.ar 142 v2)),
 (4466,
  Ent.box false 37
   (PV.ar 37
    v3))], k => GR f (Jbt k) f v0 v1 v2 v3
 | _, _, _ => none
theorem JC4 (f : Nat) : Jf Jo9 Js6 = [] := by kernel_rfl
theorem JIT (f : Nat) : (Item.l Jo9 Je6 N51 (Jfa f)).Ok tau Try.prog 0 := Ju Jn Zm Jo (x := Js6) (nm2 := JmV) (Jk _ _ (by rw [JC4 f]; intro q hq; cases hq)) fun vs hp k res hr => by
 unfold Jfa at hr
 split at hr
 · exact ⟨f, 0, (Jph f _ f _ _ _ _ ).trans hr⟩
 · cases hr
abbrev Js7 := ([PV.sc (.int .u8 0), PV.sc (.int .u8 0), PV.sc (.int .u8 0), PV.sc (.int .u8 0), PV.sc (.int .u8 0), PV.sc (.int .u8 0), PV.sc (.int .u8 0), PV.sc (.int .u8 0), PV.sc (.int .u8 0), PV.sc (.int .u8 0), PV.sc (.int .u8 0), PV.sc (.int .u8 0), PV.sc (.int .u8 0), PV.sc (.int .u8 0), PV.sc (.int .u8 0), PV.sc (.int .u8 0), PV.sc (.int .u8 0), PV.sc (.int .u8 0), PV.sc (.int .u8 0), PV.sc (.int .u8 0), PV.sc (.int .u8 0), PV.sc (.int .u8 0), PV.sc (.int .u8 0), PV.sc (.int .u8 0), PV.sc (.int .u8 0), PV.sc (.int .u8 0), PV.sc (.int .u8 0), PV.sc (.int .u8 0), PV.sc (.int .u8 0), PV.sc (.int .u8 0), PV.sc (.int .u8 0), PV.sc (.int .u8 0)])
def g51 (f : Nat) (nl fl : Bool) (b : List PV) (k : KR) : OR := bif Je (0 + b.length) 1 && true then bif Je (0 + b.length + 1) 1 && true then GK f (fun _ _ x2_0 x3_0 x4_0 x5_0 x6_0 QI => GL f (fun x0_1 x1_1 x2_1 x3_1 x4_1 => GQ f (fun x0_6 x1_6 => GR f (fun _ x1_7 => k (Res.mk (.ar 37 x1_7) [] [])) f (0) x0_6 x1_6 Js7) f x0_1 (0) x1_1 x2_1 x3_1 x4_1 ([.sc (.int .u32 0), .sc (.int .u32 0), .sc (.int .u32 0), .sc (.int .u32 0), .sc (.int .u32 0), .sc (.int .u32 0), .sc (.int .u32 0), .sc (.int .u32 0), .sc (.int .u32 0), .sc (.int .u32 0), .sc (.int .u32 0), .sc (.int .u32 0), .sc (.int .u32 0), .sc (.int .u32 0), .sc (.int .u32 0), .sc (.int .u32 0), .sc (.int .u32 0), .sc (.int .u32 0), .sc (.int .u32 0), .sc (.int .u32 0), .sc (.int .u32 0), .sc (.int .u32 0), .sc (.int .u32 0), .sc (.int .u32 0), .sc (.int .u32 0), .sc (.int .u32 0), .sc (.int .u32 0), .sc (.int .u32 0), .sc (.int .u32 0), .sc (.int .u32 0), .sc (.int .u32 0), .sc (.int .u32 0), .sc (.int .u32 0), .sc (.int .u32 0), .sc (.int .u32 0), .sc (.int .u32 0), .sc (.int .u32 0), .sc (.int .u32 0), .sc (.int .u32 0), .sc (.int .u32 0), .sc (.int .u32 0), .sc (.int .u32 0), .sc (.int .u32 0), .sc (.int .u32 0), .sc (.int .u32 0), .sc (.int .u32 0), .sc (.int .u32 0), .sc (.int .u32 0), .sc (.int .u32 0), .sc (.int .u32 0), .sc (.int .u32 0), .sc (.int .u32 0), .sc (.int .u32 0), .sc (.int .u32 0), .sc (.int .u32 0), .sc (.int .u32 0), .sc (.int .u32 0), .sc (.int .u32 0), .sc (.int .u32 0), .sc (.int .u32 0), .sc (.int .u32 0), .sc (.int .u32 0), .sc (.int .u32 0), .sc (.int .u32 0)])) f x3_0 (IntKind.u64.wrap (IntKind.u64.wrap (zi x2_0.length) * 8)) (7) x4_0 x5_0 x6_0 QI) f nl fl b (0 + b.length + 1) Js7 ([.sc (.int .u32 1116352408), .sc (.int .u32 1899447441), .sc (.int .u32 3049323471), .sc (.int .u32 3921009573), .sc (.int .u32 961987163), .sc (.int .u32 1508970993), .sc (.int .u32 2453635748), .sc (.int .u32 2870763221), .sc (.int .u32 3624381080), .sc (.int .u32 310598401), .sc (.int .u32 607225278), .sc (.int .u32 1426881987), .sc (.int .u32 1925078388), .sc (.int .u32 2162078206), .sc (.int .u32 2614888103), .sc (.int .u32 3248222580), .sc (.int .u32 3835390401), .sc (.int .u32 4022224774), .sc (.int .u32 264347078), .sc (.int .u32 604807628), .sc (.int .u32 770255983), .sc (.int .u32 1249150122), .sc (.int .u32 1555081692), .sc (.int .u32 1996064986), .sc (.int .u32 2554220882), .sc (.int .u32 2821834349), .sc (.int .u32 2952996808), .sc (.int .u32 3210313671), .sc (.int .u32 3336571891), .sc (.int .u32 3584528711), .sc (.int .u32 113926993), .sc (.int .u32 338241895), .sc (.int .u32 666307205), .sc (.int .u32 773529912), .sc (.int .u32 1294757372), .sc (.int .u32 1396182291), .sc (.int .u32 1695183700), .sc (.int .u32 1986661051), .sc (.int .u32 2177026350), .sc (.int .u32 2456956037), .sc (.int .u32 2730485921), .sc (.int .u32 2820302411), .sc (.int .u32 3259730800), .sc (.int .u32 3345764771), .sc (.int .u32 3516065817), .sc (.int .u32 3600352804), .sc (.int .u32 4094571909), .sc (.int .u32 275423344), .sc (.int .u32 430227734), .sc (.int .u32 506948616), .sc (.int .u32 659060556), .sc (.int .u32 883997877), .sc (.int .u32 958139571), .sc (.int .u32 1322822218), .sc (.int .u32 1537002063), .sc (.int .u32 1747873779), .sc (.int .u32 1955562222), .sc (.int .u32 2024104815), .sc (.int .u32 2227730452), .sc (.int .u32 2361852424), .sc (.int .u32 2428436474), .sc (.int .u32 2756734187), .sc (.int .u32 3204031479), .sc (.int .u32 3329325298)]) ([.sc (.int .u32 1779033703), .sc (.int .u32 3144134277), .sc (.int .u32 1013904242), .sc (.int .u32 2773480762), .sc (.int .u32 1359893119), .sc (.int .u32 2600822924), .sc (.int .u32 528734635), .sc (.int .u32 1541459225)]) (List.take (0 + b.length) ([] ++ b) ++ [.sc (.int .u8 128)]) else none else none
theorem e51 (f : Nat) (nl fl : Bool) (b : List PV) (k : KR) : JJ tau F51 Try.f51 (Try.f51.body.get!) (JwL (Je7 f) (Je8 f) (Je9 f) (Jfa f)) [] 0 [.ro 5 nl fl b] [] k = g51 f nl fl b k := by kernel_rfl
theorem JNB (f : Nat) : Jf (Try.f51.body.get!) (JwL (Je7 f) (Je8 f) (Je9 f) (Jfa f)) = [.l Jo8 Je5 N51 (Je7 f), .l Jgz Zn N51 (Je8 f), .l JgE Zs N51 (Je9 f), .l Jo9 Je6 N51 (Jfa f)] := by kernel_rfl
theorem JNC (f : Nat) : ∀ q ∈ Jf (Try.f51.body.get!) (JwL (Je7 f) (Je8 f) (Je9 f) (Jfa f)), q.Ok tau Try.prog 0 := by rw [JNB f]; exact JL (JIM f) (JL (JIN f) (JL (JIS f) (JL (JIT f) (fun _ h => nomatch h))))
theorem JIU : Try.prog.funcs[51]? = some Try.f51 := by kernel_rfl
theorem JIV : Try.f51.body = some (Try.f51.body.get!) := by kernel_rfl
theorem JC5 : Enters Try.prog 51 := enters_of JIU (by kernel_rfl) JIV
-- FN ref2.Sum
theorem Js8 (v : PV) : Jr v [] = v := rfl
theorem X1 {R : List Int} (h : R.length = 8) (j : Nat) (hj : j < 8) : (pu .u32 R).getD j .top = .sc (.int .u32 (R.getD j 0)) := ZW (by omega)
theorem Jzn (f : Nat) (a b : Bool) (c x y w : List PV) (k0 : Bool -> Bool -> List PV -> Nat -> List PV -> List PV -> List PV -> List PV -> OR) : ∀ (d n : Nat) (L : List Int), zs L.length = d -> d < n -> L.length + d <= 140737488355200 ->
  GK f k0 n a b c L.length x y w (pu .u8 L) = k0 a b c (L.length + d) x y w (pu .u8 (L ++ List.replicate d 0))
 | 0, n + 1, L, hd, hn, hL => by
   simp only [GK, Jbk, Jer]
   refine (Jd (by simp [zs] at hd ⊢; omega)).trans ?_
   simp
 | d + 1, n + 1, L, hd, hn, hL => by
   have hlt : d + 1 < 64 := by rw [← hd]; unfold zs; omega
   have c3 : Je (L.length + 1) 1 = true := by simp [Je]; omega
   simp only [GK, Jbk, Jer, c3, Bool.and_true, cond_true, Yd]
   refine (Ja (by simp [zs] at hd ⊢; omega)).trans ?_
   rw [List.take_of_length_le (Nat.le_refl _)]
   have := Jzn f a b c x y w k0 d n (L ++ [0]) (by simp [zs] at hd ⊢; omega) (by omega) (by simp; omega)
   simp only [List.length_append, List.length_cons, List.length_nil, Nat.zero_add, J9] at this
   refine this.trans ?_
   rw [show L.length + 1 + d = L.length + (d + 1) from by omega, List.replicate_succ]
   simp
def JwU (N : Int) (i : Nat) : Int := IntKind.u8.wrap (JV .u64 N (56 - 8 * (i : Int)))
theorem Jzo (f : Nat) (N : Int) (x y w : List PV) (k0 : Nat -> List PV -> List PV -> List PV -> List PV -> OR) (L : List Int) (hL : L.length <= 140737488355300) : ∀ (d i n : Nat), i + d = 8 -> d < n ->
  GL f k0 n (L.length + i) N (7 - (i : Int)) x y w (pu .u8 (L ++ (List.range i).map (JwU N))) = k0 (L.length + 8) x y w (pu .u8 (L ++ (List.range 8).map (JwU N)))
 | 0, i, n + 1, h, hn => by
   obtain rfl : i = 8 := by omega
   simp only [GL, Jbm]
   exact Jd (by decide)
 | d + 1, i, n + 1, h, hn => by
   have h1 : IntKind.i64.wrap (7 - (i : Int) - 1) = 7 - ((i + 1 : Nat) : Int) := by rw [wrap_i64 (by omega) (by omega)]; omega
   have h8 : IntKind.u64.wrap (7 - (i : Int)) = 7 - (i : Int) := by rw [QS]; omega
   have h9 : IntKind.u64.wrap (8 * (7 - (i : Int))) = 56 - 8 * (i : Int) := by rw [QS]; omega
   have c1 : decide (7 - (i : Int) >= 0) = true := by simp; omega
   have c2 : decide (0 <= 56 - 8 * (i : Int)) = true := by simp; omega
   have c3 : Je (L.length + i + 1) 1 = true := by simp [Je]; omega
   have hlen : (L ++ (List.range i).map (JwU N)).length = L.length + i := by simp
   simp only [GL, Jbm, h1, h8, h9, c1, c2, c3, Bool.and_true, cond_true, Yd]
   rw [List.take_of_length_le (by omega)]
   have := Jzo f N x y w k0 L hL d (i + 1) n (by omega) (by omega)
   rw [List.range_succ, List.map_append, ← List.append_assoc, J9] at this
   exact this
theorem Jdw (P : List Int) (q j : Nat) (hj : j < 64) : ((P.drop (64 * q)).take 64).getD j 0 = P.getD (64 * q + j) 0 := by
 simp [List.getD_eq_getElem?_getD, hj, List.getElem?_drop]
theorem Jzp (P : List Int) (q : Nat) (hq : 64 * q + 64 <= P.length) (hP : P.length <= 140737488356000) (T : List Int) (hT : T.length = 64) (f : Nat) (x y w : List PV) (k0 : Nat -> Int -> List PV -> List PV -> List PV -> List PV -> List PV -> OR) : ∀ (d i n : Nat), i + d = 16 -> d < n ->
  GM f k0 n P.length ((64 * q : Nat) : Int) (i : Int) x y w (pu .u8 P) (pu .u32 (QN (word ((P.drop (64 * q)).take 64)) T i)) = k0 P.length ((64 * q : Nat) : Int) x y w (pu .u8 P) (pu .u32 (QN (word ((P.drop (64 * q)).take 64)) T 16))
 | 0, i, n + 1, h, hn => by
   obtain rfl : i = 16 := by omega
   simp only [GM, Jbn, W5, W4, W3]
   exact Jd (by decide)
 | d + 1, i, n + 1, h, hn => by
   have h4 : IntKind.i64.wrap (4 * (i : Int)) = ((4 * i : Nat) : Int) := by rw [wrap_i64 (by omega) (by omega)]; omega
   have h40 : IntKind.i64.wrap (((64 * q : Nat) : Int) + ((4 * i : Nat) : Int)) = ((64 * q + 4 * i : Nat) : Int) := by rw [wrap_i64 (by omega) (by omega)]; omega
   have h41 : IntKind.i64.wrap (((64 * q + 4 * i : Nat) : Int) + 1) = ((64 * q + (4 * i + 1) : Nat) : Int) := by rw [wrap_i64 (by omega) (by omega)]; omega
   have h42 : IntKind.i64.wrap (((64 * q + 4 * i : Nat) : Int) + 2) = ((64 * q + (4 * i + 2) : Nat) : Int) := by rw [wrap_i64 (by omega) (by omega)]; omega
   have h43 : IntKind.i64.wrap (((64 * q + 4 * i : Nat) : Int) + 3) = ((64 * q + (4 * i + 3) : Nat) : Int) := by rw [wrap_i64 (by omega) (by omega)]; omega
   have h5 : IntKind.i64.wrap ((i : Int) + 1) = ((i + 1 : Nat) : Int) := by rw [wrap_i64 (by omega) (by omega)]; omega
   simp only [GM, Jbn, W5, W4, W3, h4, h40, h41, h42, h43, h5, Int.toNat_natCast, Nat.zero_add, Js8, zi]
   rw [J6 (by omega), J6 (by omega), J6 (by omega), J6 (by omega), QD (by omega), QD (by omega), QD (by omega), QD (by omega), Xp]
   refine (Ja (by simp; omega)).trans ?_
   refine (Ja (by simp only [Bool.and_true, Bool.and_eq_true, decide_eq_true_eq]; omega)).trans ?_
   refine (Ja rfl).trans ?_
   refine (Ja (by simp only [Bool.and_true, Bool.and_eq_true, decide_eq_true_eq]; omega)).trans ?_
   refine (Ja rfl).trans ?_
   refine (Ja (by simp only [Bool.and_true, Bool.and_eq_true, decide_eq_true_eq]; omega)).trans ?_
   refine (Ja rfl).trans ?_
   refine (Ja (by simp only [Bool.and_true, Bool.and_eq_true, decide_eq_true_eq]; omega)).trans ?_
   refine (Ja rfl).trans ?_
   refine (Ja (by simp only [Bool.and_true, Bool.and_eq_true, decide_eq_true_eq]; omega)).trans ?_
   have := Jzp P q hq hP T hT f x y w k0 d (i + 1) n (by omega) (by omega)
   rw [← QM _ T i (by omega), word, Jdw P q _ (by omega), Jdw P q _ (by omega), Jdw P q _ (by omega), Jdw P q _ (by omega)] at this
   exact this
def Gg (bs T : List Int) (i : Nat) : List Int := QV bs i ++ T.drop (16 + i)
theorem Jin (bs T : List Int) (hT : T.length = 64) (i : Nat) (h : i <= 48) : (Gg bs T i).length = 64 := by simp [Gg, Qe, hT]; omega
theorem VQ (bs T : List Int) (i j : Nat) (h : j < 16 + i) : (Gg bs T i).getD j 0 = (QV bs i).getD j 0 := by
 simp only [Gg, List.getD_eq_getElem?_getD]
 rw [List.getElem?_append_left (by rw [Qe]; exact h)]
theorem Jqy (bs T : List Int) (hT : T.length = 64) (i : Nat) (h : i < 48) (x : Int) : (Gg bs T i).set (i + 16) x = (QV bs i ++ [x]) ++ T.drop (16 + (i + 1)) := by
 rw [Gg, List.set_append_right _ _ (by rw [Qe]; omega), Qe, List.drop_eq_getElem_cons (by omega), show i + 16 - (16 + i) = 0 from by omega, List.set_cons_zero]
 simp [Nat.add_assoc]
theorem JwV (w16 w15 w7 w2 : Int) : ww (ww (ww (sg1 w2 + w7) + sg0 w15) + w16) = JA9 w16 w15 w7 w2 := by
 simp only [JA9, ww, Jjz]; omega
theorem Jzq (bs T : List Int) (hT : T.length = 64) (f : Nat) (l : Nat) (p : Int) (x y w e : List PV) (k0 : Nat -> Int -> List PV -> List PV -> List PV -> List PV -> List PV -> OR) : ∀ (d i n : Nat), i + d = 48 -> d < n ->
  GN f k0 n l p ((i + 16 : Nat) : Int) x y w e (pu .u32 (Gg bs T i)) = k0 l p x y w e (pu .u32 (Qp bs))
 | 0, i, n + 1, h, hn => by
   obtain rfl : i = 48 := by omega
   simp only [GN, Jbo, W7, W6]
   refine (Jd (by decide)).trans ?_
   rw [Gg, List.drop_of_length_le (by omega), List.append_nil]; rfl
 | d + 1, i, n + 1, h, hn => by
   have h15 : IntKind.i64.wrap (((i + 16 : Nat) : Int) - 15) = ((i + 1 : Nat) : Int) := by rw [wrap_i64 (by omega) (by omega)]; omega
   have h2 : IntKind.i64.wrap (((i + 16 : Nat) : Int) - 2) = ((i + 14 : Nat) : Int) := by rw [wrap_i64 (by omega) (by omega)]; omega
   have h16 : IntKind.i64.wrap (((i + 16 : Nat) : Int) - 16) = ((i : Nat) : Int) := by rw [wrap_i64 (by omega) (by omega)]; omega
   have h7 : IntKind.i64.wrap (((i + 16 : Nat) : Int) - 7) = ((i + 9 : Nat) : Int) := by rw [wrap_i64 (by omega) (by omega)]; omega
   have h1 : IntKind.i64.wrap (((i + 16 : Nat) : Int) + 1) = ((i + 1 + 16 : Nat) : Int) := by rw [wrap_i64 (by omega) (by omega)]; omega
   have hl := Jin bs T hT i (by omega)
   simp only [GN, Jbo, W7, W6, h15, h2, h16, h7, h1, Int.toNat_natCast, zi, Ye]
   rw [J6 (by omega), J6 (by omega), J6 (by omega), J6 (by omega), QD (by omega), QD (by omega), QD (by omega), QD (by omega), Xp]
   refine (Ja (by simp; omega)).trans ?_
   refine (Ja (by simp; omega)).trans ?_
   refine (Ja rfl).trans ?_
   refine (Ja (by simp; omega)).trans ?_
   refine (Ja rfl).trans ?_
   refine (Ja (by simp; omega)).trans ?_
   refine (Ja rfl).trans ?_
   refine (Ja (by simp; omega)).trans ?_
   refine (Ja rfl).trans ?_
   refine (Ja (by simp; omega)).trans ?_
   have := Jzq bs T hT f l p x y w e k0 d (i + 1) n (by omega) (by omega)
   rw [VQ bs T i i (by omega), VQ bs T i (i + 1) (by omega), VQ bs T i (i + 9) (by omega), VQ bs T i (i + 14) (by omega), Jqy bs T hT i (by omega)]
   have hn := JwV ((QV bs i).getD i 0) ((QV bs i).getD (i + 1) 0) ((QV bs i).getD (i + 9) 0) ((QV bs i).getD (i + 14) 0)
   rw [Gg, QV, ← hn] at this
   exact this
theorem Jzr (W s : List Int) (hW : W.length = 64) (hs : s.length = 8) (f : Nat) (l : Nat) (p : Int) (x w e : List PV) (k0 : Nat -> Int -> List PV -> List PV -> List PV -> List PV -> List PV -> List PV -> OR) : ∀ (d i n : Nat), i + d = 64 -> d < n ->
  GO f k0 n l p (i : Int) x (pu .u32 kks) w e (pu .u32 W) (pu .u32 (Jch W s i)) = k0 l p x (pu .u32 kks) w e (pu .u32 W) (pu .u32 (Jch W s 64))
 | 0, i, n + 1, h, hn => by
   obtain rfl : i = 64 := by omega
   simp only [GO, Jbp, Zt]
   exact Jd (by decide)
 | d + 1, i, n + 1, h, hn => by
   have hl := Yj W s hs i
   have h1 : IntKind.i64.wrap ((i : Int) + 1) = ((i + 1 : Nat) : Int) := by rw [wrap_i64 (by omega) (by omega)]; omega
   have hk : (pu .u32 kks).getD i .top = .sc (.int .u32 (kks.getD i 0)) := ZW (by show i < 64; omega)
   have hw : (pu .u32 W).getD i .top = .sc (.int .u32 (W.getD i 0)) := ZW (by omega)
   have c1 : decide ((i : Int) < 64) = true := by simp; omega
   have c2 : decide (0 <= (i : Int)) = true := by simp
   have c3 : decide ((i : Int) < zi 64) = true := by simp; omega
   simp only [GO, Jbp, Zt, Ye, Int.toNat_natCast, h1, hk, hw, c1, c2, c3, X1 hl 0 (by omega), X1 hl 1 (by omega), X1 hl 2 (by omega), X1 hl 3 (by omega), X1 hl 4 (by omega), X1 hl 5 (by omega), X1 hl 6 (by omega), X1 hl 7 (by omega), PV.isInt, PV.int, decide_true, Bool.and_true, cond_true]
   exact Jzr W s hW hs f l p x w e k0 d (i + 1) n (by omega) (by omega)
theorem Jzs (t s : List Int) (ht : t.length = 8) (hs : s.length = 8) (f : Nat) (l : Nat) (p : Int) (x y e u : List PV) (k0 : Nat -> Int -> List PV -> List PV -> List PV -> List PV -> List PV -> OR) : ∀ (d i n : Nat), i + d = 8 -> d < n ->
  GP f k0 n l p (i : Int) x y (pu .u32 (QN (fun j => ww (t.getD j 0 + s.getD j 0)) s i)) e u (pu .u32 t) = k0 l p x y (pu .u32 ((List.range 8).map fun j => ww (t.getD j 0 + s.getD j 0))) e u
 | 0, i, n + 1, h, hn => by
   obtain rfl : i = 8 := by omega
   simp only [GP, Jbq]
   refine (Jd (by decide)).trans ?_
   have := WV (fun j => ww (t.getD j 0 + s.getD j 0)) s
   rw [hs] at this; rw [this]
 | d + 1, i, n + 1, h, hn => by
   have hl : (QN (fun j => ww (t.getD j 0 + s.getD j 0)) s i).length = 8 := by rw [JaN _ _ _ (by omega), hs]
   have h1 : IntKind.i64.wrap ((i : Int) + 1) = ((i + 1 : Nat) : Int) := by rw [wrap_i64 (by omega) (by omega)]; omega
   have c1 : decide ((i : Int) < 8) = true := by simp; omega
   have c2 : decide (0 <= (i : Int)) = true := by simp
   have c3 : decide ((i : Int) < zi 8) = true := by simp; omega
   have g1 : ((i : Int)).toNat = i := by omega
   simp only [GP, Jbq, Ye, g1, h1, c1, c2, c3, X1 hl i (by omega), X1 ht i (by omega), Jgn _ s i (by omega), PV.isInt, PV.int, decide_true, Bool.and_true, cond_true, Xp]
   have := Jzs t s ht hs f l p x y e u k0 d (i + 1) n (by omega) (by omega)
   rw [← QM _ s i (by omega), Int.add_comm (t.getD i 0)] at this
   exact this
theorem JIW (s : List Int) (i : Nat) : ZH s (4 * i) = IntKind.u8.wrap (JV .u32 (s.getD i 0) 24) := by
 rw [ZH, show 4 * i / 4 = i from by omega, show 4 * i % 4 = 0 from by omega]; rfl
theorem JIX (s : List Int) (i : Nat) : ZH s (4 * i + 1) = IntKind.u8.wrap (JV .u32 (s.getD i 0) 16) := by
 rw [ZH, show (4 * i + 1) / 4 = i from by omega, show (4 * i + 1) % 4 = 1 from by omega]; rfl
theorem JIY (s : List Int) (i : Nat) : ZH s (4 * i + 2) = IntKind.u8.wrap (JV .u32 (s.getD i 0) 8) := by
 rw [ZH, show (4 * i + 2) / 4 = i from by omega, show (4 * i + 2) % 4 = 2 from by omega]; rfl
theorem JIZ (s : List Int) (i : Nat) : ZH s (4 * i + 3) = IntKind.u8.wrap (s.getD i 0) := by
 rw [ZH, show (4 * i + 3) / 4 = i from by omega, show (4 * i + 3) % 4 = 3 from by omega]
 have : JV .u32 (s.getD i 0) (24 - 8 * ((3 : Nat) : Int)) = s.getD i 0 := by
  have h0 : (24 - 8 * ((3 : Nat) : Int)) = 0 := by decide
  rw [h0]; simp [JV]
 rw [this]
theorem Jzt (s : List Int) (hs : s.length = 8) (f : Nat) (k0 : List PV -> List PV -> OR) (a : List PV) (t : List Int) (ht : t.length = 32) : ∀ (d i n : Nat), i + d = 8 -> d < n ->
  GR f k0 n (i : Int) a (pu .u32 s) (pu .u8 (QN (ZH s) t (4 * i))) = k0 a (pu .u8 (Jr9 s))
 | 0, i, n + 1, h, hn => by
   obtain rfl : i = 8 := by omega
   simp only [GR, Jbs]
   refine (Jd (by decide)).trans ?_
   have := WV (ZH s) t
   rw [ht] at this; rw [show 4 * 8 = 32 from rfl, this]; rfl
 | d + 1, i, n + 1, h, hn => by
   have h1 : IntKind.i64.wrap ((i : Int) + 1) = ((i + 1 : Nat) : Int) := by rw [wrap_i64 (by omega) (by omega)]; omega
   have h4 : IntKind.i64.wrap (4 * (i : Int)) = ((4 * i : Nat) : Int) := by rw [wrap_i64 (by omega) (by omega)]; omega
   have h41 : IntKind.i64.wrap (((4 * i : Nat) : Int) + 1) = ((4 * i + 1 : Nat) : Int) := by rw [wrap_i64 (by omega) (by omega)]; omega
   have h42 : IntKind.i64.wrap (((4 * i : Nat) : Int) + 2) = ((4 * i + 2 : Nat) : Int) := by rw [wrap_i64 (by omega) (by omega)]; omega
   have h43 : IntKind.i64.wrap (((4 * i : Nat) : Int) + 3) = ((4 * i + 3 : Nat) : Int) := by rw [wrap_i64 (by omega) (by omega)]; omega
   have c1 : decide ((i : Int) < 8) = true := by simp; omega
   have c2 : decide (0 <= (i : Int)) = true := by simp
   have c3 : decide ((i : Int) < zi 8) = true := by simp; omega
   have b0 : (decide (0 <= ((4 * i : Nat) : Int)) && decide (((4 * i : Nat) : Int) < zi 32) && true) = true := by simp; omega
   have b1 : (decide (0 <= ((4 * i + 1 : Nat) : Int)) && decide (((4 * i + 1 : Nat) : Int) < zi 32) && true) = true := by simp; omega
   have b2 : (decide (0 <= ((4 * i + 2 : Nat) : Int)) && decide (((4 * i + 2 : Nat) : Int) < zi 32) && true) = true := by simp; omega
   have b3 : (decide (0 <= ((4 * i + 3 : Nat) : Int)) && decide (((4 * i + 3 : Nat) : Int) < zi 32) && true) = true := by simp; omega
   have g1 : ((i : Int)).toNat = i := by omega
   have g2 : (((4 * i : Nat) : Int)).toNat = 4 * i := by omega
   have g3 : (((4 * i + 1 : Nat) : Int)).toNat = 4 * i + 1 := by omega
   have g4 : (((4 * i + 2 : Nat) : Int)).toNat = 4 * i + 2 := by omega
   have g5 : (((4 * i + 3 : Nat) : Int)).toNat = 4 * i + 3 := by omega
   simp only [GR, Jbs, h1, h4, h41, h42, h43, b0, b1, b2, b3, g1, g2, g3, g4, g5, Ye, c1, c2, c3, X1 hs i (by omega), PV.isInt, PV.int, decide_true, Bool.and_true, cond_true, Xp]
   have := Jzt s hs f k0 a t ht d (i + 1) n (by omega) (by omega)
   rw [show 4 * (i + 1) = 4 * i + 3 + 1 from by omega, ← QM (ZH s) t (4 * i + 3) (by omega), ← QM (ZH s) t (4 * i + 2) (by omega), ← QM (ZH s) t (4 * i + 1) (by omega), ← QM (ZH s) t (4 * i) (by omega), JIW, JIX, JIY, JIZ] at this
   exact this
theorem Jzu (P : List Int) (m : Nat) (hP : P.length = 64 * m) (hb : P.length <= 140737488356000) (f : Nat) (hf : 100 <= f) (x : List PV) (k0 : List PV -> List PV -> OR) : ∀ (d i n : Nat) (T : List Int), i + d = m -> d < n -> T.length = 64 ->
  GQ f k0 n P.length ((64 * i : Nat) : Int) x (pu .u32 kks) (pu .u32 (XW iv P i)) (pu .u8 P) (pu .u32 T) = k0 x (pu .u32 (XW iv P m))
 | 0, i, n + 1, T, h, hn, hT => by
   obtain rfl : i = m := by omega
   simp only [GQ, Jbr]
   exact Jd (by simp [zi]; omega)
 | d + 1, i, n + 1, T, h, hn, hT => by
   have hfl := Xx iv P rfl i
   simp only [GQ, Jbr]
   refine (Ja (by simp [zi]; omega)).trans ?_
   have e3 := fun kk => Jzp P i (by omega) hb T hT f x (pu .u32 kks) (pu .u32 (XW iv P i)) kk 16 0 f (by omega) (by omega)
   have e4 := fun kk => Jzq ((P.drop (64 * i)).take 64) T hT f P.length ((64 * i : Nat) : Int) x (pu .u32 kks) (pu .u32 (XW iv P i)) (pu .u8 P) kk 48 0 f (by omega) (by omega)
   have hW : (Qp ((P.drop (64 * i)).take 64)).length = 64 := Qe _ 48
   have e5 := fun kk => Jzr (Qp ((P.drop (64 * i)).take 64)) (XW iv P i) hW hfl f P.length ((64 * i : Nat) : Int) x (pu .u32 (XW iv P i)) (pu .u8 P) kk 64 0 f (by omega) (by omega)
   have e6 := fun kk => Jzs (Jch (Qp ((P.drop (64 * i)).take 64)) (XW iv P i) 64) (XW iv P i) (Yj _ _ hfl 64) hfl f P.length ((64 * i : Nat) : Int) x (pu .u32 kks) (pu .u8 P) (pu .u32 (Qp ((P.drop (64 * i)).take 64))) kk 8 0 f (by omega) (by omega)
   have h0 : QN (word ((P.drop (64 * i)).take 64)) T 16 = Gg ((P.drop (64 * i)).take 64) T 0 := rfl
   rw [Wc] at e6
   simp only [Wc] at e3
   refine (e3 _).trans ?_
   rw [h0]
   refine (e4 _).trans ?_
   refine (e5 _).trans ?_
   refine (e6 _).trans ?_
   have h1 : IntKind.i64.wrap (((64 * i : Nat) : Int) + 64) = ((64 * (i + 1) : Nat) : Int) := by rw [wrap_i64 (by omega) (by omega)]; omega
   rw [h1]
   exact Jzu P m hP hb f hf x k0 d (i + 1) n (Qp ((P.drop (64 * i)).take 64)) (by omega) (by omega) hW
theorem JC6 (bs : List Int) (hb : bs.length <= 140737488355000) (nl fl : Bool) (k : KR) : g51 ((Q1 bs).length / 64 + 100) nl fl (pu .u8 bs) k = k ⟨.ar 37 (pu .u8 (JX bs)), [], []⟩ := by
 rw [Jdp]
 have hlen : (Q1 bs).length = bs.length + 1 + zs (bs.length + 1) + 8 := by simp [Q1, JvZ]; omega
 have hz : zs (bs.length + 1) < 64 := by unfold zs; omega
 have h64 : (Q1 bs).length = 64 * ((Q1 bs).length / 64) := JcY bs
 generalize hf : (Q1 bs).length / 64 + 100 = f
 refine (Ja (by simp [Je]; omega)).trans ?_
 refine (Ja (by simp [Je]; omega)).trans ?_
 have hL : List.take (0 + (pu .u8 bs).length) ([] ++ pu .u8 bs) ++ [PV.sc (Value.int IntKind.u8 128)] = pu .u8 (bs ++ [128]) := by
  rw [List.take_of_length_le (by simp)]; simp
 rw [hL]
 have e0 := fun kk x y w => Jzn f nl fl (pu .u8 bs) x y w kk (zs (bs.length + 1)) f (bs ++ [128]) (by simp) (by omega) (by simp; omega)
 simp only [List.length_append, List.length_cons, List.length_nil, Nat.zero_add] at e0
 have hl1 : 0 + (pu .u8 bs).length + 1 = bs.length + 1 := by simp
 rw [hl1]
 refine (e0 _ _ _ _).trans ?_
 have e1 := fun kk x y w => Jzo f (IntKind.u64.wrap (IntKind.u64.wrap (zi (pu .u8 bs).length) * 8)) x y w kk (bs ++ [128] ++ List.replicate (zs (bs.length + 1)) 0) (by simp; omega) 8 0 f (by omega) (by omega)
 have hl2 : (bs ++ [128] ++ List.replicate (zs (bs.length + 1)) 0).length = bs.length + 1 + zs (bs.length + 1) := by simp; omega
 rw [hl2] at e1
 simp only [List.range_zero, List.map_nil, List.append_nil, Nat.add_zero] at e1
 refine (e1 _ _ _ _).trans ?_
 have hPd : bs ++ [128] ++ List.replicate (zs (bs.length + 1)) 0 ++ (List.range 8).map (JwU (IntKind.u64.wrap (IntKind.u64.wrap (zi (pu .u8 bs).length) * 8))) = Q1 bs := by
  rw [JI]; rfl
 rw [hPd, ← hlen]
 have e2 := fun kk x => Jzu (Q1 bs) ((Q1 bs).length / 64) h64 (by omega) f (by omega) x kk ((Q1 bs).length / 64) 0 f (List.replicate 64 0) (by omega) (by omega) (by simp)
 refine (e2 _ _).trans ?_
 have hfl := Xx iv (Q1 bs) rfl ((Q1 bs).length / 64)
 have e7 := fun kk a => Jzt (XW iv (Q1 bs) ((Q1 bs).length / 64)) hfl f kk a (List.replicate 32 0) (by simp) 8 0 f (by omega) (by omega)
 simp only [Nat.mul_zero, Wc] at e7
 exact e7 _ _
def JmY : Jz
 | [.ro 5 nl fl b], [], k => bif Jl .u8 b && decide (b.length <= 140737488355000) then k ⟨.ar 37 (pu .u8 (JX (JD b))), [], []⟩ else none
 | _, _, _ => none
def JwW : Sig := { own := [], run := JmY }
theorem Js9 : Jc tau Try.prog 51 JwW := Jhg Jn Zm Jo JIU JIV (fun n => JwL (Je7 n) (Je8 n) (Je9 n) (Jfa n)) [] 0 [] JmY (fun n => JNC n) fun xs es k res hr => by
 unfold JmY at hr
 split at hr
 · rename_i nl fl l
   obtain ⟨hc, hr⟩ := Jv hr
   simp only [Bool.and_eq_true, decide_eq_true_eq] at hc
   refine ⟨rfl, (Q1 (JD l)).length / 64 + 100, 0, (e51 _ _ _ _ _).trans ?_⟩
   have he := Qy hc.1
   have := JC6 (JD l) (by simpa using hc.2) nl fl k
   rw [← he] at this
   rw [this]; exact hr
 · cases hr
def N31 : Nat := 53
def F31 : Fns := Jt 51 JwW (F0)
theorem Jta : Jq tau Try.prog F31 := (Js).add Js9 JC5
def Jpi : Code := Qd (Try.f31.body.get!) [1, 1, 1, 1, 0, 1, 0, 0]
def Jfb : Nm := [(1, .any), (4, .any), (5, .any), (7, .any), (8, .any), (9, .any)]
def JmZ : Nm := [(1, .any), (4, .any), (7, .any), (8, .any)]
def Jtb : An := (.seq (.seq .leaf (.cond .leaf .leaf)) (.seq (.block none .leaf) .leaf))
def JwX (r0 : Qr) : An := (.seq .leaf (.seq .leaf (.seq (.seq .leaf (.cond (.seq .leaf .leaf) .leaf)) (.seq .leaf (.seq (.seq .leaf (.block none (.sum Jfb N31 r0))) (.seq .leaf (.seq .leaf .leaf)))))))
def Jbu (f : Nat) (rc : Bool -> Bool -> List PV -> Int -> List PV -> List PV -> List PV -> List PV -> OR) (k0 : Bool -> Bool -> List PV -> List PV -> List PV -> List PV -> OR) (v0 v1 : Bool) (v2 : List PV) (v3 : Int) (v4 v5 v6 v7 : List PV) : OR := bif decide (v3 < 64) then bif decide (0 <= v3) && decide (v3 < zi 64) && true then bif PV.isInt IntKind.u8 (Jr (v5.getD (0 + v3.toNat) PV.top) []) && true then bif decide (0 <= v3) && decide (v3 < zi 64) && true then bif PV.isInt IntKind.u8 (Jr (v5.getD (0 + v3.toNat) PV.top) []) && true then bif decide (0 <= v3) && decide (v3 < zi 64) && true then bif decide (0 <= v3) && decide (v3 < zi 64) && true then rc v0 v1 v2 (IntKind.i64.wrap (v3 + 1)) v4 v5 (v6.set (0 + v3.toNat) (.sc (.int .u8 (JM BinOp.xor IntKind.u8 (Jr (v5.getD (0 + v3.toNat) PV.top) []).int 54)))) (v7.set (0 + v3.toNat) (.sc (.int .u8 (JM BinOp.xor IntKind.u8 (Jr (v5.getD (0 + v3.toNat) PV.top) []).int 92)))) else none else none else none else none else none else none else k0 v0 v1 v2 v4 v6 v7
def X2 (f : Nat) (k0 : Bool -> Bool -> List PV -> List PV -> List PV -> List PV -> OR) : Nat -> Bool -> Bool -> List PV -> Int -> List PV -> List PV -> List PV -> List PV -> OR
 | 0, _, _, _, _, _, _, _, _ => none
 | n + 1, v0, v1, v2, v3, v4, v5, v6, v7 => Jbu f (X2 f k0 n) k0 v0 v1 v2 v3 v4 v5 v6 v7
def Jbv (k : Kont) := fun x0 x1 x2 x3 x4 x5 => k (Ex.exit 0) (Ji JmZ N31 [.ro 5 x0 x1 x2, .ptr 864 [], .ow 5 865 [] 0 64 (some 64), .ow 5 866 [] 0 64 (some 64)] [(864, .box false 37 (PV.ar 37 x3)), (865, .vec false 5 false x4), (866, .vec false 5 false x5)])
def Jm0 (f : Nat) (k : Kont) (n : Nat) (v0 v1 : Bool) (v2 : List PV) (v3 : Int) (v4 v5 v6 v7 : List PV) : OR := Jy tau 0 Jfb (fun s k => ev tau F31 0 0 Jpi (Jtb ) s k) n (Ji Jfb N31 [.ro 5 v0 v1 v2, .ptr 864 [], .ow 5 865 [] 0 64 (some 64), .ow 5 866 [] 0 64 (some 64), .ow 5 867 [] 0 64 (some 64), .sc (.int .i64 v3)] [(864, .box false 37 (PV.ar 37 v4)), (865, .vec false 5 false v5), (866, .vec false 5 false v6), (867, .vec false 5 false v7)]) (JG tau 0 JmZ k)
theorem JwY (f : Nat) (k : Kont) (n : Nat) (v0 v1 : Bool) (v2 : List PV) (v3 : Int) (v4 v5 v6 v7 : List PV) : Jm0 f k (n + 1) v0 v1 v2 v3 v4 v5 v6 v7 = Jbu f (Jm0 f k n) (Jbv k) v0 v1 v2 v3 v4 v5 v6 v7 := by kernel_rfl
theorem Jpj (f : Nat) (k : Kont) : ∀ (n : Nat) (v0 v1 : Bool) (v2 : List PV) (v3 : Int) (v4 v5 v6 v7 : List PV), Jm0 f k n v0 v1 v2 v3 v4 v5 v6 v7 = X2 f (Jbv k) n v0 v1 v2 v3 v4 v5 v6 v7 | 0, _, _, _, _, _, _, _, _ => rfl | n + 1, v0, v1, v2, v3, v4, v5, v6, v7 => (JwY f k n v0 v1 v2 v3 v4 v5 v6 v7).trans (congrArg (fun r => Jbu f r (Jbv k) v0 v1 v2 v3 v4 v5 v6 v7) (by funext v0 v1 v2 v3 v4 v5 v6 v7; exact Jpj f k n v0 v1 v2 v3 v4 v5 v6 v7))
def Jfc (f : Nat) : List PV -> List (Nat × Ent) -> Kont -> OR
 | [.ro 5 v0 v1 v2, .ptr 864 [], .ow 5 865 [] 0 64 (some 64), .ow 5 866 [] 0 64 (some 64), .ow 5 867 [] 0 64 (some 64),
 PV.sc
  (Value.int IntKind.i64
   v3)], [(864, .box false 37 (PV.ar 37 v4)), (865, .vec false 5 false v5), (866, .vec false 5 false v6),
 (867,
  Ent.vec false 5 false
   v7)], k => X2 f (Jbv k) f v0 v1 v2 v3 v4 v5 v6 v7
 | _, _, _ => none
theorem JC7 (f : Nat) : Jf Jpi Jtb = [] := by kernel_rfl
theorem JC8 (f : Nat) : (Item.l Jpi Jfb N31 (Jfc f)).Ok tau Try.prog 0 := Ju Jn Jta Jo (x := Jtb) (nm2 := JmZ) (Jk _ _ (by rw [JC7 f]; intro q hq; cases hq)) fun vs hp k res hr => by
 unfold Jfc at hr
 split at hr
 · exact ⟨f, 0, (Jpj f _ f _ _ _ _ _ _ _ _ ).trans hr⟩
 · cases hr
abbrev Jcn := [PV.sc (.int .u8 0), PV.sc (.int .u8 0), PV.sc (.int .u8 0), PV.sc (.int .u8 0), PV.sc (.int .u8 0), PV.sc (.int .u8 0), PV.sc (.int .u8 0), PV.sc (.int .u8 0), PV.sc (.int .u8 0), PV.sc (.int .u8 0), PV.sc (.int .u8 0), PV.sc (.int .u8 0), PV.sc (.int .u8 0), PV.sc (.int .u8 0), PV.sc (.int .u8 0), PV.sc (.int .u8 0), PV.sc (.int .u8 0), PV.sc (.int .u8 0), PV.sc (.int .u8 0), PV.sc (.int .u8 0), PV.sc (.int .u8 0), PV.sc (.int .u8 0), PV.sc (.int .u8 0), PV.sc (.int .u8 0), PV.sc (.int .u8 0), PV.sc (.int .u8 0), PV.sc (.int .u8 0), PV.sc (.int .u8 0), PV.sc (.int .u8 0), PV.sc (.int .u8 0), PV.sc (.int .u8 0), PV.sc (.int .u8 0), PV.sc (.int .u8 0), PV.sc (.int .u8 0), PV.sc (.int .u8 0), PV.sc (.int .u8 0), PV.sc (.int .u8 0), PV.sc (.int .u8 0), PV.sc (.int .u8 0), PV.sc (.int .u8 0), PV.sc (.int .u8 0), PV.sc (.int .u8 0), PV.sc (.int .u8 0), PV.sc (.int .u8 0), PV.sc (.int .u8 0), PV.sc (.int .u8 0), PV.sc (.int .u8 0), PV.sc (.int .u8 0), PV.sc (.int .u8 0), PV.sc (.int .u8 0), PV.sc (.int .u8 0), PV.sc (.int .u8 0), PV.sc (.int .u8 0), PV.sc (.int .u8 0), PV.sc (.int .u8 0), PV.sc (.int .u8 0), PV.sc (.int .u8 0), PV.sc (.int .u8 0), PV.sc (.int .u8 0), PV.sc (.int .u8 0), PV.sc (.int .u8 0), PV.sc (.int .u8 0), PV.sc (.int .u8 0), PV.sc (.int .u8 0)]
abbrev Jtc := ([PV.sc (.int .u8 0), PV.sc (.int .u8 0), PV.sc (.int .u8 0), PV.sc (.int .u8 0), PV.sc (.int .u8 0), PV.sc (.int .u8 0), PV.sc (.int .u8 0), PV.sc (.int .u8 0), PV.sc (.int .u8 0), PV.sc (.int .u8 0), PV.sc (.int .u8 0), PV.sc (.int .u8 0), PV.sc (.int .u8 0), PV.sc (.int .u8 0), PV.sc (.int .u8 0), PV.sc (.int .u8 0), PV.sc (.int .u8 0), PV.sc (.int .u8 0), PV.sc (.int .u8 0), PV.sc (.int .u8 0), PV.sc (.int .u8 0), PV.sc (.int .u8 0), PV.sc (.int .u8 0), PV.sc (.int .u8 0), PV.sc (.int .u8 0), PV.sc (.int .u8 0), PV.sc (.int .u8 0), PV.sc (.int .u8 0), PV.sc (.int .u8 0), PV.sc (.int .u8 0), PV.sc (.int .u8 0), PV.sc (.int .u8 0)])
def g31 (f : Nat) (y0 y1 : Bool) (key : List PV) (y2 y3 : Bool) (text : List PV) (k : KR) : OR := bif decide (zi key.length > 64) then bif Jl IntKind.u8 key && decide (key.length <= 140737488355000) then X2 f (fun _ _ x2_0 _ x4_0 x5_0 => bif Je (64 + x2_0.length) 1 && true then bif Jl IntKind.u8 (List.take (64 + x2_0.length) (List.take 64 x4_0 ++ x2_0)) && decide ((List.take (64 + x2_0.length) (List.take 64 x4_0 ++ x2_0)).length <= 140737488355000) then bif Je (64 + (List.take 32 (pu IntKind.u8 (JX (JD (List.take (64 + x2_0.length) (List.take 64 x4_0 ++ x2_0)))))).length) 1 && true then bif Jl IntKind.u8 (List.take (64 + (List.take 32 (pu IntKind.u8 (JX (JD (List.take (64 + x2_0.length) (List.take 64 x4_0 ++ x2_0)))))).length) (List.take 64 x5_0 ++ List.take 32 (pu IntKind.u8 (JX (JD (List.take (64 + x2_0.length) (List.take 64 x4_0 ++ x2_0))))))) && decide ((List.take (64 + (List.take 32 (pu IntKind.u8 (JX (JD (List.take (64 + x2_0.length) (List.take 64 x4_0 ++ x2_0)))))).length) (List.take 64 x5_0 ++ List.take 32 (pu IntKind.u8 (JX (JD (List.take (64 + x2_0.length) (List.take 64 x4_0 ++ x2_0))))))).length <= 140737488355000) then k (Res.mk (.ar 37 (pu IntKind.u8 (JX (JD (List.take (64 + (List.take 32 (pu IntKind.u8 (JX (JD (List.take (64 + x2_0.length) (List.take 64 x4_0 ++ x2_0)))))).length) (List.take 64 x5_0 ++ List.take 32 (pu IntKind.u8 (JX (JD (List.take (64 + x2_0.length) (List.take 64 x4_0 ++ x2_0))))))))))) [] []) else none else none else none else none) f y2 y3 text (0) Jtc (List.take 64 (List.take 32 (pu IntKind.u8 (JX (JD key)))) ++ List.drop (0 + min (List.take 32 (pu IntKind.u8 (JX (JD key)))).length 64) Jcn) (Jcn) (Jcn) else none else X2 f (fun _ _ x2_1 _ x4_1 x5_1 => bif Je (64 + x2_1.length) 1 && true then bif Jl IntKind.u8 (List.take (64 + x2_1.length) (List.take 64 x4_1 ++ x2_1)) && decide ((List.take (64 + x2_1.length) (List.take 64 x4_1 ++ x2_1)).length <= 140737488355000) then bif Je (64 + (List.take 32 (pu IntKind.u8 (JX (JD (List.take (64 + x2_1.length) (List.take 64 x4_1 ++ x2_1)))))).length) 1 && true then bif Jl IntKind.u8 (List.take (64 + (List.take 32 (pu IntKind.u8 (JX (JD (List.take (64 + x2_1.length) (List.take 64 x4_1 ++ x2_1)))))).length) (List.take 64 x5_1 ++ List.take 32 (pu IntKind.u8 (JX (JD (List.take (64 + x2_1.length) (List.take 64 x4_1 ++ x2_1))))))) && decide ((List.take (64 + (List.take 32 (pu IntKind.u8 (JX (JD (List.take (64 + x2_1.length) (List.take 64 x4_1 ++ x2_1)))))).length) (List.take 64 x5_1 ++ List.take 32 (pu IntKind.u8 (JX (JD (List.take (64 + x2_1.length) (List.take 64 x4_1 ++ x2_1))))))).length <= 140737488355000) then k (Res.mk (.ar 37 (pu IntKind.u8 (JX (JD (List.take (64 + (List.take 32 (pu IntKind.u8 (JX (JD (List.take (64 + x2_1.length) (List.take 64 x4_1 ++ x2_1)))))).length) (List.take 64 x5_1 ++ List.take 32 (pu IntKind.u8 (JX (JD (List.take (64 + x2_1.length) (List.take 64 x4_1 ++ x2_1))))))))))) [] []) else none else none else none else none) f y2 y3 text (0) Jtc (List.take 64 key ++ List.drop (0 + min key.length 64) Jcn) (Jcn) (Jcn)
theorem e31 (f : Nat) (y0 y1 : Bool) (key : List PV) (y2 y3 : Bool) (text : List PV) (k : KR) : JJ tau F31 Try.f31 (Try.f31.body.get!) (JwX (Jfc f)) [.ro] 0 [.ro 5 y0 y1 key, .ro 5 y2 y3 text] [] k = g31 f y0 y1 key y2 y3 text k := by kernel_rfl
theorem JND (f : Nat) : Jf (Try.f31.body.get!) (JwX (Jfc f)) = [.l Jpi Jfb N31 (Jfc f)] := by kernel_rfl
theorem JNE (f : Nat) : ∀ q ∈ Jf (Try.f31.body.get!) (JwX (Jfc f)), q.Ok tau Try.prog 0 := by rw [JND f]; exact JL (JC8 f) (fun _ h => nomatch h)
theorem JI0 : Try.prog.funcs[31]? = some Try.f31 := by kernel_rfl
theorem JI1 : Try.f31.body = some (Try.f31.body.get!) := by kernel_rfl
theorem JI2 : Enters Try.prog 31 := enters_of JI0 (by kernel_rfl) JI1

-- FN slices.overlaps[[]byte]
-- EXT slices.overlaps[[]byte]



-- FN slices.Insert[[][]byte,[]byte]


-- FN (hmac.block).turned
def Zu (l : List Int) (x : Int) : List Int := l.map fun b => JM .xor .u8 b x
@[simp] theorem Jzv (l : List Int) (x : Int) : (Zu l x).length = l.length := by simp [Zu]
theorem Jtd (K : List Int) (hK : K.length = 64) (x : Int) : (List.range 64).map (fun j => JM .xor .u8 x (K.getD j 0)) = Zu K x := by
 apply List.ext_getElem
 · simp [hK]
 · intro i h1 h2
   have h1' : i < K.length := by simpa using h2
   simp only [List.getElem_map, List.getElem_range, Zu]
   rw [Gf, List.getD_eq_getElem?_getD, List.getElem?_eq_getElem h1']; rfl

-- FN hmac.Mac
theorem Jc6 (a b : List PV) : JD (a ++ b) = JD a ++ JD b := by simp [JD]
@[simp] theorem JI3 : JD [] = [] := rfl
def Jte (s : List Int) : List Int := s ++ List.replicate (64 - s.length) 0
def Jj8 (key : List Int) : List Int := if key.length > 64 then Jte (JX key) else Jte key
def Jtf (key text : List Int) : List Int := JX (Zu (Jj8 key) 92 ++ JX (Zu (Jj8 key) 54 ++ text))
def JfV : List Int -> List Int -> List Int := hid Jtf
theorem Jpk (key text : List Int) : JfV key text = Jtf key text := by rw [JfV, hid_eq]
theorem Jj9 (key text : List Int) : (JfV key text).length = 32 := by rw [Jpk]; exact Qu _
theorem Jc7 (key : List Int) : (Jj8 key).length = 64 := by
 unfold Jj8 Jte
 split
 · rw [List.length_append, Qu, List.length_replicate]
 · rw [List.length_append, List.length_replicate]; omega
def kbG (src : List PV) : List PV := [] ++ List.take 64 src ++ List.drop (0 + min src.length 64) (pu .u8 (List.replicate 64 0))
theorem Jtg (s : List Int) (h : s.length <= 64) : kbG (pu .u8 s) = pu .u8 (Jte s) := by
 unfold kbG Jte
 rw [JI, show 0 + min s.length 64 = s.length from by omega, Jog, List.drop_replicate, List.take_of_length_le (by simpa using h), List.nil_append, ← J9]
-- FN ref3.Mac
theorem JgF (K : List Int) (hK : K.length = 64) (x : Int) : (List.range 64).map (fun j => JM .xor .u8 (K.getD j 0) x) = Zu K x := by
 rw [← Jtd K hK x]
 apply List.map_congr_left
 intro j _
 exact Gf _ _ _
theorem Jzw (K : List Int) (hK : K.length = 64) (f : Nat) (k0 : Bool -> Bool -> List PV -> List PV -> List PV -> List PV -> OR) (tz tf : Bool) (text h : List PV) : ∀ (d i n : Nat), i + d = 64 -> d < n ->
  X2 f k0 n tz tf text (i : Int) h (pu .u8 K) (pu .u8 (QN (fun j => JM .xor .u8 (K.getD j 0) 54) (List.replicate 64 0) i)) (pu .u8 (QN (fun j => JM .xor .u8 (K.getD j 0) 92) (List.replicate 64 0) i)) = k0 tz tf text h (pu .u8 (Zu K 54)) (pu .u8 (Zu K 92))
 | 0, i, n + 1, hh, hn => by
   obtain rfl : i = 64 := by omega
   simp only [X2, Jbu]
   refine (Jd (by decide)).trans ?_
   have h1 := WV (fun j => JM .xor .u8 (K.getD j 0) 54) (List.replicate 64 0)
   have h2 := WV (fun j => JM .xor .u8 (K.getD j 0) 92) (List.replicate 64 0)
   rw [List.length_replicate] at h1 h2
   rw [h1, h2, JgF K hK, JgF K hK]
 | d + 1, i, n + 1, hh, hn => by
   have g1 : ((i : Int)).toNat = i := by omega
   have h1 : IntKind.i64.wrap ((i : Int) + 1) = ((i + 1 : Nat) : Int) := by rw [wrap_i64 (by omega) (by omega)]; omega
   have c0 : (decide (0 <= (i : Int)) && decide ((i : Int) < zi 64) && true) = true := by simp; omega
   simp only [X2, Jbu, g1, h1, Nat.zero_add, Jr]
   rw [J6 (by omega), QD (by omega), Xp, Xp]
   refine (Ja (by simp; omega)).trans ((Ja c0).trans ((Ja rfl).trans ((Ja c0).trans ((Ja rfl).trans ((Ja c0).trans ((Ja c0).trans ?_))))))
   have := Jzw K hK f k0 tz tf text h d (i + 1) n (by omega) (by omega)
   rw [← QM _ _ i (by simp; omega), ← QM _ _ i (by simp; omega)] at this
   exact this
def VR (a b text : List PV) (k : KR) : OR :=
 bif Je (64 + text.length) 1 && true then
  bif Jl .u8 (List.take (64 + text.length) (List.take 64 a ++ text)) && decide ((List.take (64 + text.length) (List.take 64 a ++ text)).length <= 140737488355000) then
   bif Je (64 + (List.take 32 (pu .u8 (JX (JD (List.take (64 + text.length) (List.take 64 a ++ text)))))).length) 1 && true then
    bif Jl .u8 (List.take (64 + (List.take 32 (pu .u8 (JX (JD (List.take (64 + text.length) (List.take 64 a ++ text)))))).length) (List.take 64 b ++ List.take 32 (pu .u8 (JX (JD (List.take (64 + text.length) (List.take 64 a ++ text)))))))
      && decide ((List.take (64 + (List.take 32 (pu .u8 (JX (JD (List.take (64 + text.length) (List.take 64 a ++ text)))))).length) (List.take 64 b ++ List.take 32 (pu .u8 (JX (JD (List.take (64 + text.length) (List.take 64 a ++ text))))))).length <= 140737488355000) then
     k ⟨.ar 37 (pu .u8 (JX (JD (List.take (64 + (List.take 32 (pu .u8 (JX (JD (List.take (64 + text.length) (List.take 64 a ++ text)))))).length) (List.take 64 b ++ List.take 32 (pu .u8 (JX (JD (List.take (64 + text.length) (List.take 64 a ++ text)))))))))), [], []⟩
    else none
   else none
  else none
 else none
theorem Jth (f : Nat) (kz kf : Bool) (key : List PV) (tz tf : Bool) (text : List PV) (k : KR) : g31 f kz kf key tz tf text k =
 (bif decide (zi key.length > 64) then
  bif Jl .u8 key && decide (key.length <= 140737488355000) then
   X2 f (fun _ _ t _ a b => VR a b t k) f tz tf text 0 (pu .u8 (List.replicate 32 0)) (kbG (List.take 32 (pu .u8 (JX (JD key))))) (pu .u8 (List.replicate 64 0)) (pu .u8 (List.replicate 64 0))
  else none
 else X2 f (fun _ _ t _ a b => VR a b t k) f tz tf text 0 (pu .u8 (List.replicate 32 0)) (kbG key) (pu .u8 (List.replicate 64 0)) (pu .u8 (List.replicate 64 0))) := by kernel_rfl
theorem Jm1 (K T : List Int) (hK : K.length = 64) (hT : T.length <= 1000000000) (k : KR) :
  VR (pu .u8 (Zu K 54)) (pu .u8 (Zu K 92)) (pu .u8 T) k = k ⟨.ar 37 (pu .u8 (JX (Zu K 92 ++ JX (Zu K 54 ++ T)))), [], []⟩ := by
 have e1 : List.take (64 + (pu .u8 T).length) (List.take 64 (pu .u8 (Zu K 54)) ++ pu .u8 T) = pu .u8 (Zu K 54 ++ T) := by
  rw [List.take_of_length_le (i := 64) (by simp [hK]), List.take_of_length_le (by simp [hK]), ← J9]
 have e2 : ∀ l : List Int, List.take 32 (pu .u8 (JX l)) = pu .u8 (JX l) := fun l => List.take_of_length_le (by simp [Qu])
 have e3 : ∀ l : List Int, List.take (64 + (pu .u8 (JX l)).length) (List.take 64 (pu .u8 (Zu K 92)) ++ pu .u8 (JX l)) = pu .u8 (Zu K 92 ++ JX l) := fun l => by
  rw [List.take_of_length_le (i := 64) (by simp [hK]), List.take_of_length_le (by simp [hK]), ← J9]
 unfold VR
 rw [e1, e2, e3, Ja (by simp [Je]; omega), Ja (by rw [JO, JI]; simp [hK]; omega), Ja (by simp [Je, Qu]), Ja (by rw [JO, JI]; simp [hK, Qu])]
 simp only [Q9]
def Jm2 : Jz
 | [.ro 5 kz kf key, .ro 5 tz tf text], [], k =>
  bif (Jl .u8 key && decide (key.length <= 1000000000)) && (Jl .u8 text && decide (text.length <= 1000000000)) then
   k ⟨.ar 37 (pu .u8 (JfV (JD key) (JD text))), [], []⟩ else none
 | _, _, _ => none
def JC9 : Sig := { own := [], run := Jm2 }
theorem JDa (kz kf : Bool) (key : List PV) (tz tf : Bool) (text : List PV) (k : KR) (a1 : Jl .u8 key = true) (a2 : key.length <= 1000000000) (h3 : Jl .u8 text = true) (h4 : text.length <= 1000000000) :
   g31 70 kz kf key tz tf text k = k ⟨.ar 37 (pu .u8 (JfV (JD key) (JD text))), [], []⟩ := by
 rw [Jth, Jpk, Jtf]
 have hi := Qy a1
 have ht := Qy h3
 have hL : ∀ K : List Int, K.length = 64 -> X2 70 (fun _ _ t _ a b => VR a b t k) 70 tz tf text 0 (pu .u8 (List.replicate 32 0)) (pu .u8 K) (pu .u8 (List.replicate 64 0)) (pu .u8 (List.replicate 64 0)) = k ⟨.ar 37 (pu .u8 (JX (Zu K 92 ++ JX (Zu K 54 ++ JD text)))), [], []⟩ := by
   intro K hK
   have := Jzw K hK 70 (fun _ _ t _ a b => VR a b t k) tz tf text (pu .u8 (List.replicate 32 0)) 64 0 70 (by omega) (by omega)
   rw [Wc, Wc] at this
   refine this.trans ?_
   have hm := Jm1 K (JD text) hK (by simpa using h4) k
   rw [← ht] at hm
   exact hm
 by_cases hc : key.length > 64
 · rw [Ja (by simp [zi]; omega), Ja (by simp [a1]; omega), List.take_of_length_le (by simp [Qu]), Jtg _ (by rw [Qu]; omega),
    hL _ (by rw [← Jc7 (JD key), Jj8, if_pos (by simpa using hc)]), Jj8, if_pos (by simpa using hc)]
 · have hl : (JD key).length <= 64 := by simp; omega
   rw [Jd (by simp [zi]; omega), hi, Jtg _ hl, Q9, hL _ (by rw [← Jc7 (JD key), Jj8, if_neg (by omega)]), Jj8, if_neg (by omega)]
theorem Jzx : Jc tau Try.prog 31 JC9 := Jc.mk' fun xs es k res hl hr => by
 change Jm2 xs es k = some res at hr
 unfold Jm2 at hr
 split at hr
 · rename_i kz kf key tz tf text
   obtain ⟨hc, hr⟩ := Jv hr
   simp only [Bool.and_eq_true, decide_eq_true_eq] at hc
   obtain ⟨⟨a1, a2⟩, h3, h4⟩ := hc
   exact J2 Jn Jta Jo JI0 JI1 (JwX (Jfc 70)) [.ro] 0 0 (JNE 70) hl rfl ((e31 70 kz kf key tz tf text k).trans ((JDa kz kf key tz tf text k a1 a2 h3 h4).trans hr))
 · cases hr
def F55 : Fns := Jt 99 JHr (Jt 31 JC9 (F0))
theorem JDb : Jq tau Try.prog F55 := ((Js).add Jzx JI2).add JHs JMP
def JDc : An := (.seq .leaf (.seq .leaf (.seq .leaf .leaf)))
abbrev Jfd (y0 : Int) (y1 : Int) (d_Id : Int) (y2 : Int) (y3 : List PV) (y4 : Int) (d_Op : List PV) (y7 : Int) (y8 : Int) := (List.take (dlB (DV.mk y0 y1 d_Id y2 y3 y4 d_Op y7 y8)).length (pu IntKind.u8 (dlB (DV.mk y0 y1 d_Id y2 y3 y4 d_Op y7 y8))))
def g55 (f : Nat) (k0_z k0_f : Bool) (k0 : List PV) (k1_z k1_f : Bool) (k1 : List PV) (k2_z k2_f : Bool) (k2 : List PV) (y0 y1 d_Id y2 : Int) (y3 : List PV) (y4 : Int) (y5 y6 : Bool) (d_Op : List PV) (y7 y8 : Int) (k : KR) : OR := bif dOk (DV.mk y0 y1 d_Id y2 y3 y4 d_Op y7 y8) then bif decide (0 <= y0) && decide (y0 < zi 3) && true then bif PV.isRo 5 (Jr (PV.st 31 [.ro 5 k0_z k0_f k0, .ro 5 k1_z k1_f k1, .ro 5 k2_z k2_f k2]) [y0.toNat]) && true then bif Jl IntKind.u8 (Jr (PV.st 31 [.ro 5 k0_z k0_f k0, .ro 5 k1_z k1_f k1, .ro 5 k2_z k2_f k2]) [y0.toNat]).els && decide ((Jr (PV.st 31 [.ro 5 k0_z k0_f k0, .ro 5 k1_z k1_f k1, .ro 5 k2_z k2_f k2]) [y0.toNat]).els.length <= 1000000000) && (Jl IntKind.u8 (Jfd y0 y1 d_Id y2 y3 y4 d_Op y7 y8) && decide ((Jfd y0 y1 d_Id y2 y3 y4 d_Op y7 y8).length <= 1000000000)) then k (Res.mk (.st 47 [.ro 5 false false (Jfd y0 y1 d_Id y2 y3 y4 d_Op y7 y8), .ar 37 (pu IntKind.u8 (JfV (JD (Jr (PV.st 31 [.ro 5 k0_z k0_f k0, .ro 5 k1_z k1_f k1, .ro 5 k2_z k2_f k2]) [y0.toNat]).els) (JD (Jfd y0 y1 d_Id y2 y3 y4 d_Op y7 y8))))]) [] []) else none else none else none else none
theorem e55 (f : Nat) (k0_z k0_f : Bool) (k0 : List PV) (k1_z k1_f : Bool) (k1 : List PV) (k2_z k2_f : Bool) (k2 : List PV) (y0 y1 d_Id y2 : Int) (y3 : List PV) (y4 : Int) (y5 y6 : Bool) (d_Op : List PV) (y7 y8 : Int) (k : KR) : JJ tau F55 Try.f55 (Try.f55.body.get!) JDc [.ro] 0 [.st 31 [.ro 5 k0_z k0_f k0, .ro 5 k1_z k1_f k1, .ro 5 k2_z k2_f k2], .st 53 [.st 42 [.sc (.int .i64 y0), .sc (.int .i64 y1)], .sc (.int .i64 d_Id), .sc (.int .i64 y2), .ar 37 y3, .sc (.int .i64 y4), .ro 113 y5 y6 d_Op, .st 42 [.sc (.int .i64 y7), .sc (.int .i64 y8)]]] [] k = g55 f k0_z k0_f k0 k1_z k1_f k1 k2_z k2_f k2 y0 y1 d_Id y2 y3 y4 y5 y6 d_Op y7 y8 k := by kernel_rfl
theorem JNF (f : Nat) : ∀ q ∈ Jf (Try.f55.body.get!) JDc, q.Ok tau Try.prog 0 := Jw (by kernel_rfl)
theorem JI4 : Try.prog.funcs[55]? = some Try.f55 := by kernel_rfl
theorem JI5 : Try.f55.body = some (Try.f55.body.get!) := by kernel_rfl
theorem JNG : Enters Try.prog 55 := enters_of JI4 (by kernel_rfl) JI5
def Jti : Jz
 | [.st 31 [.ro 5 k0_z k0_f k0, .ro 5 k1_z k1_f k1, .ro 5 k2_z k2_f k2], .st 53 [.st 42 [.sc (.int .i64 y0), .sc (.int .i64 y1)], .sc (.int .i64 d_Id), .sc (.int .i64 y2), .ar 37 y3, .sc (.int .i64 y4), .ro 113 y5 y6 d_Op, .st 42 [.sc (.int .i64 y7), .sc (.int .i64 y8)]]], [], k => g55 0 k0_z k0_f k0 k1_z k1_f k1 k2_z k2_f k2 y0 y1 d_Id y2 y3 y4 y5 y6 d_Op y7 y8 k
 | _, _, _ => none
def s55 : Sig := { own := [], run := Jti }
theorem JNH : Jc tau Try.prog 55 s55 := JN Jn JDb Jo JI4 JI5 JDc [.ro] 0 [] Jti (JNF 0) fun xs es k res hr => by
 unfold Jti at hr
 split at hr
 · exact ⟨rfl, 0, (e55 0 _ _ _ _ _ _ _ _ _ _ _ _ _ _ _ _ _ _ _ _  _).trans hr⟩
 · cases hr
def F16 : Fns := Jt 52 JBZ (Jt 51 JwW (F0))
theorem JDd : Jq tau Try.prog F16 := ((Js).add Js9 JC5).add Jy4 JHo
def JDe : An := (.seq .leaf (.seq .leaf .leaf))
abbrev Jio (prev : List PV) (y2 : List PV) (y3 : List PV) (e_At : Int) (e_Op : List PV) := (List.take (0 + (List.take 32 prev).length + (List.take (JY (EV.mk y2 y3 e_At e_Op)).length (pu IntKind.u8 (JY (EV.mk y2 y3 e_At e_Op)))).length) (List.take (0 + (List.take 32 prev).length) (List.take 32 prev) ++ List.take (JY (EV.mk y2 y3 e_At e_Op)).length (pu IntKind.u8 (JY (EV.mk y2 y3 e_At e_Op)))))
def g16 (f : Nat) (prev : List PV) (y0 y1 : Bool) (y2 y3 : List PV) (e_At : Int) (y4 y5 : Bool) (e_Op y6 y7 : List PV) (k : KR) : OR := bif Je (0 + (List.take 32 prev).length) 1 && true then bif eOk (EV.mk y2 y3 e_At e_Op) then bif Je (0 + (List.take 32 prev).length + (List.take (JY (EV.mk y2 y3 e_At e_Op)).length (pu IntKind.u8 (JY (EV.mk y2 y3 e_At e_Op)))).length) 1 && true then bif Jl IntKind.u8 (Jio prev y2 y3 e_At e_Op) && decide ((Jio prev y2 y3 e_At e_Op).length <= 140737488355000) then k (Res.mk (.ar 37 (pu IntKind.u8 (JX (JD (Jio prev y2 y3 e_At e_Op))))) [] []) else none else none else none else none
theorem e16 (f : Nat) (prev : List PV) (y0 y1 : Bool) (y2 y3 : List PV) (e_At : Int) (y4 y5 : Bool) (e_Op y6 y7 : List PV) (k : KR) : JJ tau F16 Try.f16 (Try.f16.body.get!) JDe [.ro] 0 [.ar 37 prev, .st 51 [.st 47 [.ro 5 y0 y1 y2, .ar 37 y3], .sc (.int .i64 e_At), .ro 113 y4 y5 e_Op, .ar 37 y6, .ar 37 y7]] [] k = g16 f prev y0 y1 y2 y3 e_At y4 y5 e_Op y6 y7 k := by kernel_rfl
theorem JNI (f : Nat) : ∀ q ∈ Jf (Try.f16.body.get!) JDe, q.Ok tau Try.prog 0 := Jw (by kernel_rfl)
theorem JI6 : Try.prog.funcs[16]? = some Try.f16 := by kernel_rfl
theorem JI7 : Try.f16.body = some (Try.f16.body.get!) := by kernel_rfl
theorem JI8 : Enters Try.prog 16 := enters_of JI6 (by kernel_rfl) JI7
def Jtj : Jz
 | [.ar 37 prev, .st 51 [.st 47 [.ro 5 y0 y1 y2, .ar 37 y3], .sc (.int .i64 e_At), .ro 113 y4 y5 e_Op, .ar 37 y6, .ar 37 y7]], [], k => g16 0 prev y0 y1 y2 y3 e_At y4 y5 e_Op y6 y7 k
 | _, _, _ => none
def s16 : Sig := { own := [], run := Jtj }
theorem JI9 : Jc tau Try.prog 16 s16 := JN Jn JDd Jo JI6 JI7 JDe [.ro] 0 [] Jtj (JNI 0) fun xs es k res hr => by
 unfold Jtj at hr
 split at hr
 · exact ⟨rfl, 0, (e16 0 _ _ _ _ _ _ _ _ _ _ _  _).trans hr⟩
 · cases hr
-- FN
theorem EntRep.free_none {τ : Tab} {im : Im} {ow : Own} {i : Nat} {e : Ent} {w : World} (he : EntRep τ im ow i e w) (hf : e.free = true) {l : Loc} {b : Nat} (hl : ow i = some l) (hb : l.blk = some b) : im b = none := by
 obtain ⟨loc, h1, h2⟩ := he
 obtain rfl : loc = l := Option.some.inj (h1.symm.trans hl)
 cases e with
 | dead => cases hf
 | box fz t v =>
  obtain ⟨k1, k2, b', cells, el, fr, pre, mid, post, q1, q2, q3, q4, q5, q6, q7, q8⟩ := h2
  have : fz = false := by cases fz with | true => cases hf | false => rfl
  obtain rfl : b = b' := Option.some.inj (hb.symm.trans q1)
  exact q8.1 this
 | vec fz t nl els =>
  obtain ⟨k1, k2, k3⟩ := h2
  have : fz = false := by cases fz with | true => cases hf | false => rfl
  rcases k3 with k3 | ⟨_, b', cells, el, fr, pre, mid, post, q1, q2, q3, q4, q5, q6, q7, q8⟩
  · rw [k3.1] at hb; cases hb
  · obtain rfl : b = b' := Option.some.inj (hb.symm.trans q1)
    exact q8.1 this
theorem Jc.dead {τ : Tab} {P : Program} {g : FuncId} {sg : Sig} (h : Jc τ P g sg) :
   Jc τ P g { own := sg.own, run := fun xs es k => sg.run xs es fun r => bif r.news.isEmpty && decide (r.pars.length <= 15) then k ⟨r.val, r.pars, [.dead]⟩ else none } := by
 intro xs es k res hl hrun
 obtain ⟨r, hk, H⟩ := h xs es _ res hl hrun
 obtain ⟨hn, hk'⟩ := Jv hk
 rw [Bool.and_eq_true, decide_eq_true_eq] at hn
 refine ⟨⟨r.val, r.pars, [.dead]⟩, hk', fun im ow w us hx hi => (H im ow w us hx hi).mono fun e w' hp => ?_⟩
 obtain ⟨u, im', ow', h1, h2, G⟩ := hp
 have hn0 : r.news = [] := List.isEmpty_iff.1 hn.1
 rw [hn0] at G
 have e16 : JP r.pars [] 16 = none := rfl
 have d16 : JP r.pars [.dead] 16 = some .dead := rfl
 have same : ∀ i, i ≠ 16 -> JP r.pars [.dead] i = JP r.pars [] i := by
   intro i hi
   unfold JP
   by_cases h16 : i < 16
   · rw [if_pos h16, if_pos h16]
   · rw [if_neg h16, if_neg h16]
     obtain ⟨m, hm⟩ : ∃ m, i - 16 = m + 1 := ⟨i - 17, by omega⟩
     rw [hm]; rfl
 have o16 : ow' 16 = none := by
   cases ho : ow' 16 with
   | none => rfl
   | some l =>
     obtain ⟨e, he⟩ := G.inv.dom 16 l ho
     rw [e16] at he; cases he
 let ow2 : Own := Xu ow' 16 ⟨none, 0, .box 0, 0⟩
 have t16 : ow2 16 = some ⟨none, 0, .box 0, 0⟩ := if_pos rfl
 have tne : ∀ i, i ≠ 16 -> ow2 i = ow' i := fun i hi => if_neg hi
 have how : ∀ i l, ow' i = some l -> ow2 i = some l := by
   intro i l hil
   by_cases h16 : i = 16
   · subst h16; rw [o16] at hil; cases hil
   · rw [tne i h16]; exact hil
 have live : ∀ i b, Live (JP r.pars [.dead]) ow2 i b -> Live (JP r.pars []) ow' i b := by
   rintro i b ⟨e, l, q1, q2, q3, q4⟩
   by_cases h16 : i = 16
   · subst h16; rw [d16] at q1; obtain rfl := Option.some.inj q1; cases q2
   · exact ⟨e, l, by rw [← same i h16]; exact q1, q2, by rw [← tne i h16]; exact q3, q4⟩
 refine ⟨u, im', ow2, h1, Jg.mono (fun _ _ h => h) how _ _ h2, ⟨G.imX, fun i l hil => how i l (G.owX i l hil), ⟨G.inv.imOk, ?_, ?_, ?_⟩, G.size, G.keep, G.newim, fun i b hb => G.newlive i b (live i b hb), G.rest⟩⟩
 · intro i e he
   by_cases h16 : i = 16
   · subst h16; rw [d16] at he; obtain rfl := Option.some.inj he; exact ⟨_, t16, trivial⟩
   · rw [same i h16] at he
     have q := G.inv.ent i e he
     exact EntRep.keep (fun _ _ h => h) how (fun _ _ _ _ _ => rfl) (fun hf l b hl hb => q.free_none hf hl hb) q
 · intro i j b hi hj
   exact G.inv.inj i j b (live i b hi) (live j b hj)
 · intro i l hil
   by_cases h16 : i = 16
   · subst h16; exact ⟨_, d16⟩
   · rw [tne i h16] at hil
     obtain ⟨e, he⟩ := G.inv.dom i l hil
     exact ⟨e, by rw [same i h16]; exact he⟩
def JJa : Sig := { own := s16.own, run := fun xs es k => s16.run xs es fun r => bif r.news.isEmpty && decide (r.pars.length <= 15) then k ⟨r.val, r.pars, [.dead]⟩ else none }
theorem JJb : Jc tau Try.prog 16 JJa := JI9.dead
def F54 : Fns := Jt 52 JBZ (Jt 31 JC9 (Jt 16 JJa (F0)))
theorem JDf : Jq tau Try.prog F54 := (((Js).add JJb JI8).add Jzx JI2).add Jy4 JHo
def JDg : An := (.seq .leaf (.seq .leaf (.seq .leaf (.seq .leaf (.seq .leaf .leaf)))))
abbrev X3 (y2 : List PV) (y3 : List PV) (at1 : Int) (o : List PV) := (JY (EV.mk (List.take (0 + y2.length) y2) y3 at1 (List.take (0 + o.length) o)))
abbrev GS (prev : List PV) (y2 : List PV) (y3 : List PV) (at1 : Int) (o : List PV) := (List.take (0 + (List.take 32 prev).length + (List.take (X3 y2 y3 at1 o).length (pu IntKind.u8 (X3 y2 y3 at1 o))).length) (List.take (0 + (List.take 32 prev).length) (List.take 32 prev) ++ List.take (X3 y2 y3 at1 o).length (pu IntKind.u8 (X3 y2 y3 at1 o))))
abbrev Jip (prev : List PV) (y2 : List PV) (y3 : List PV) (at1 : Int) (o : List PV) := (List.take ((X3 y2 y3 at1 o).length + (List.take 32 (pu IntKind.u8 (JX (JD (GS prev y2 y3 at1 o))))).length) (List.take (X3 y2 y3 at1 o).length (pu IntKind.u8 (X3 y2 y3 at1 o)) ++ List.take 32 (pu IntKind.u8 (JX (JD (GS prev y2 y3 at1 o))))))
def g54 (f : Nat) (k0_z k0_f : Bool) (k0 : List PV) (k1_z k1_f : Bool) (k1 : List PV) (k2_z k2_f : Bool) (k2 : List PV) (host : Int) (prev : List PV) (y0 y1 : Bool) (y2 y3 : List PV) (at1 : Int) (o_z o_f : Bool) (o : List PV) (k : KR) : OR := bif Je (0 + y2.length) 1 && true then bif Je (0 + o.length) 32 && true then bif Je (0 + (List.take 32 prev).length) 1 && true then bif eOk (EV.mk (List.take (0 + y2.length) y2) y3 at1 (List.take (0 + o.length) o)) then bif Je (0 + (List.take 32 prev).length + (List.take (X3 y2 y3 at1 o).length (pu IntKind.u8 (X3 y2 y3 at1 o))).length) 1 && true then bif Jl IntKind.u8 (GS prev y2 y3 at1 o) && decide ((GS prev y2 y3 at1 o).length <= 140737488355000) then bif decide (0 <= host) && decide (host < zi 3) && true then bif PV.isRo 5 (Jr (PV.st 31 [.ro 5 k0_z k0_f k0, .ro 5 k1_z k1_f k1, .ro 5 k2_z k2_f k2]) [host.toNat]) && true then bif eOk (EV.mk (List.take (0 + y2.length) y2) y3 at1 (List.take (0 + o.length) o)) then bif Je ((X3 y2 y3 at1 o).length + (List.take 32 (pu IntKind.u8 (JX (JD (GS prev y2 y3 at1 o))))).length) 1 && true then bif Jl IntKind.u8 (Jr (PV.st 31 [.ro 5 k0_z k0_f k0, .ro 5 k1_z k1_f k1, .ro 5 k2_z k2_f k2]) [host.toNat]).els && decide ((Jr (PV.st 31 [.ro 5 k0_z k0_f k0, .ro 5 k1_z k1_f k1, .ro 5 k2_z k2_f k2]) [host.toNat]).els.length <= 1000000000) && (Jl IntKind.u8 (Jip prev y2 y3 at1 o) && decide ((Jip prev y2 y3 at1 o).length <= 1000000000)) then k (Res.mk (.st 51 [.st 47 [.ro 5 false false (List.take (0 + y2.length) y2), .ar 37 y3], .sc (.int .i64 at1), .ro 113 false false (List.take (0 + o.length) o), .ar 37 (pu IntKind.u8 (JX (JD (GS prev y2 y3 at1 o)))), .ar 37 (pu IntKind.u8 (JfV (JD (Jr (PV.st 31 [.ro 5 k0_z k0_f k0, .ro 5 k1_z k1_f k1, .ro 5 k2_z k2_f k2]) [host.toNat]).els) (JD (Jip prev y2 y3 at1 o))))]) [] []) else none else none else none else none else none else none else none else none else none else none else none
theorem e54 (f : Nat) (k0_z k0_f : Bool) (k0 : List PV) (k1_z k1_f : Bool) (k1 : List PV) (k2_z k2_f : Bool) (k2 : List PV) (host : Int) (prev : List PV) (y0 y1 : Bool) (y2 y3 : List PV) (at1 : Int) (o_z o_f : Bool) (o : List PV) (k : KR) : JJ tau F54 Try.f54 (Try.f54.body.get!) JDg [.ro] 0 [.st 31 [.ro 5 k0_z k0_f k0, .ro 5 k1_z k1_f k1, .ro 5 k2_z k2_f k2], .sc (.int .i64 host), .ar 37 prev, .st 47 [.ro 5 y0 y1 y2, .ar 37 y3], .sc (.int .i64 at1), .ro 113 o_z o_f o] [] k = g54 f k0_z k0_f k0 k1_z k1_f k1 k2_z k2_f k2 host prev y0 y1 y2 y3 at1 o_z o_f o k := by kernel_rfl
theorem JNJ (f : Nat) : ∀ q ∈ Jf (Try.f54.body.get!) JDg, q.Ok tau Try.prog 0 := Jw (by kernel_rfl)
theorem JJc : Try.prog.funcs[54]? = some Try.f54 := by kernel_rfl
theorem JJd : Try.f54.body = some (Try.f54.body.get!) := by kernel_rfl
theorem JNK : Enters Try.prog 54 := enters_of JJc (by kernel_rfl) JJd
def Jtk : Jz
 | [.st 31 [.ro 5 k0_z k0_f k0, .ro 5 k1_z k1_f k1, .ro 5 k2_z k2_f k2], .sc (.int .i64 host), .ar 37 prev, .st 47 [.ro 5 y0 y1 y2, .ar 37 y3], .sc (.int .i64 at1), .ro 113 o_z o_f o], [], k => g54 0 k0_z k0_f k0 k1_z k1_f k1 k2_z k2_f k2 host prev y0 y1 y2 y3 at1 o_z o_f o k
 | _, _, _ => none
def s54 : Sig := { own := [], run := Jtk }
theorem JNL : Jc tau Try.prog 54 s54 := JN Jn JDf Jo JJc JJd JDg [.ro] 0 [] Jtk (JNJ 0) fun xs es k res hr => by
 unfold Jtk at hr
 split at hr
 · exact ⟨rfl, 0, (e54 0 _ _ _ _ _ _ _ _ _ _ _ _ _ _ _ _ _ _ _  _).trans hr⟩
 · cases hr

-- FN wire.Parse
structure PA where
 (l : List PV) (b : List PV)
def kOk (l : List PV) : Bool := Jl .u8 l && decide (l.length <= 1000000000)
theorem JwZ {z0 f0 z1 f1 z2 f2 : Bool} {k0 k1 k2 : List PV} (h0 : kOk k0 = true) (h1 : kOk k1 = true) (h2 : kOk k2 = true) (d : Int) : kOk (JhK ⟨[.ro 5 z0 f0 k0, .ro 5 z1 f1 k1, .ro 5 z2 f2 k2], d⟩) = true := by
 rw [JoC]
 show kOk (JjS _ d).els = true
 unfold JjS
 cases h : Xy d 2 with
 | false => rfl
 | true =>
  simp only [Xy, Bool.and_eq_true, decide_eq_true_eq] at h
  have : d = 0 ∨ d = 1 ∨ d = 2 := by omega
  rcases this with rfl | rfl | rfl
  · exact h0
  · exact h1
  · exact h2
def kIn : Int -> Bool := hid fun d => Xy d 2
theorem Jfe (d : Int) : kIn d = Xy d 2 := by rw [kIn, hid_eq]
end
end Go.Proofs.Ythpmachmnoljeaa.Rx
