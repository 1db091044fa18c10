/- What the functions of this law compute, and their plain laws. Conditions: none. -/
import Derived.Test.YtcklhipdldpkhaaSignOpensP3
namespace Go.Proofs.Ytcklhipdldpkhaa.Rx
open Go
set_option linter.unusedVariables false
set_option linter.unusedSimpArgs false
set_option maxRecDepth 100000
set_option maxHeartbeats 0
def Jb5 : Nat := 50
noncomputable def JlT : Fns := JD 161 Jxy (JD 160 JlG (JD 135 JkK (JD 134 Jrr (JD 133 Jrv (JD 132 Jru (JD 78 s78 (JD 76 s76 (F0))))))))
theorem Ji4 : Jz tau Try.prog JlT := ((((((((JG).add Jt3 Jt2).add Ju6 Ju5).add Jpp Jpo).add Jpt Jps).add Jpg Jpf).add JkL Jpw).add JlH Jqz).add Jxz Jxx
noncomputable def GJ : Code := QB (Try.f143.body.get!) [1, 1, 1, 1, 1, 1, 0, 1, 0, 0]
def WP : Nm := [(4, .any), (5, .any), (6, .any), (7, .any), (9, .own), (25, .any), (26, .any)]
def Xs : Nm := [(4, .any), (9, .any)]
def JbH : An := (.seq .leaf (.seq (.cond .leaf .leaf) (.seq (.block none .leaf) .leaf)))
def Ji5 (r0 : QZ) : An := (.seq .leaf (.seq .leaf (.seq .leaf (.seq .leaf (.seq (.seq .leaf (.cond (.seq .leaf .leaf) .leaf)) (.seq .leaf (.seq (.seq .leaf (.block none (.sum WP Jb5 r0))) (.seq .leaf (.seq (.seq .leaf (.cond .leaf .leaf)) (.seq (.seq .leaf (.cond (.seq .leaf .leaf) .leaf)) (.seq .leaf .leaf)))))))))))
noncomputable def Zv (f : Nat) (rc : Nat → Int → Int → Bool → Bool → List PV → Int → Bool → List PV → Option Res) (k0 : Nat → Bool → Bool → List PV → Int → Bool → List PV → Option Res) (v0 : Nat) (v1 : Int) (v2 : Int) (v3 : Bool) (v4 : Bool) (v5 : List PV) (v6 : Int) (v7 : Bool) (v8 : List PV) : Option Res := bif decide (v2 < v1) then bif (!v3 || v4) && true && byB v5 then bif (!v3 || v4) && true && byB (Jb 1 (RS.mk v5 v6)).b then bif (!v3 || v4) && byB (Jb 8 (Jb 1 (RS.mk v5 v6))).b then bif Jn (v0 + 1) 32 && true then rc (v0 + 1) v1 (IntKind.i64.wrap (v2 + 1)) v3 v4 ((J9 (Jb 8 (Jb 1 (RS.mk v5 v6)))).b) ((J9 (Jb 8 (Jb 1 (RS.mk v5 v6)))).e) (v7 && false) (List.take v0 v8 ++ [.st 99 [.sc (.int .i64 (Jt 1 (RS.mk v5 v6))), .sc (.int .i64 (Jt 8 (Jb 1 (RS.mk v5 v6)))), .sc (.string (JQ (Jb 8 (Jb 1 (RS.mk v5 v6)))))]]) else none else none else none else none else k0 v0 v3 v4 v5 v6 v7 v8
noncomputable def Wq (f : Nat) (k0 : Nat → Bool → Bool → List PV → Int → Bool → List PV → Option Res) : Nat → Nat → Int → Int → Bool → Bool → List PV → Int → Bool → List PV → Option Res
  | 0, _, _, _, _, _, _, _, _, _ => none
  | n + 1, v0, v1, v2, v3, v4, v5, v6, v7, v8 => Zv f (Wq f k0 n) k0 v0 v1 v2 v3 v4 v5 v6 v7 v8
theorem JlU (f : Nat) (k : Kont) (n : Nat) (v0 : Nat) (v1 : Int) (v2 : Int) (v3 : Bool) (v4 : Bool) (v5 : List PV) (v6 : Int) (v7 : Bool) (v8 : List PV) : Jo tau 0 WP (fun s k => ev tau JlT 0 0 GJ (JbH ) s k) (n + 1) (Je WP Jb5 [.ptr 816 [], PV.fn (Fn.func 133) [.ptr 816 []] [], PV.fn (Fn.func 132) [.ptr 816 []] [], PV.fn (Fn.func 135) [.ptr 816 []] [], .ow 99 817 [] 0 v0 none, .sc (.int .i64 v1), .sc (.int .i64 v2)] [(816, .box false 186 (PV.st 186 [.ro 5 v3 v4 v5, .sc (.int .i64 v6)])), (817, .vec false 99 v7 v8)]) (Jv tau 0 Xs k) = Zv f (fun v0 v1 v2 v3 v4 v5 v6 v7 v8 => Jo tau 0 WP (fun s k => ev tau JlT 0 0 GJ (JbH ) s k) n (Je WP Jb5 [.ptr 816 [], PV.fn (Fn.func 133) [.ptr 816 []] [], PV.fn (Fn.func 132) [.ptr 816 []] [], PV.fn (Fn.func 135) [.ptr 816 []] [], .ow 99 817 [] 0 v0 none, .sc (.int .i64 v1), .sc (.int .i64 v2)] [(816, .box false 186 (PV.st 186 [.ro 5 v3 v4 v5, .sc (.int .i64 v6)])), (817, .vec false 99 v7 v8)]) (Jv tau 0 Xs k)) (fun x0 x1 x2 x3 x4 x5 x6 => k (Ex.exit 0) (Je Xs Jb5 [.ptr 816 [], .ow 99 817 [] 0 x0 none] [(816, .box false 186 (PV.st 186 [.ro 5 x1 x2 x3, .sc (.int .i64 x4)])), (817, .vec false 99 x5 x6)])) v0 v1 v2 v3 v4 v5 v6 v7 v8 := by kernel_rfl
theorem JfD (f : Nat) (k : Kont) : ∀ (n : Nat) (v0 : Nat) (v1 : Int) (v2 : Int) (v3 : Bool) (v4 : Bool) (v5 : List PV) (v6 : Int) (v7 : Bool) (v8 : List PV), Jo tau 0 WP (fun s k => ev tau JlT 0 0 GJ (JbH ) s k) n (Je WP Jb5 [.ptr 816 [], PV.fn (Fn.func 133) [.ptr 816 []] [], PV.fn (Fn.func 132) [.ptr 816 []] [], PV.fn (Fn.func 135) [.ptr 816 []] [], .ow 99 817 [] 0 v0 none, .sc (.int .i64 v1), .sc (.int .i64 v2)] [(816, .box false 186 (PV.st 186 [.ro 5 v3 v4 v5, .sc (.int .i64 v6)])), (817, .vec false 99 v7 v8)]) (Jv tau 0 Xs k) = Wq f (fun x0 x1 x2 x3 x4 x5 x6 => k (Ex.exit 0) (Je Xs Jb5 [.ptr 816 [], .ow 99 817 [] 0 x0 none] [(816, .box false 186 (PV.st 186 [.ro 5 x1 x2 x3, .sc (.int .i64 x4)])), (817, .vec false 99 x5 x6)])) n v0 v1 v2 v3 v4 v5 v6 v7 v8 | 0, _, _, _, _, _, _, _, _, _ => rfl | n + 1, v0, v1, v2, v3, v4, v5, v6, v7, v8 => (JlU f k n v0 v1 v2 v3 v4 v5 v6 v7 v8).trans (congrArg (fun r => Zv f r (fun x0 x1 x2 x3 x4 x5 x6 => k (Ex.exit 0) (Je Xs Jb5 [.ptr 816 [], .ow 99 817 [] 0 x0 none] [(816, .box false 186 (PV.st 186 [.ro 5 x1 x2 x3, .sc (.int .i64 x4)])), (817, .vec false 99 x5 x6)])) v0 v1 v2 v3 v4 v5 v6 v7 v8) (by funext v0 v1 v2 v3 v4 v5 v6 v7 v8; exact JfD f k n v0 v1 v2 v3 v4 v5 v6 v7 v8))
noncomputable def Vo (f : Nat) : List PV → List (Nat × Ent) → Kont → Option Res
  | [.ptr 816 [], PV.fn (Fn.func 133) [.ptr 816 []] [], PV.fn (Fn.func 132) [.ptr 816 []] [], PV.fn (Fn.func 135) [.ptr 816 []] [], .ow 99 817 [] 0 v0 none, .sc (.int .i64 v1),
  PV.sc
    (Value.int IntKind.i64
      v2)], [(816, .box false 186 (PV.st 186 [.ro 5 v3 v4 v5, .sc (.int .i64 v6)])),
  (817,
    Ent.vec false 99 v7
      v8)], k => Wq f (fun x0 x1 x2 x3 x4 x5 x6 => k (Ex.exit
  0) (Je Xs Jb5 [.ptr 816 [],
  PV.ow 99 817 [] 0 x0 none] [(816, .box false 186 (PV.st 186 [.ro 5 x1 x2 x3, .sc (.int .i64 x4)])), (817, .vec false 99 x5 x6)])) f v0 v1 v2 v3 v4 v5 v6 v7 v8
  | _, _, _ => none
theorem Jou (f : Nat) : Jg GJ JbH = [] := by kernel_rfl
theorem Js0 (f : Nat) : (Item.l GJ WP Jb5 (Vo f)).Ok tau Try.prog 0 := JI Jr Ji4 Js (x := JbH) (nm2 := Xs) (Jp _ _ (by rw [Jou f]; intro q hq; cases hq)) fun vs hp k res hr => by
  unfold Vo at hr
  split at hr
  · exact ⟨f, 0, (JfD f _ f _ _ _ _ _ _ _ _ _ ).trans hr⟩
  · cases hr
noncomputable def Js1 (f : Nat) (b_z : Bool) (b_f : Bool) (b : List PV) (k : Res → Option Res) : Option Res := bif slB b_z b then bif (!b_z || b_z) && true && byB b then bif decide (Jt 1 (RS.mk b 0) > 40) then bif (Jb 1 (RS.mk b 0)).e == 0 then Wq f (fun x0_0 x1_0 x2_0 x3_0 x4_0 x5_0 x6_0 => bif x4_0 == 0 then bif decide (zi x3_0.length > 0) then k (Res.mk (.tup [.ro 99 true true [], .sc (.int .i64 9)]) [] []) else bif x4_0 == 0 then bif cOk (List.take x0_0 x6_0) then bif ckO (List.take x0_0 x6_0) != 0 then k (Res.mk (.tup [.ro 99 true true [], .sc (.int .i64 (ckO (List.take x0_0 x6_0)))]) [] []) else bif (Ent.vec false 99 x5_0 x6_0).nil then k (Res.mk (.tup [.ro 99 true true [], .sc (.int .i64 0)]) [] []) else bif Jn (0 + (List.take x0_0 x6_0).length) 32 && true then k (Res.mk (.tup [.ro 99 false false (List.take (0 + (List.take x0_0 x6_0).length) (List.take x0_0 x6_0)), .sc (.int .i64 0)]) [] []) else none else none else bif x4_0 != 0 then k (Res.mk (.tup [.ro 99 true true [], .sc (.int .i64 x4_0)]) [] []) else bif (Ent.vec false 99 x5_0 x6_0).nil then k (Res.mk (.tup [.ro 99 true true [], .sc (.int .i64 0)]) [] []) else bif Jn (0 + (List.take x0_0 x6_0).length) 32 && true then k (Res.mk (.tup [.ro 99 false false (List.take (0 + (List.take x0_0 x6_0).length) (List.take x0_0 x6_0)), .sc (.int .i64 0)]) [] []) else none else bif x4_0 == 0 then bif cOk (List.take x0_0 x6_0) then bif ckO (List.take x0_0 x6_0) != 0 then k (Res.mk (.tup [.ro 99 true true [], .sc (.int .i64 (ckO (List.take x0_0 x6_0)))]) [] []) else bif (Ent.vec false 99 x5_0 x6_0).nil then k (Res.mk (.tup [.ro 99 true true [], .sc (.int .i64 0)]) [] []) else bif Jn (0 + (List.take x0_0 x6_0).length) 32 && true then k (Res.mk (.tup [.ro 99 false false (List.take (0 + (List.take x0_0 x6_0).length) (List.take x0_0 x6_0)), .sc (.int .i64 0)]) [] []) else none else none else bif x4_0 != 0 then k (Res.mk (.tup [.ro 99 true true [], .sc (.int .i64 x4_0)]) [] []) else bif (Ent.vec false 99 x5_0 x6_0).nil then k (Res.mk (.tup [.ro 99 true true [], .sc (.int .i64 0)]) [] []) else bif Jn (0 + (List.take x0_0 x6_0).length) 32 && true then k (Res.mk (.tup [.ro 99 false false (List.take (0 + (List.take x0_0 x6_0).length) (List.take x0_0 x6_0)), .sc (.int .i64 0)]) [] []) else none) f (0) (0) (0) b_z b_z ((Jb 1 (RS.mk b 0)).b) (4) true ([]) else Wq f (fun x0_1 x1_1 x2_1 x3_1 x4_1 x5_1 x6_1 => bif x4_1 == 0 then bif decide (zi x3_1.length > 0) then k (Res.mk (.tup [.ro 99 true true [], .sc (.int .i64 9)]) [] []) else bif x4_1 == 0 then bif cOk (List.take x0_1 x6_1) then bif ckO (List.take x0_1 x6_1) != 0 then k (Res.mk (.tup [.ro 99 true true [], .sc (.int .i64 (ckO (List.take x0_1 x6_1)))]) [] []) else bif (Ent.vec false 99 x5_1 x6_1).nil then k (Res.mk (.tup [.ro 99 true true [], .sc (.int .i64 0)]) [] []) else bif Jn (0 + (List.take x0_1 x6_1).length) 32 && true then k (Res.mk (.tup [.ro 99 false false (List.take (0 + (List.take x0_1 x6_1).length) (List.take x0_1 x6_1)), .sc (.int .i64 0)]) [] []) else none else none else bif x4_1 != 0 then k (Res.mk (.tup [.ro 99 true true [], .sc (.int .i64 x4_1)]) [] []) else bif (Ent.vec false 99 x5_1 x6_1).nil then k (Res.mk (.tup [.ro 99 true true [], .sc (.int .i64 0)]) [] []) else bif Jn (0 + (List.take x0_1 x6_1).length) 32 && true then k (Res.mk (.tup [.ro 99 false false (List.take (0 + (List.take x0_1 x6_1).length) (List.take x0_1 x6_1)), .sc (.int .i64 0)]) [] []) else none else bif x4_1 == 0 then bif cOk (List.take x0_1 x6_1) then bif ckO (List.take x0_1 x6_1) != 0 then k (Res.mk (.tup [.ro 99 true true [], .sc (.int .i64 (ckO (List.take x0_1 x6_1)))]) [] []) else bif (Ent.vec false 99 x5_1 x6_1).nil then k (Res.mk (.tup [.ro 99 true true [], .sc (.int .i64 0)]) [] []) else bif Jn (0 + (List.take x0_1 x6_1).length) 32 && true then k (Res.mk (.tup [.ro 99 false false (List.take (0 + (List.take x0_1 x6_1).length) (List.take x0_1 x6_1)), .sc (.int .i64 0)]) [] []) else none else none else bif x4_1 != 0 then k (Res.mk (.tup [.ro 99 true true [], .sc (.int .i64 x4_1)]) [] []) else bif (Ent.vec false 99 x5_1 x6_1).nil then k (Res.mk (.tup [.ro 99 true true [], .sc (.int .i64 0)]) [] []) else bif Jn (0 + (List.take x0_1 x6_1).length) 32 && true then k (Res.mk (.tup [.ro 99 false false (List.take (0 + (List.take x0_1 x6_1).length) (List.take x0_1 x6_1)), .sc (.int .i64 0)]) [] []) else none) f (0) (0) (0) b_z b_z ((Jb 1 (RS.mk b 0)).b) ((Jb 1 (RS.mk b 0)).e) true ([]) else Wq f (fun x0_2 x1_2 x2_2 x3_2 x4_2 x5_2 x6_2 => bif x4_2 == 0 then bif decide (zi x3_2.length > 0) then k (Res.mk (.tup [.ro 99 true true [], .sc (.int .i64 9)]) [] []) else bif x4_2 == 0 then bif cOk (List.take x0_2 x6_2) then bif ckO (List.take x0_2 x6_2) != 0 then k (Res.mk (.tup [.ro 99 true true [], .sc (.int .i64 (ckO (List.take x0_2 x6_2)))]) [] []) else bif (Ent.vec false 99 x5_2 x6_2).nil then k (Res.mk (.tup [.ro 99 true true [], .sc (.int .i64 0)]) [] []) else bif Jn (0 + (List.take x0_2 x6_2).length) 32 && true then k (Res.mk (.tup [.ro 99 false false (List.take (0 + (List.take x0_2 x6_2).length) (List.take x0_2 x6_2)), .sc (.int .i64 0)]) [] []) else none else none else bif x4_2 != 0 then k (Res.mk (.tup [.ro 99 true true [], .sc (.int .i64 x4_2)]) [] []) else bif (Ent.vec false 99 x5_2 x6_2).nil then k (Res.mk (.tup [.ro 99 true true [], .sc (.int .i64 0)]) [] []) else bif Jn (0 + (List.take x0_2 x6_2).length) 32 && true then k (Res.mk (.tup [.ro 99 false false (List.take (0 + (List.take x0_2 x6_2).length) (List.take x0_2 x6_2)), .sc (.int .i64 0)]) [] []) else none else bif x4_2 == 0 then bif cOk (List.take x0_2 x6_2) then bif ckO (List.take x0_2 x6_2) != 0 then k (Res.mk (.tup [.ro 99 true true [], .sc (.int .i64 (ckO (List.take x0_2 x6_2)))]) [] []) else bif (Ent.vec false 99 x5_2 x6_2).nil then k (Res.mk (.tup [.ro 99 true true [], .sc (.int .i64 0)]) [] []) else bif Jn (0 + (List.take x0_2 x6_2).length) 32 && true then k (Res.mk (.tup [.ro 99 false false (List.take (0 + (List.take x0_2 x6_2).length) (List.take x0_2 x6_2)), .sc (.int .i64 0)]) [] []) else none else none else bif x4_2 != 0 then k (Res.mk (.tup [.ro 99 true true [], .sc (.int .i64 x4_2)]) [] []) else bif (Ent.vec false 99 x5_2 x6_2).nil then k (Res.mk (.tup [.ro 99 true true [], .sc (.int .i64 0)]) [] []) else bif Jn (0 + (List.take x0_2 x6_2).length) 32 && true then k (Res.mk (.tup [.ro 99 false false (List.take (0 + (List.take x0_2 x6_2).length) (List.take x0_2 x6_2)), .sc (.int .i64 0)]) [] []) else none) f (0) (Jt 1 (RS.mk b 0)) (0) b_z b_z ((Jb 1 (RS.mk b 0)).b) ((Jb 1 (RS.mk b 0)).e) true ([]) else none else none
theorem JAM (f : Nat) (b_z : Bool) (b_f : Bool) (b : List PV) (k : Res → Option Res) : JM tau JlT Try.f143 (Try.f143.body.get!) (Ji5 (Vo f)) [.ro, .ro] 0 [.ro 5 b_z b_f b] [] k = Js1 f b_z b_f b k := by kernel_rfl
theorem JxA (f : Nat) : Jg (Try.f143.body.get!) (Ji5 (Vo f)) = [.l GJ WP Jb5 (Vo f)] := by kernel_rfl
theorem JxB (f : Nat) : ∀ q ∈ Jg (Try.f143.body.get!) (Ji5 (Vo f)), q.Ok tau Try.prog 0 := by
  rw [JxA f]; simp only [List.forall_mem_cons, List.not_mem_nil, false_implies, implies_true, and_true]; exact Js0 f
theorem JqK : Try.prog.funcs[143]? = some Try.f143 := by kernel_rfl
theorem JqL : Try.f143.body = some (Try.f143.body.get!) := by kernel_rfl
theorem JxC : Enters Try.prog 143 := enters_of JqK (by kernel_rfl) JqL
noncomputable def F82 : Fns := F0
theorem Js2 : Jz tau Try.prog F82 := JG
def Jov : An := (.seq .leaf (.seq .leaf .leaf))
noncomputable def g82 (f : Nat) (b_z : Bool) (b_f : Bool) (b : List PV) (k : Res → Option Res) : Option Res := k (Res.mk (.ptr 16 []) [] [.box false 138 (PV.st 138 [.ro 5 b_z b_f b, .sc (.int .i64 0), .sc (.int .i64 0)])])
theorem e82 (f : Nat) (b_z : Bool) (b_f : Bool) (b : List PV) (k : Res → Option Res) : JM tau F82 Try.f82 (Try.f82.body.get!) Jov [.any] 0 [.ro 5 b_z b_f b] [] k = g82 f b_z b_f b k := by kernel_rfl
theorem JAN (f : Nat) : Jg (Try.f82.body.get!) Jov = [] := by kernel_rfl
theorem JAO (f : Nat) : ∀ q ∈ Jg (Try.f82.body.get!) Jov, q.Ok tau Try.prog 0 := by
  rw [JAN f]; intro q hq; cases hq
theorem JxD : Try.prog.funcs[82]? = some Try.f82 := by kernel_rfl
theorem JxE : Try.f82.body = some (Try.f82.body.get!) := by kernel_rfl
theorem JxF : Enters Try.prog 82 := enters_of JxD (by kernel_rfl) JxE
noncomputable def JlV : List PV → List Ent → (Res → Option Res) → Option Res
  | [.ro 5 b_z b_f b], [], k => g82 0 b_z b_f b k
  | _, _, _ => none
noncomputable def s82 : Sig := { own := [], run := JlV }
theorem JxG : Ji tau Try.prog 82 s82 := JS Jr Js2 Js JxD JxE Jov [.any] 0 [] JlV (JAO 0) fun xs es k res hr => by
  unfold JlV at hr
  split at hr
  · exact ⟨rfl, 0, (e82 0 _ _ _  _).trans hr⟩
  · cases hr
noncomputable def F85 : Fns := F0
theorem Js3 : Jz tau Try.prog F85 := JG
def Jow : An := (.seq .leaf (.cond .leaf .leaf))
noncomputable def g85 (f : Nat) (r_B_z : Bool) (r_B_f : Bool) (r_B : List PV) (r_P : Int) (r_Err : Int) (e : Int) (k : Res → Option Res) : Option Res := bif r_Err == 0 then k (Res.mk (.tup []) [.box false 138 (PV.st 138 [.ro 5 r_B_z r_B_f r_B, .sc (.int .i64 r_P), .sc (.int .i64 e)])] []) else k (Res.mk (.tup []) [.box false 138 (PV.st 138 [.ro 5 r_B_z r_B_f r_B, .sc (.int .i64 r_P), .sc (.int .i64 r_Err)])] [])
theorem e85 (f : Nat) (r_B_z : Bool) (r_B_f : Bool) (r_B : List PV) (r_P : Int) (r_Err : Int) (e : Int) (k : Res → Option Res) : JM tau F85 Try.f85 (Try.f85.body.get!) Jow [] 0 [.ptr 0 [], .sc (.int .i64 e)] [.box false 138 (.st 138 [.ro 5 r_B_z r_B_f r_B, .sc (.int .i64 r_P), .sc (.int .i64 r_Err)])] k = g85 f r_B_z r_B_f r_B r_P r_Err e k := by kernel_rfl
theorem JAP (f : Nat) : Jg (Try.f85.body.get!) Jow = [] := by kernel_rfl
theorem JAQ (f : Nat) : ∀ q ∈ Jg (Try.f85.body.get!) Jow, q.Ok tau Try.prog 1 := by
  rw [JAP f]; intro q hq; cases hq
theorem JxH : Try.prog.funcs[85]? = some Try.f85 := by kernel_rfl
theorem JxI : Try.f85.body = some (Try.f85.body.get!) := by kernel_rfl
theorem JAR : Enters Try.prog 85 := enters_of JxH (by kernel_rfl) JxI
noncomputable def JlW : List PV → List Ent → (Res → Option Res) → Option Res
  | [.ptr 0 [], .sc (.int .i64 e)], [.box false 138 (.st 138 [.ro 5 r_B_z r_B_f r_B, .sc (.int .i64 r_P), .sc (.int .i64 r_Err)])], k => g85 0 r_B_z r_B_f r_B r_P r_Err e k
  | _, _, _ => none
noncomputable def s85 : Sig := { own := [], run := JlW }
theorem JAS : Ji tau Try.prog 85 s85 := JS Jr Js3 Js JxH JxI Jow [] 1 [] JlW (JAQ 0) fun xs es k res hr => by
  unfold JlW at hr
  split at hr
  · exact ⟨rfl, 0, (e85 0 _ _ _ _ _ _  _).trans hr⟩
  · cases hr
noncomputable def F88 : Fns := F0
theorem Js4 : Jz tau Try.prog F88 := JG
def Jox : An := (.seq .leaf (.seq (.seq .leaf (.cond (.seq .leaf .leaf) .leaf)) (.seq .leaf .leaf)))
noncomputable def g88 (f : Nat) (r_B_z : Bool) (r_B_f : Bool) (r_B : List PV) (r_P : Int) (r_Err : Int) (k : Res → Option Res) : Option Res := bif r_Err == 0 then bif decide (r_P < zi r_B.length) then k (Res.mk (.sc (.int .i64 9)) [.box false 138 (PV.st 138 [.ro 5 r_B_z r_B_f r_B, .sc (.int .i64 r_P), .sc (.int .i64 r_Err)])] []) else k (Res.mk (.sc (.int .i64 r_Err)) [.box false 138 (PV.st 138 [.ro 5 r_B_z r_B_f r_B, .sc (.int .i64 r_P), .sc (.int .i64 r_Err)])] []) else k (Res.mk (.sc (.int .i64 r_Err)) [.box false 138 (PV.st 138 [.ro 5 r_B_z r_B_f r_B, .sc (.int .i64 r_P), .sc (.int .i64 r_Err)])] [])
theorem e88 (f : Nat) (r_B_z : Bool) (r_B_f : Bool) (r_B : List PV) (r_P : Int) (r_Err : Int) (k : Res → Option Res) : JM tau F88 Try.f88 (Try.f88.body.get!) Jox [.ro] 0 [.ptr 0 []] [.box false 138 (.st 138 [.ro 5 r_B_z r_B_f r_B, .sc (.int .i64 r_P), .sc (.int .i64 r_Err)])] k = g88 f r_B_z r_B_f r_B r_P r_Err k := by kernel_rfl
theorem JAT (f : Nat) : Jg (Try.f88.body.get!) Jox = [] := by kernel_rfl
theorem JAU (f : Nat) : ∀ q ∈ Jg (Try.f88.body.get!) Jox, q.Ok tau Try.prog 1 := by
  rw [JAT f]; intro q hq; cases hq
theorem JxJ : Try.prog.funcs[88]? = some Try.f88 := by kernel_rfl
theorem JxK : Try.f88.body = some (Try.f88.body.get!) := by kernel_rfl
theorem JxL : Enters Try.prog 88 := enters_of JxJ (by kernel_rfl) JxK
noncomputable def JlX : List PV → List Ent → (Res → Option Res) → Option Res
  | [.ptr 0 []], [.box false 138 (.st 138 [.ro 5 r_B_z r_B_f r_B, .sc (.int .i64 r_P), .sc (.int .i64 r_Err)])], k => g88 0 r_B_z r_B_f r_B r_P r_Err k
  | _, _, _ => none
noncomputable def s88 : Sig := { own := [], run := JlX }
theorem JxM : Ji tau Try.prog 88 s88 := JS Jr Js4 Js JxJ JxK Jox [.ro] 1 [] JlX (JAU 0) fun xs es k res hr => by
  unfold JlX at hr
  split at hr
  · exact ⟨rfl, 0, (e88 0 _ _ _ _ _  _).trans hr⟩
  · cases hr
def Jb6 : Nat := 53
noncomputable def JlY : Fns := JD 117 JlJ (JD 88 s88 (JD 86 JrB (JD 85 s85 (JD 84 Jm6 (JD 83 Jm8 (JD 82 s82 (F0)))))))
theorem Ji6 : Jz tau Try.prog JlY := (((((((JG).add JxG JxF).add JkR Jrz).add JkQ Jrx).add JAS JAR).add JpA JuB).add JxM JxL).add JlK JqC
noncomputable def GK : Code := QB (Try.f106.body.get!) [1, 1, 1, 1, 1, 0, 1, 0, 0]
def WQ : Nm := [(4, .any), (5, .any), (6, .own), (7, .any)]
def Xt : Nm := [(4, .any), (6, .any)]
def JbI : An := (.seq (.seq .leaf (.cond .leaf .leaf)) (.seq (.block none (.seq .leaf (.seq .leaf (.seq .leaf .leaf)))) .leaf))
def Ji7 (r0 : QZ) : An := (.seq .leaf (.seq .leaf (.seq .leaf (.seq (.seq .leaf (.cond .leaf .leaf)) (.seq .leaf (.seq (.seq .leaf (.block none (.sum WQ Jb6 r0))) (.seq .leaf (.seq (.seq .leaf (.cond .leaf .leaf)) (.seq (.seq .leaf (.cond (.seq .leaf .leaf) .leaf)) (.seq .leaf .leaf))))))))))
noncomputable def XP (f : Nat) (rc : Int → Nat → Int → Bool → Bool → List PV → Int → Int → Bool → List PV → Option Res) (k0 : Nat → Bool → Bool → List PV → Int → Int → Bool → List PV → Option Res) (v0 : Int) (v1 : Nat) (v2 : Int) (v3 : Bool) (v4 : Bool) (v5 : List PV) (v6 : Int) (v7 : Int) (v8 : Bool) (v9 : List PV) : Option Res := bif decide (v2 < v0) then bif v7 == 0 then bif okT (RT.mk v5 v6 v7) then bif okT (Ja 1 (RT.mk v5 v6 v7)) then bif okT (Ja 8 (Ja 1 (RT.mk v5 v6 v7))) then bif Jn (v1 + 1) 32 && true then rc v0 (v1 + 1) (IntKind.i64.wrap (v2 + 1)) v3 v4 ((J3 (Ja 8 (Ja 1 (RT.mk v5 v6 v7)))).B) ((J3 (Ja 8 (Ja 1 (RT.mk v5 v6 v7)))).P) ((J3 (Ja 8 (Ja 1 (RT.mk v5 v6 v7)))).e) (v8 && false) (List.take v1 v9 ++ [.st 99 [.sc (.int .i64 (Jw 1 (RT.mk v5 v6 v7))), .sc (.int .i64 (Jw 8 (Ja 1 (RT.mk v5 v6 v7)))), .sc (.string (JJ (Ja 8 (Ja 1 (RT.mk v5 v6 v7)))))]]) else none else none else none else none else k0 v1 v3 v4 v5 v6 v7 v8 v9 else k0 v1 v3 v4 v5 v6 v7 v8 v9
noncomputable def We (f : Nat) (k0 : Nat → Bool → Bool → List PV → Int → Int → Bool → List PV → Option Res) : Nat → Int → Nat → Int → Bool → Bool → List PV → Int → Int → Bool → List PV → Option Res
  | 0, _, _, _, _, _, _, _, _, _, _ => none
  | n + 1, v0, v1, v2, v3, v4, v5, v6, v7, v8, v9 => XP f (We f k0 n) k0 v0 v1 v2 v3 v4 v5 v6 v7 v8 v9
theorem JlZ (f : Nat) (k : Kont) (n : Nat) (v0 : Int) (v1 : Nat) (v2 : Int) (v3 : Bool) (v4 : Bool) (v5 : List PV) (v6 : Int) (v7 : Int) (v8 : Bool) (v9 : List PV) : Jo tau 0 WQ (fun s k => ev tau JlY 0 0 GK (JbI ) s k) (n + 1) (Je WQ Jb6 [.ptr 864 [], .sc (.int .i64 v0), .ow 99 865 [] 0 v1 none, .sc (.int .i64 v2)] [(864, .box false 138 (PV.st 138 [.ro 5 v3 v4 v5, .sc (.int .i64 v6), .sc (.int .i64 v7)])), (865, .vec false 99 v8 v9)]) (Jv tau 0 Xt k) = XP f (fun v0 v1 v2 v3 v4 v5 v6 v7 v8 v9 => Jo tau 0 WQ (fun s k => ev tau JlY 0 0 GK (JbI ) s k) n (Je WQ Jb6 [.ptr 864 [], .sc (.int .i64 v0), .ow 99 865 [] 0 v1 none, .sc (.int .i64 v2)] [(864, .box false 138 (PV.st 138 [.ro 5 v3 v4 v5, .sc (.int .i64 v6), .sc (.int .i64 v7)])), (865, .vec false 99 v8 v9)]) (Jv tau 0 Xt k)) (fun x0 x1 x2 x3 x4 x5 x6 x7 => k (Ex.exit 0) (Je Xt Jb6 [.ptr 864 [], .ow 99 865 [] 0 x0 none] [(864, .box false 138 (PV.st 138 [.ro 5 x1 x2 x3, .sc (.int .i64 x4), .sc (.int .i64 x5)])), (865, .vec false 99 x6 x7)])) v0 v1 v2 v3 v4 v5 v6 v7 v8 v9 := by kernel_rfl
theorem JfE (f : Nat) (k : Kont) : ∀ (n : Nat) (v0 : Int) (v1 : Nat) (v2 : Int) (v3 : Bool) (v4 : Bool) (v5 : List PV) (v6 : Int) (v7 : Int) (v8 : Bool) (v9 : List PV), Jo tau 0 WQ (fun s k => ev tau JlY 0 0 GK (JbI ) s k) n (Je WQ Jb6 [.ptr 864 [], .sc (.int .i64 v0), .ow 99 865 [] 0 v1 none, .sc (.int .i64 v2)] [(864, .box false 138 (PV.st 138 [.ro 5 v3 v4 v5, .sc (.int .i64 v6), .sc (.int .i64 v7)])), (865, .vec false 99 v8 v9)]) (Jv tau 0 Xt k) = We f (fun x0 x1 x2 x3 x4 x5 x6 x7 => k (Ex.exit 0) (Je Xt Jb6 [.ptr 864 [], .ow 99 865 [] 0 x0 none] [(864, .box false 138 (PV.st 138 [.ro 5 x1 x2 x3, .sc (.int .i64 x4), .sc (.int .i64 x5)])), (865, .vec false 99 x6 x7)])) n v0 v1 v2 v3 v4 v5 v6 v7 v8 v9 | 0, _, _, _, _, _, _, _, _, _, _ => rfl | n + 1, v0, v1, v2, v3, v4, v5, v6, v7, v8, v9 => (JlZ f k n v0 v1 v2 v3 v4 v5 v6 v7 v8 v9).trans (congrArg (fun r => XP f r (fun x0 x1 x2 x3 x4 x5 x6 x7 => k (Ex.exit 0) (Je Xt Jb6 [.ptr 864 [], .ow 99 865 [] 0 x0 none] [(864, .box false 138 (PV.st 138 [.ro 5 x1 x2 x3, .sc (.int .i64 x4), .sc (.int .i64 x5)])), (865, .vec false 99 x6 x7)])) v0 v1 v2 v3 v4 v5 v6 v7 v8 v9) (by funext v0 v1 v2 v3 v4 v5 v6 v7 v8 v9; exact JfE f k n v0 v1 v2 v3 v4 v5 v6 v7 v8 v9))
noncomputable def Vp (f : Nat) : List PV → List (Nat × Ent) → Kont → Option Res
  | [.ptr 864 [], .sc (.int .i64 v0), .ow 99 865 [] 0 v1 none,
  PV.sc
    (Value.int IntKind.i64
      v2)], [(864, .box false 138 (PV.st 138 [.ro 5 v3 v4 v5, .sc (.int .i64 v6), .sc (.int .i64 v7)])),
  (865,
    Ent.vec false 99 v8
      v9)], k => We f (fun x0 x1 x2 x3 x4 x5 x6 x7 => k (Ex.exit
  0) (Je Xt Jb6 [.ptr 864 [],
  PV.ow 99 865 [] 0 x0
    none] [(864, .box false 138 (PV.st 138 [.ro 5 x1 x2 x3, .sc (.int .i64 x4), .sc (.int .i64 x5)])), (865, .vec false 99 x6 x7)])) f v0 v1 v2 v3 v4 v5 v6 v7 v8 v9
  | _, _, _ => none
theorem Joy (f : Nat) : Jg GK JbI = [] := by kernel_rfl
theorem Js5 (f : Nat) : (Item.l GK WQ Jb6 (Vp f)).Ok tau Try.prog 0 := JI Jr Ji6 Js (x := JbI) (nm2 := Xt) (Jp _ _ (by rw [Joy f]; intro q hq; cases hq)) fun vs hp k res hr => by
  unfold Vp at hr
  split at hr
  · exact ⟨f, 0, (JfE f _ f _ _ _ _ _ _ _ _ _ _ ).trans hr⟩
  · cases hr
noncomputable def Js6 (f : Nat) (b_z : Bool) (b_f : Bool) (b : List PV) (k : Res → Option Res) : Option Res := bif okT (RT.mk b 0 0) then bif decide (Jw 1 (RT.mk b 0 0) > 40) then bif (Ja 1 (RT.mk b 0 0)).e == 0 then We f (fun x0_0 x1_0 x2_0 x3_0 x4_0 x5_0 x6_0 x7_0 => bif x5_0 == 0 then bif decide (x4_0 < zi x3_0.length) then k (Res.mk (.tup [.ro 99 true true [], .sc (.int .i64 9)]) [] []) else bif x5_0 == 0 then bif cOk (List.take x0_0 x7_0) then bif ckO (List.take x0_0 x7_0) != 0 then k (Res.mk (.tup [.ro 99 true true [], .sc (.int .i64 (ckO (List.take x0_0 x7_0)))]) [] []) else k (Res.mk (.tup [.ro 99 (Ent.vec false 99 x6_0 x7_0).nil false (List.take x0_0 x7_0), .sc (.int .i64 0)]) [] []) else none else bif x5_0 != 0 then k (Res.mk (.tup [.ro 99 true true [], .sc (.int .i64 x5_0)]) [] []) else k (Res.mk (.tup [.ro 99 (Ent.vec false 99 x6_0 x7_0).nil false (List.take x0_0 x7_0), .sc (.int .i64 0)]) [] []) else bif x5_0 == 0 then bif cOk (List.take x0_0 x7_0) then bif ckO (List.take x0_0 x7_0) != 0 then k (Res.mk (.tup [.ro 99 true true [], .sc (.int .i64 (ckO (List.take x0_0 x7_0)))]) [] []) else k (Res.mk (.tup [.ro 99 (Ent.vec false 99 x6_0 x7_0).nil false (List.take x0_0 x7_0), .sc (.int .i64 0)]) [] []) else none else bif x5_0 != 0 then k (Res.mk (.tup [.ro 99 true true [], .sc (.int .i64 x5_0)]) [] []) else k (Res.mk (.tup [.ro 99 (Ent.vec false 99 x6_0 x7_0).nil false (List.take x0_0 x7_0), .sc (.int .i64 0)]) [] [])) f (Jw 1 (RT.mk b 0 0)) (0) (0) b_z b_f ((Ja 1 (RT.mk b 0 0)).B) ((Ja 1 (RT.mk b 0 0)).P) (4) true ([]) else We f (fun x0_1 x1_1 x2_1 x3_1 x4_1 x5_1 x6_1 x7_1 => bif x5_1 == 0 then bif decide (x4_1 < zi x3_1.length) then k (Res.mk (.tup [.ro 99 true true [], .sc (.int .i64 9)]) [] []) else bif x5_1 == 0 then bif cOk (List.take x0_1 x7_1) then bif ckO (List.take x0_1 x7_1) != 0 then k (Res.mk (.tup [.ro 99 true true [], .sc (.int .i64 (ckO (List.take x0_1 x7_1)))]) [] []) else k (Res.mk (.tup [.ro 99 (Ent.vec false 99 x6_1 x7_1).nil false (List.take x0_1 x7_1), .sc (.int .i64 0)]) [] []) else none else bif x5_1 != 0 then k (Res.mk (.tup [.ro 99 true true [], .sc (.int .i64 x5_1)]) [] []) else k (Res.mk (.tup [.ro 99 (Ent.vec false 99 x6_1 x7_1).nil false (List.take x0_1 x7_1), .sc (.int .i64 0)]) [] []) else bif x5_1 == 0 then bif cOk (List.take x0_1 x7_1) then bif ckO (List.take x0_1 x7_1) != 0 then k (Res.mk (.tup [.ro 99 true true [], .sc (.int .i64 (ckO (List.take x0_1 x7_1)))]) [] []) else k (Res.mk (.tup [.ro 99 (Ent.vec false 99 x6_1 x7_1).nil false (List.take x0_1 x7_1), .sc (.int .i64 0)]) [] []) else none else bif x5_1 != 0 then k (Res.mk (.tup [.ro 99 true true [], .sc (.int .i64 x5_1)]) [] []) else k (Res.mk (.tup [.ro 99 (Ent.vec false 99 x6_1 x7_1).nil false (List.take x0_1 x7_1), .sc (.int .i64 0)]) [] [])) f (Jw 1 (RT.mk b 0 0)) (0) (0) b_z b_f ((Ja 1 (RT.mk b 0 0)).B) ((Ja 1 (RT.mk b 0 0)).P) ((Ja 1 (RT.mk b 0 0)).e) true ([]) else We f (fun x0_2 x1_2 x2_2 x3_2 x4_2 x5_2 x6_2 x7_2 => bif x5_2 == 0 then bif decide (x4_2 < zi x3_2.length) then k (Res.mk (.tup [.ro 99 true true [], .sc (.int .i64 9)]) [] []) else bif x5_2 == 0 then bif cOk (List.take x0_2 x7_2) then bif ckO (List.take x0_2 x7_2) != 0 then k (Res.mk (.tup [.ro 99 true true [], .sc (.int .i64 (ckO (List.take x0_2 x7_2)))]) [] []) else k (Res.mk (.tup [.ro 99 (Ent.vec false 99 x6_2 x7_2).nil false (List.take x0_2 x7_2), .sc (.int .i64 0)]) [] []) else none else bif x5_2 != 0 then k (Res.mk (.tup [.ro 99 true true [], .sc (.int .i64 x5_2)]) [] []) else k (Res.mk (.tup [.ro 99 (Ent.vec false 99 x6_2 x7_2).nil false (List.take x0_2 x7_2), .sc (.int .i64 0)]) [] []) else bif x5_2 == 0 then bif cOk (List.take x0_2 x7_2) then bif ckO (List.take x0_2 x7_2) != 0 then k (Res.mk (.tup [.ro 99 true true [], .sc (.int .i64 (ckO (List.take x0_2 x7_2)))]) [] []) else k (Res.mk (.tup [.ro 99 (Ent.vec false 99 x6_2 x7_2).nil false (List.take x0_2 x7_2), .sc (.int .i64 0)]) [] []) else none else bif x5_2 != 0 then k (Res.mk (.tup [.ro 99 true true [], .sc (.int .i64 x5_2)]) [] []) else k (Res.mk (.tup [.ro 99 (Ent.vec false 99 x6_2 x7_2).nil false (List.take x0_2 x7_2), .sc (.int .i64 0)]) [] [])) f (Jw 1 (RT.mk b 0 0)) (0) (0) b_z b_f ((Ja 1 (RT.mk b 0 0)).B) ((Ja 1 (RT.mk b 0 0)).P) ((Ja 1 (RT.mk b 0 0)).e) true ([]) else none
theorem JAV (f : Nat) (b_z : Bool) (b_f : Bool) (b : List PV) (k : Res → Option Res) : JM tau JlY Try.f106 (Try.f106.body.get!) (Ji7 (Vp f)) [.ro, .ro] 0 [.ro 5 b_z b_f b] [] k = Js6 f b_z b_f b k := by kernel_rfl
theorem JxN (f : Nat) : Jg (Try.f106.body.get!) (Ji7 (Vp f)) = [.l GK WQ Jb6 (Vp f)] := by kernel_rfl
theorem JxO (f : Nat) : ∀ q ∈ Jg (Try.f106.body.get!) (Ji7 (Vp f)), q.Ok tau Try.prog 0 := by
  rw [JxN f]; simp only [List.forall_mem_cons, List.not_mem_nil, false_implies, implies_true, and_true]; exact Js5 f
theorem JqM : Try.prog.funcs[106]? = some Try.f106 := by kernel_rfl
theorem JqN : Try.f106.body = some (Try.f106.body.get!) := by kernel_rfl
theorem JxP : Enters Try.prog 106 := enters_of JqM (by kernel_rfl) JqN
-- FN delta.OpParse | ref8.OpParse
noncomputable def cpN (s : RS) : RS := J9 (Jb 8 (Jb 1 s))
noncomputable def cpV (s : RS) : PV := .st 99 [.sc (.int .i64 (Jt 1 s)), .sc (.int .i64 (Jt 8 (Jb 1 s))), .sc (.string (JQ (Jb 8 (Jb 1 s))))]
noncomputable def cpR : Nat → RS → RS
  | 0, s => s
  | n + 1, s => cpR n (cpN s)
noncomputable def cpL : Nat → RS → List PV
  | 0, _ => []
  | n + 1, s => cpV s :: cpL n (cpN s)
theorem Vq : ∀ (n : Nat) (s : RS), (cpL n s).length = n
  | 0, _ => rfl
  | n + 1, s => by rw [cpL, List.length_cons, Vq n]
theorem Jl0 : ∀ (n : Nat) (s : RS), (cpL n s).all isCp = true
  | 0, _ => rfl
  | n + 1, s => by rw [cpL, List.all_cons, Jl0 n, Bool.and_true]; exact JbD.2 ⟨_, _, _, rfl⟩
theorem Joz {s : RS} (h : byB s.b = true) : byB (cpN s).b = true := Jil (Qa (Qa h 1) 8)
noncomputable def opN (b : List PV) : Nat := bif decide (Jt 1 ⟨b, 0⟩ > 40) then 0 else (Jt 1 ⟨b, 0⟩).toNat
noncomputable def opS (b : List PV) : RS := bif decide (Jt 1 ⟨b, 0⟩ > 40) then Y0 4 (Jb 1 ⟨b, 0⟩) else Jb 1 ⟨b, 0⟩
noncomputable def Xz (b : List PV) : Int := bif (cpR (opN b) (opS b)).e == 0 then (bif decide ((cpR (opN b) (opS b)).b.length > 0) then 9 else ckO (cpL (opN b) (opS b))) else (cpR (opN b) (opS b)).e
noncomputable def opE : List PV → Int := hid Xz
noncomputable def opL : List PV → List PV := hid fun b => bif Xz b == 0 then cpL (opN b) (opS b) else []
noncomputable def opF : List PV → Bool := hid fun b => !(Xz b == 0)
theorem GL (b : List PV) : opE b = Xz b := by rw [opE, hid_eq]
theorem GM (b : List PV) : opL b = bif Xz b == 0 then cpL (opN b) (opS b) else [] := by rw [opL, hid_eq]
theorem Jhm (b : List PV) : opF b = !(Xz b == 0) := by rw [opF, hid_eq]
def Wf (e : Int) : PV := .tup [.ro 99 true true [], .sc (.int .i64 e)]
noncomputable def opP (b : List PV) : PV := .tup [.ro 99 (opL b).isEmpty (opL b).isEmpty (opL b), .sc (.int .i64 (opE b))]
noncomputable def opQ (b : List PV) : PV := .tup [.ro 99 (opL b).isEmpty (opF b) (opL b), .sc (.int .i64 (opE b))]
theorem Jd8 {b : List PV} {e : Int} (h : Xz b = e) (h0 : (e == 0) = false) : opP b = Wf e := by
  simp only [opP, Wf, GM, GL, h, h0, cond_false, List.isEmpty_nil]
theorem Jd9 {b : List PV} {e : Int} (h : Xz b = e) (h0 : (e == 0) = false) : opQ b = Wf e := by
  simp only [opQ, Wf, GM, GL, Jhm, h, h0, cond_false, List.isEmpty_nil, Bool.not_false]
theorem Js7 {b : List PV} (h : Xz b = 0) : opP b = .tup [.ro 99 (cpL (opN b) (opS b)).isEmpty (cpL (opN b) (opS b)).isEmpty (cpL (opN b) (opS b)), .sc (.int .i64 0)] := by
  simp only [opP, GM, GL, h, beq_self_eq_true, cond_true]
theorem Js8 {b : List PV} (h : Xz b = 0) : opQ b = .tup [.ro 99 (cpL (opN b) (opS b)).isEmpty false (cpL (opN b) (opS b)), .sc (.int .i64 0)] := by
  simp only [opQ, GM, GL, Jhm, h, beq_self_eq_true, cond_true, Bool.not_true]
theorem Jhn {b : List PV} (h : byB b = true) : opN b ≤ 40 := by
  unfold opN
  have h0 : 0 ≤ Jt 1 ⟨b, 0⟩ := by rw [WF]; exact (W3 (s := ⟨b, 0⟩) h (n := 1) (by omega)).1
  cases hc : decide (Jt 1 ⟨b, 0⟩ > 40) with
  | true => exact Nat.zero_le _
  | false => have : ¬ Jt 1 ⟨b, 0⟩ > 40 := by simpa using hc
             rw [cond_false]; omega
theorem JoA {b : List PV} (h : byB b = true) : byB (opS b).b = true := by
  have := Qa (s := ⟨b, 0⟩) h 1
  unfold opS Y0
  cases decide (Jt 1 ⟨b, 0⟩ > 40) <;> exact this
theorem Jea {n : Nat} (h : n ≤ 40) (s : RS) : cOk (cpL n s) = true := Yu.2 ⟨Jl0 n s, by rw [Vq]; omega⟩
theorem Jl1 (f : Nat) (k0 : Nat → Bool → Bool → List PV → Int → Bool → List PV → Option Res) (z fl : Bool) (hz : (!z || fl) = true) (N : Nat) (hN : N ≤ 40) : ∀ (d i n : Nat) (s : RS) (nl : Bool) (L : List PV), i + d = N → d < n → byB s.b = true → L.length = i →
    Wq f k0 n L.length (N : Int) (i : Int) z fl s.b s.e nl L = k0 (L ++ cpL d s).length z fl (cpR d s).b (cpR d s).e (nl && (cpL d s).isEmpty) (L ++ cpL d s)
  | 0, i, n + 1, s, nl, L, h, hn, hb, hL => by
      obtain rfl : i = N := by omega
      simp only [Wq, Zv, cpR, cpL, List.append_nil, List.isEmpty_nil, Bool.and_true]
      exact JK (by simp)
  | d + 1, i, n + 1, s, nl, L, h, hn, hb, hL => by
      have w : IntKind.i64.wrap ((i : Int) + 1) = ((i + 1 : Nat) : Int) := by rw [wrap_i64 (by omega) (by omega)]; omega
      have hm : RS.mk s.b s.e = s := rfl
      have hn1 : J9 (Jb 8 (Jb 1 s)) = cpN s := rfl
      have hv1 : PV.st 99 [.sc (.int .i64 (Jt 1 s)), .sc (.int .i64 (Jt 8 (Jb 1 s))), .sc (.string (JQ (Jb 8 (Jb 1 s))))] = cpV s := rfl
      simp only [Wq, Zv, w, hm, hn1, hv1, List.take_length]
      refine (Jc (by simp; omega)).trans ((Jc (by rw [hb, hz]; rfl)).trans ((Jc (by rw [Qa hb 1, hz]; rfl)).trans ((Jc (by rw [Qa (Qa hb 1) 8, hz]; rfl)).trans ((Jc (by simp [Jn]; omega)).trans ?_))))
      have := Jl1 f k0 z fl hz N hN d (i + 1) n (cpN s) (nl && false) (L ++ [cpV s]) (by omega) (by omega) (Joz hb) (by simp [hL])
      rw [List.length_append] at this
      refine Eq.trans this ?_
      simp only [cpR, cpL, Bool.and_false, Bool.false_and, List.isEmpty_cons, List.append_assoc, List.cons_append, List.nil_append]
theorem JoB (z f : Bool) (b : List PV) (hz : slB z b = true) (hb : byB b = true) (k : Res → Option Res) :
    Js1 50 z f b k = k ⟨opP b, [], []⟩ := by
  have hE : Xz b = Xz b := rfl
  conv at hE => rhs; unfold Xz
  have hN := Jhn hb
  have hS := JoA hb
  have key : ∀ (N : Nat) (s : RS) (K : Nat → Bool → Bool → List PV → Int → Bool → List PV → Option Res), opN b = N → opS b = s →
      (∀ (e : Int) (x1 x2 : Bool), Xz b = (bif (cpR N s).e == 0 then (bif decide ((cpR N s).b.length > 0) then 9 else ckO (cpL N s)) else (cpR N s).e) → K (cpL N s).length x1 x2 (cpR N s).b (cpR N s).e (true && (cpL N s).isEmpty) ([] ++ cpL N s) = k ⟨opP b, [], []⟩) →
      Wq 50 K 50 0 (N : Int) 0 z z s.b s.e true [] = k ⟨opP b, [], []⟩ := by
    intro N s K h1 h2 h3
    subst h1; subst h2
    refine (Jl1 50 K z z (by cases z <;> rfl) (opN b) hN (opN b) 0 50 (opS b) true [] (by omega) (by omega) hS rfl).trans ?_
    exact h3 0 z z hE
  have fin : ∀ (N : Nat) (s : RS), opN b = N → opS b = s → Xz b = (bif (cpR N s).e == 0 then (bif decide ((cpR N s).b.length > 0) then 9 else ckO (cpL N s)) else (cpR N s).e) →
      (bif (cpR N s).e == 0 then
        bif decide (zi (cpR N s).b.length > 0) then k ⟨Wf 9, [], []⟩
        else bif (cpR N s).e == 0 then
          bif cOk (List.take (cpL N s).length ([] ++ cpL N s)) then
            bif ckO (List.take (cpL N s).length ([] ++ cpL N s)) != 0 then k ⟨Wf (ckO (List.take (cpL N s).length ([] ++ cpL N s))), [], []⟩
            else bif (Ent.vec false 99 (true && (cpL N s).isEmpty) ([] ++ cpL N s)).nil then k ⟨Wf 0, [], []⟩
            else bif Jn (0 + (List.take (cpL N s).length ([] ++ cpL N s)).length) 32 && true then k ⟨.tup [.ro 99 false false (List.take (0 + (List.take (cpL N s).length ([] ++ cpL N s)).length) (List.take (cpL N s).length ([] ++ cpL N s))), .sc (.int .i64 0)], [], []⟩ else none
          else none
        else bif (cpR N s).e != 0 then k ⟨Wf (cpR N s).e, [], []⟩
        else bif (Ent.vec false 99 (true && (cpL N s).isEmpty) ([] ++ cpL N s)).nil then k ⟨Wf 0, [], []⟩
            else bif Jn (0 + (List.take (cpL N s).length ([] ++ cpL N s)).length) 32 && true then k ⟨.tup [.ro 99 false false (List.take (0 + (List.take (cpL N s).length ([] ++ cpL N s)).length) (List.take (cpL N s).length ([] ++ cpL N s))), .sc (.int .i64 0)], [], []⟩ else none
      else bif (cpR N s).e == 0 then
          bif cOk (List.take (cpL N s).length ([] ++ cpL N s)) then
            bif ckO (List.take (cpL N s).length ([] ++ cpL N s)) != 0 then k ⟨Wf (ckO (List.take (cpL N s).length ([] ++ cpL N s))), [], []⟩
            else bif (Ent.vec false 99 (true && (cpL N s).isEmpty) ([] ++ cpL N s)).nil then k ⟨Wf 0, [], []⟩
            else bif Jn (0 + (List.take (cpL N s).length ([] ++ cpL N s)).length) 32 && true then k ⟨.tup [.ro 99 false false (List.take (0 + (List.take (cpL N s).length ([] ++ cpL N s)).length) (List.take (cpL N s).length ([] ++ cpL N s))), .sc (.int .i64 0)], [], []⟩ else none
          else none
        else bif (cpR N s).e != 0 then k ⟨Wf (cpR N s).e, [], []⟩
        else bif (Ent.vec false 99 (true && (cpL N s).isEmpty) ([] ++ cpL N s)).nil then k ⟨Wf 0, [], []⟩
            else bif Jn (0 + (List.take (cpL N s).length ([] ++ cpL N s)).length) 32 && true then k ⟨.tup [.ro 99 false false (List.take (0 + (List.take (cpL N s).length ([] ++ cpL N s)).length) (List.take (cpL N s).length ([] ++ cpL N s))), .sc (.int .i64 0)], [], []⟩ else none) = k ⟨opP b, [], []⟩ := by
    intro N s h1 h2 h3
    have hco : cOk (cpL N s) = true := Jea (by omega) s
    have hnl : (Ent.vec false 99 (cpL N s).isEmpty (cpL N s)).nil = (cpL N s).isEmpty := by simp [Ent.nil]
    have hlen : (cpL N s).length ≤ 40 := by rw [Vq]; omega
    have hz9 : decide (zi (cpR N s).b.length > 0) = decide ((cpR N s).b.length > 0) := by apply decide_eq_decide.2; simp only [zi]; omega
    simp only [List.nil_append, List.take_length, Bool.true_and, Nat.zero_add, hco, hnl, hz9, cond_true]
    cases he : ((cpR N s).e == 0) with
    | false =>
      rw [he, cond_false] at h3
      rw [Jd8 h3 he]
      simp only [cond_false]
      exact Jc (by rw [bne, he]; rfl)
    | true =>
      rw [he, cond_true] at h3
      cases h9 : decide ((cpR N s).b.length > 0) with
      | true =>
        rw [h9, cond_true] at h3
        rw [Jd8 h3 (by decide)]
        rfl
      | false =>
        rw [h9, cond_false] at h3
        simp only [cond_true, cond_false]
        cases hc : (ckO (cpL N s) == 0) with
        | false =>
          rw [Jd8 h3 hc]
          exact Jc (by rw [bne, hc]; rfl)
        | true =>
          have hc' : ckO (cpL N s) = 0 := by simpa using hc
          rw [hc'] at h3
          rw [Js7 h3, h1, h2]
          refine (JK (by rw [bne, hc]; rfl)).trans ?_
          cases hl : cpL N s with
          | nil => rfl
          | cons p ps =>
            rw [hl] at hlen
            refine (JK rfl).trans ((Jc (by simp [Jn] at hlen ⊢; omega)).trans rfl)
  unfold Js1
  refine (Jc hz).trans ((Jc (by rw [hb]; cases z <;> rfl)).trans ?_)
  have h0 : 0 ≤ Jt 1 ⟨b, 0⟩ := by rw [WF]; exact (W3 (s := ⟨b, 0⟩) hb (n := 1) (by omega)).1
  cases h4 : decide (Jt 1 ⟨b, 0⟩ > 40) with
  | true =>
    have hN0 : opN b = 0 := by unfold opN; rw [h4]; rfl
    have hS0 : opS b = Y0 4 (Jb 1 ⟨b, 0⟩) := by unfold opS; rw [h4]; rfl
    rw [cond_true]
    cases he : ((Jb 1 ⟨b, 0⟩).e == 0) with
    | true =>
      rw [cond_true]
      have hs : opS b = ⟨(Jb 1 ⟨b, 0⟩).b, 4⟩ := by rw [hS0]; unfold Y0; rw [he]; rfl
      exact key 0 ⟨(Jb 1 ⟨b, 0⟩).b, 4⟩ _ hN0 hs fun _ _ _ h => fin 0 _ hN0 hs h
    | false =>
      rw [cond_false]
      have hs : opS b = ⟨(Jb 1 ⟨b, 0⟩).b, (Jb 1 ⟨b, 0⟩).e⟩ := by rw [hS0]; unfold Y0; rw [he]; rfl
      exact key 0 ⟨(Jb 1 ⟨b, 0⟩).b, (Jb 1 ⟨b, 0⟩).e⟩ _ hN0 hs fun _ _ _ h => fin 0 _ hN0 hs h
  | false =>
    have hN0 : opN b = (Jt 1 ⟨b, 0⟩).toNat := by unfold opN; rw [h4]; rfl
    have hS0 : opS b = Jb 1 ⟨b, 0⟩ := by unfold opS; rw [h4]; rfl
    rw [cond_false]
    have q := fun K hK => key (Jt 1 ⟨b, 0⟩).toNat (Jb 1 ⟨b, 0⟩) K hN0 hS0 hK
    rw [Int.toNat_of_nonneg h0] at q
    exact q _ fun _ _ _ h => fin _ _ hN0 hS0 h
noncomputable def Jeb : List PV → List Ent → (Res → Option Res) → Option Res
  | [.ro 5 z f b], [], k => bif slB z b && byB b then k ⟨opP b, [], []⟩ else none
  | _, _, _ => none
noncomputable def JqO : Sig := { own := [], run := Jeb }
theorem Js9 : Ji tau Try.prog 143 JqO := Ji.mk' fun xs es k res hl hr => by
  change Jeb xs es k = some res at hr
  unfold Jeb at hr
  split at hr
  · rename_i z f b
    obtain ⟨hc, hr⟩ := JL hr
    rw [Bool.and_eq_true] at hc
    have hg := (JoB z f b hc.1 hc.2 k).trans hr
    exact QQ Jr Ji4 Js JqK JqL (Ji5 (Vo 50)) [.ro, .ro] 0 0 (JxB 50) hl rfl ((JAM 50 z f b k).trans hg)
  · cases hr
/-! The document's. -/
theorem JoC {s : RS} (h : s.e ≠ 0) : cpN s = s := by
  unfold cpN; rw [Wb, Wb, VK h, VK h, VI]; unfold Jcv; rw [VK h 2, VK h]
theorem Ji8 : ∀ (n : Nat) {s : RS}, s.e ≠ 0 → cpR n s = s
  | 0, _, _ => rfl
  | n + 1, s, h => by show cpR n (cpN s) = s; rw [JoC h, Ji8 n h]
theorem Jho (f : Nat) (k0 : Nat → Bool → Bool → List PV → Int → Int → Bool → List PV → Option Res) (n : Nat) {N i : Int} {z fl : Bool} {B : List PV} {P e : Int} (he : (e == 0) = false) {m : Nat} {nl : Bool} {L : List PV} :
    We f k0 (n + 1) N m i z fl B P e nl L = k0 m z fl B P e nl L := by
  simp only [We, XP, he, cond_false]
  cases decide (i < N) <;> rfl
theorem Jl2 (f : Nat) (k0 : Nat → Bool → Bool → List PV → Int → Int → Bool → List PV → Option Res) (R : Option Res) {z fl : Bool} (N : Nat) (hN : N ≤ 40) :
    ∀ (d i n : Nat) (t : RT) (nl : Bool) (L : List PV), i + d = N → d < n → okT t = true → L.length ≤ i →
    (∀ (t' : RT) (nl' : Bool) (L' : List PV), okT t' = true → t'.view = cpR d t.view → L'.length ≤ 40 → (t'.view.e = 0 → L' = L ++ cpL d t.view ∧ nl' = (nl && (cpL d t.view).isEmpty)) → k0 L'.length z fl t'.B t'.P t'.e nl' L' = R) →
    We f k0 n (N : Int) L.length (i : Int) z fl t.B t.P t.e nl L = R
  | 0, i, n + 1, t, nl, L, h, hn, ht, hL, hk => by
      simp only [We, XP]
      exact (JK (by simp; omega)).trans (hk t nl L ht rfl (by omega) fun _ => by simp [cpL])
  | d + 1, i, n + 1, t, nl, L, h, hn, ht, hL, hk => by
      cases he : (t.e == 0) with
      | false =>
        have he' : t.view.e ≠ 0 := by simpa [RT.view] using he
        rw [Jho f k0 n he]
        exact hk t nl L ht (Ji8 _ he').symm (by omega) fun h0 => absurd h0 he'
      | true =>
        have w : IntKind.i64.wrap ((i : Int) + 1) = ((i + 1 : Nat) : Int) := by rw [wrap_i64 (by omega) (by omega)]; omega
        have hm : RT.mk t.B t.P t.e = t := rfl
        have o1 := Qr ht 1
        have o2 := Qr o1 8
        have hview : (J3 (Ja 8 (Ja 1 t))).view = cpN t.view := by simp only [Jcw, Qe, cpN]
        have hv1 : PV.st 99 [.sc (.int .i64 (Jw 1 t)), .sc (.int .i64 (Jw 8 (Ja 1 t))), .sc (.string (JJ (Ja 8 (Ja 1 t))))] = cpV t.view := by simp only [Wc, Jcx, Qe, cpV]
        simp only [We, XP, w, hm, List.take_length, he]
        refine (Jc (by simp; omega)).trans ((Jc rfl).trans ((Jc ht).trans ((Jc o1).trans ((Jc o2).trans ((Jc (by simp [Jn]; omega)).trans ?_)))))
        rw [hv1]
        have := Jl2 f k0 R (z := z) (fl := fl) N hN d (i + 1) n (J3 (Ja 8 (Ja 1 t))) (nl && false) (L ++ [cpV t.view]) (by omega) (by omega) (Je1 o2) (by simp; omega) fun t' nl' L' h1 h2 h3 h4 => hk t' nl' L' h1 (by rw [h2, hview]; rfl) h3 fun h0 => by
          obtain ⟨q1, q2⟩ := h4 h0
          rw [hview] at q1 q2
          exact ⟨by rw [q1]; simp [cpL], by rw [q2]; simp [cpL]⟩
        rw [List.length_append] at this
        exact this
theorem JoD (z f : Bool) (b : List PV) (hb : byB b = true) (hlen : b.length ≤ 1000000000) (k : Res → Option Res) :
    Js6 50 z f b k = k ⟨opQ b, [], []⟩ := by
  have hE : Xz b = Xz b := rfl
  conv at hE => rhs; unfold Xz
  have hN := Jhn hb
  have hok0 : okT (RT.mk b 0 0) = true := by simp [okT, hb]; omega
  have hv0 : (RT.mk b 0 0).view = RS.mk b 0 := rfl
  have fin : ∀ (t' : RT) (nl' : Bool) (L' : List PV), okT t' = true → t'.view = cpR (opN b) (opS b) → L'.length ≤ 40 → (t'.view.e = 0 → L' = cpL (opN b) (opS b) ∧ nl' = (cpL (opN b) (opS b)).isEmpty) →
      (bif t'.e == 0 then
        bif decide (t'.P < zi t'.B.length) then k ⟨Wf 9, [], []⟩
        else bif t'.e == 0 then
          bif cOk (List.take L'.length L') then
            bif ckO (List.take L'.length L') != 0 then k ⟨Wf (ckO (List.take L'.length L')), [], []⟩
            else k ⟨.tup [.ro 99 (Ent.vec false 99 nl' L').nil false (List.take L'.length L'), .sc (.int .i64 0)], [], []⟩
          else none
        else bif t'.e != 0 then k ⟨Wf t'.e, [], []⟩
        else k ⟨.tup [.ro 99 (Ent.vec false 99 nl' L').nil false (List.take L'.length L'), .sc (.int .i64 0)], [], []⟩
      else bif t'.e == 0 then
          bif cOk (List.take L'.length L') then
            bif ckO (List.take L'.length L') != 0 then k ⟨Wf (ckO (List.take L'.length L')), [], []⟩
            else k ⟨.tup [.ro 99 (Ent.vec false 99 nl' L').nil false (List.take L'.length L'), .sc (.int .i64 0)], [], []⟩
          else none
        else bif t'.e != 0 then k ⟨Wf t'.e, [], []⟩
        else k ⟨.tup [.ro 99 (Ent.vec false 99 nl' L').nil false (List.take L'.length L'), .sc (.int .i64 0)], [], []⟩) = k ⟨opQ b, [], []⟩ := by
    intro t' nl' L' ht hV hL hq
    have hve : t'.e = (cpR (opN b) (opS b)).e := by rw [← hV]; rfl
    have hvP : decide (t'.P < zi t'.B.length) = decide ((cpR (opN b) (opS b)).b.length > 0) := by
      rw [← hV]
      show decide _ = decide ((List.drop _ _).length > 0)
      rw [List.length_drop]
      simp only [okT, Bool.and_eq_true, decide_eq_true_eq] at ht
      apply decide_eq_decide.2
      simp only [zi]; omega
    simp only [hvP, List.take_length]
    cases he : (t'.e == 0) with
    | false =>
      have he2 : ((cpR (opN b) (opS b)).e == 0) = false := by rw [← hve]; exact he
      rw [he2, cond_false, ← hve] at hE
      rw [Jd9 hE he]
      simp only [cond_false]
      exact Jc (by rw [bne, he]; rfl)
    | true =>
      have he2 : ((cpR (opN b) (opS b)).e == 0) = true := by rw [← hve]; exact he
      rw [he2, cond_true] at hE
      cases h9 : decide ((cpR (opN b) (opS b)).b.length > 0) with
      | true =>
        rw [h9, cond_true] at hE
        rw [Jd9 hE (by decide)]
        rfl
      | false =>
        rw [h9, cond_false] at hE
        obtain ⟨w1, w2⟩ := hq (by have := he; rw [beq_iff_eq] at this; exact this)
        simp only [cond_true, cond_false]
        rw [w1, w2]
        have hco : cOk (cpL (opN b) (opS b)) = true := Jea hN _
        have hnl : (Ent.vec false 99 (cpL (opN b) (opS b)).isEmpty (cpL (opN b) (opS b))).nil = (cpL (opN b) (opS b)).isEmpty := by simp [Ent.nil]
        refine (Jc hco).trans ?_
        cases hc : (ckO (cpL (opN b) (opS b)) == 0) with
        | false =>
          rw [Jd9 hE hc]
          exact Jc (by rw [bne, hc]; rfl)
        | true =>
          have hc' : ckO (cpL (opN b) (opS b)) = 0 := by simpa using hc
          rw [hc'] at hE
          rw [Js8 hE, hnl]
          exact (JK (by rw [bne, hc]; rfl))
  unfold Js6
  refine (Jc hok0).trans ?_
  have hn : Jw 1 (RT.mk b 0 0) = Jt 1 ⟨b, 0⟩ := by rw [Wc, hv0]
  have hvs : (Ja 1 (RT.mk b 0 0)).view = Jb 1 ⟨b, 0⟩ := by rw [Qe, hv0]
  have hos : okT (Ja 1 (RT.mk b 0 0)) = true := Qr hok0 1
  generalize hst : Ja 1 (RT.mk b 0 0) = st at *
  have hse : st.e = (Jb 1 ⟨b, 0⟩).e := by rw [← hvs]; rfl
  rw [hn]
  have h0 : 0 ≤ Jt 1 ⟨b, 0⟩ := by rw [WF]; exact (W3 (s := ⟨b, 0⟩) hb (n := 1) (by omega)).1
  cases h4 : decide (Jt 1 ⟨b, 0⟩ > 40) with
  | true =>
    have hN0 : opN b = 0 := by unfold opN; rw [h4]; rfl
    have hS0 : opS b = Y0 4 (Jb 1 ⟨b, 0⟩) := by unfold opS; rw [h4]; rfl
    rw [cond_true]
    cases he : (st.e == 0) with
    | true =>
      rw [cond_true]
      refine (Jho 50 _ 49 (by decide)).trans ?_
      refine fin ⟨st.B, st.P, 4⟩ true [] hos ?_ (by decide) fun h => ?_
      · rw [hN0, hS0, ← hvs]
        show RS.mk _ _ = Y0 4 st.view
        unfold Y0
        rw [show (st.view.e == 0) = true from he]; rfl
      · have h' : (4 : Int) = 0 := h
        exact absurd h' (by decide)
    | false =>
      rw [cond_false]
      refine (Jho 50 _ 49 he).trans ?_
      refine fin st true [] hos ?_ (by decide) fun h => ?_
      · rw [hN0, hS0, ← hvs]
        show st.view = Y0 4 st.view
        unfold Y0
        rw [show (st.view.e == 0) = false from he]; rfl
      · have h' : st.e = 0 := h
        rw [h'] at he; exact absurd he (by decide)
  | false =>
    have hN0 : opN b = (Jt 1 ⟨b, 0⟩).toNat := by unfold opN; rw [h4]; rfl
    have hS0 : opS b = Jb 1 ⟨b, 0⟩ := by unfold opS; rw [h4]; rfl
    rw [cond_false]
    have hcn : Jt 1 ⟨b, 0⟩ = ((opN b : Nat) : Int) := by rw [hN0]; exact (Int.toNat_of_nonneg h0).symm
    rw [hcn]
    refine Jl2 50 _ _ (opN b) hN (opN b) 0 50 st true [] (by omega) (by omega) hos (by decide) fun t' nl' L' q1 q2 q3 q4 => ?_
    have hVt : st.view = opS b := by rw [hS0, hvs]
    rw [hVt] at q2 q4
    exact fin t' nl' L' q1 q2 q3 fun h => by
      obtain ⟨w1, w2⟩ := q4 h
      exact ⟨by rw [w1, List.nil_append], by rw [w2, Bool.true_and]⟩
noncomputable def Jec : List PV → List Ent → (Res → Option Res) → Option Res
  | [.ro 5 z f b], [], k => bif byB b && Nat.ble b.length 1000000000 then k ⟨opQ b, [], []⟩ else none
  | _, _, _ => none
noncomputable def JqP : Sig := { own := [], run := Jec }
theorem Jta : Ji tau Try.prog 106 JqP := Ji.mk' fun xs es k res hl hr => by
  change Jec xs es k = some res at hr
  unfold Jec at hr
  split at hr
  · rename_i z f b
    obtain ⟨hc, hr⟩ := JL hr
    rw [Bool.and_eq_true, Nat.ble_eq] at hc
    have hg := (JoD z f b hc.1 hc.2 k).trans hr
    exact QQ Jr Ji6 Js JqM JqN (Ji7 (Vp 50)) [.ro, .ro] 0 0 (JxO 50) hl rfl ((JAV 50 z f b k).trans hg)
  · cases hr
noncomputable def JxQ : Fns := F0
theorem JoE : Jz tau Try.prog JxQ := JG
def Ji9 : An := (.seq .leaf (.seq .leaf .leaf))
noncomputable def JxR (f : Nat) (n : Int) (most : Int) (k : Res → Option Res) : Option Res :=
  bif decide (n ≥ 0) then
    k (Res.mk (PV.sc (Value.bool (decide (n ≤ most)))) [] [])
  else k (Res.mk (PV.sc (Value.bool false)) [] [])
theorem JAW (f : Nat) (n : Int) (most : Int) (k : Res → Option Res) : JM tau JxQ Try.f163 (Try.f163.body.get!) Ji9 [.ro] 0 [.sc (.int .i64 n), .sc (.int .i64 most)] [] k = JxR f n most k := by kernel_rfl
theorem JxS (f : Nat) : Jg (Try.f163.body.get!) Ji9 = [] := by kernel_rfl
theorem JxT (f : Nat) : ∀ q ∈ Jg (Try.f163.body.get!) Ji9, q.Ok tau Try.prog 0 := by
  rw [JxS f]; intro q hq; cases hq
theorem JqQ : Try.prog.funcs[163]? = some Try.f163 := by kernel_rfl
theorem JqR : Try.f163.body = some (Try.f163.body.get!) := by kernel_rfl
theorem JqS : Enters Try.prog 163 := enters_of JqQ (by kernel_rfl) JqR
noncomputable def Jhp : List PV → List Ent → (Res → Option Res) → Option Res
  | [.sc (.int .i64 n), .sc (.int .i64 most)], [], k => JxR 0 n most k
  | _, _, _ => none
noncomputable def Jtb : Sig := { own := [], run := Jhp }
theorem JqT : Ji tau Try.prog 163 Jtb := JS Jr JoE Js JqQ JqR Ji9 [.ro] 0 [] Jhp (JxT 0) fun xs es k res hr => by
  unfold Jhp at hr
  split at hr
  · exact ⟨rfl, 0, (JAW 0 _ _  _).trans hr⟩
  · cases hr
noncomputable def JxU : Fns := JD 163 Jtb (F0)
theorem JoF : Jz tau Try.prog JxU := (JG).add JqT JqS
def Jja : An := (.seq .leaf (.seq .leaf .leaf))
noncomputable def JxV (f : Nat) (a_D : Int) (a_U : Int) (k : Res → Option Res) : Option Res :=
  bif decide (a_D ≥ 0) then
    bif decide (a_D ≤ 2) then
      bif decide (a_U ≥ 0) then
        k (Res.mk (PV.sc (Value.bool (decide (a_U ≤ 7)))) [] [])
      else k (Res.mk (PV.sc (Value.bool false)) [] [])
    else k (Res.mk (PV.sc (Value.bool false)) [] [])
  else k (Res.mk (PV.sc (Value.bool false)) [] [])
theorem JAX (f : Nat) (a_D : Int) (a_U : Int) (k : Res → Option Res) : JM tau JxU Try.f162 (Try.f162.body.get!) Jja [.ro] 0 [.st 45 [.sc (.int .i64 a_D), .sc (.int .i64 a_U)]] [] k = JxV f a_D a_U k := by kernel_rfl
theorem JxW (f : Nat) : Jg (Try.f162.body.get!) Jja = [] := by kernel_rfl
theorem JxX (f : Nat) : ∀ q ∈ Jg (Try.f162.body.get!) Jja, q.Ok tau Try.prog 0 := by
  rw [JxW f]; intro q hq; cases hq
theorem JqU : Try.prog.funcs[162]? = some Try.f162 := by kernel_rfl
theorem JqV : Try.f162.body = some (Try.f162.body.get!) := by kernel_rfl
theorem JxY : Enters Try.prog 162 := enters_of JqU (by kernel_rfl) JqV
noncomputable def Jhq : List PV → List Ent → (Res → Option Res) → Option Res
  | [.st 45 [.sc (.int .i64 a_D), .sc (.int .i64 a_U)]], [], k => JxV 0 a_D a_U k
  | _, _, _ => none
noncomputable def JxZ : Sig := { own := [], run := Jhq }
theorem Jx0 : Ji tau Try.prog 162 JxZ := JS Jr JoF Js JqU JqV Jja [.ro] 0 [] Jhq (JxX 0) fun xs es k res hr => by
  unfold Jhq at hr
  split at hr
  · exact ⟨rfl, 0, (JAX 0 _ _  _).trans hr⟩
  · cases hr
noncomputable def Jx1 : Fns := JD 163 Jtb (JD 162 JxZ (JD 160 JlG (F0)))
theorem JoG : Jz tau Try.prog Jx1 := (((JG).add JlH Jqz).add Jx0 JxY).add JqT JqS
def Jjb : An := (.seq .leaf (.seq (.seq .leaf (.cond (.seq .leaf .leaf) .leaf)) (.seq (.seq .leaf (.block none (.seq .leaf (.cond (.seq (.seq .leaf (.seq .leaf (.cond (.seq .leaf .leaf) .leaf))) (.seq .leaf (.cond (.seq .leaf .leaf) .leaf))) (.seq (.seq .leaf (.cond .leaf .leaf)) (.cond (.seq .leaf (.cond (.seq .leaf .leaf) .leaf)) (.seq .leaf .leaf))))))) (.seq .leaf .leaf))))
noncomputable def JoH (f : Nat) (d_Author_D : Int) (d_Author_U : Int) (d_Id : Int) (d_Version : Int) (d_Hash : List PV) (d_Kind : Int) (d_Op_z : Bool) (d_Op_f : Bool) (d_Op : List PV) (d_Who_D : Int) (d_Who_U : Int) (k : Res → Option Res) : Option Res := bif decide (d_Author_D ≥ 0) then bif decide (d_Author_D ≤ 2) then bif decide (d_Author_U ≥ 0) then bif !decide (d_Author_U ≤ 7) then k (Res.mk (.sc (.int .i64 1)) [] []) else bif decide (d_Id ≥ 0) then bif !decide (d_Id ≤ 1073741824) then k (Res.mk (.sc (.int .i64 1)) [] []) else bif decide (d_Version ≥ 0) then bif !decide (d_Version ≤ 1048576) then k (Res.mk (.sc (.int .i64 1)) [] []) else bif d_Kind == 1 then bif cOk d_Op then bif ckO d_Op != 0 then k (Res.mk (.sc (.int .i64 (ckO d_Op))) [] []) else bif !(d_Who_D == 0 && (d_Who_U == 0 && true)) then k (Res.mk (.sc (.int .i64 1)) [] []) else k (Res.mk (.sc (.int .i64 0)) [] []) else none else bif d_Kind == 2 then bif d_Kind == 2 then bif decide (zi d_Op.length > 0) then k (Res.mk (.sc (.int .i64 1)) [] []) else bif decide (d_Who_D ≥ 0) then bif decide (d_Who_D ≤ 2) then bif decide (d_Who_U ≥ 0) then bif !decide (d_Who_U ≤ 7) then k (Res.mk (.sc (.int .i64 1)) [] []) else k (Res.mk (.sc (.int .i64 0)) [] []) else k (Res.mk (.sc (.int .i64 1)) [] []) else k (Res.mk (.sc (.int .i64 1)) [] []) else k (Res.mk (.sc (.int .i64 1)) [] []) else k (Res.mk (.sc (.int .i64 3)) [] []) else bif d_Kind == 3 then bif decide (zi d_Op.length > 0) then k (Res.mk (.sc (.int .i64 1)) [] []) else bif decide (d_Who_D ≥ 0) then bif decide (d_Who_D ≤ 2) then bif decide (d_Who_U ≥ 0) then bif !decide (d_Who_U ≤ 7) then k (Res.mk (.sc (.int .i64 1)) [] []) else k (Res.mk (.sc (.int .i64 0)) [] []) else k (Res.mk (.sc (.int .i64 1)) [] []) else k (Res.mk (.sc (.int .i64 1)) [] []) else k (Res.mk (.sc (.int .i64 1)) [] []) else k (Res.mk (.sc (.int .i64 3)) [] []) else k (Res.mk (.sc (.int .i64 1)) [] []) else k (Res.mk (.sc (.int .i64 1)) [] []) else k (Res.mk (.sc (.int .i64 1)) [] []) else k (Res.mk (.sc (.int .i64 1)) [] []) else k (Res.mk (.sc (.int .i64 1)) [] [])
theorem JAY (f : Nat) (d_Author_D : Int) (d_Author_U : Int) (d_Id : Int) (d_Version : Int) (d_Hash : List PV) (d_Kind : Int) (d_Op_z : Bool) (d_Op_f : Bool) (d_Op : List PV) (d_Who_D : Int) (d_Who_U : Int) (k : Res → Option Res) : JM tau Jx1 Try.f144 (Try.f144.body.get!) Jjb [.ro] 0 [.st 73 [.st 45 [.sc (.int .i64 d_Author_D), .sc (.int .i64 d_Author_U)], .sc (.int .i64 d_Id), .sc (.int .i64 d_Version), .ar 37 d_Hash, .sc (.int .i64 d_Kind), .ro 99 d_Op_z d_Op_f d_Op, .st 45 [.sc (.int .i64 d_Who_D), .sc (.int .i64 d_Who_U)]]] [] k = JoH f d_Author_D d_Author_U d_Id d_Version d_Hash d_Kind d_Op_z d_Op_f d_Op d_Who_D d_Who_U k := by kernel_rfl
theorem Jx2 (f : Nat) : Jg (Try.f144.body.get!) Jjb = [] := by kernel_rfl
theorem Jx3 (f : Nat) : ∀ q ∈ Jg (Try.f144.body.get!) Jjb, q.Ok tau Try.prog 0 := by
  rw [Jx2 f]; intro q hq; cases hq
theorem JqW : Try.prog.funcs[144]? = some Try.f144 := by kernel_rfl
theorem JqX : Try.f144.body = some (Try.f144.body.get!) := by kernel_rfl
theorem Jx4 : Enters Try.prog 144 := enters_of JqW (by kernel_rfl) JqX
noncomputable def Jhr : List PV → List Ent → (Res → Option Res) → Option Res
  | [.st 73 [.st 45 [.sc (.int .i64 d_Author_D), .sc (.int .i64 d_Author_U)], .sc (.int .i64 d_Id), .sc (.int .i64 d_Version), .ar 37 d_Hash, .sc (.int .i64 d_Kind), .ro 99 d_Op_z d_Op_f d_Op, .st 45 [.sc (.int .i64 d_Who_D), .sc (.int .i64 d_Who_U)]]], [], k => JoH 0 d_Author_D d_Author_U d_Id d_Version d_Hash d_Kind d_Op_z d_Op_f d_Op d_Who_D d_Who_U k
  | _, _, _ => none
noncomputable def JAZ : Sig := { own := [], run := Jhr }
theorem Jx5 : Ji tau Try.prog 144 JAZ := JS Jr JoG Js JqW JqX Jjb [.ro] 0 [] Jhr (Jx3 0) fun xs es k res hr => by
  unfold Jhr at hr
  split at hr
  · exact ⟨rfl, 0, (JAY 0 _ _ _ _ _ _ _ _ _ _ _  _).trans hr⟩
  · cases hr


noncomputable def F92 : Fns := F0
def JA0 : An := (.seq .leaf (.seq .leaf .leaf))
noncomputable def g92 (f : Nat) (n : Int) (top : Int) (k : Res → Option Res) : Option Res := bif decide (n ≥ 0) then k (Res.mk (.sc (.bool (decide (n ≤ top)))) [] []) else k (Res.mk (.sc (.bool false)) [] [])
theorem e92 (f : Nat) (n : Int) (top : Int) (k : Res → Option Res) : JM tau F92 Try.f92 (Try.f92.body.get!) JA0 [.ro] 0 [.sc (.int .i64 n), .sc (.int .i64 top)] [] k = g92 f n top k := by kernel_rfl
noncomputable def F91 : Fns := F0
theorem Jtc : Jz tau Try.prog F91 := JG
def JoI : An := (.seq .leaf (.seq .leaf .leaf))
noncomputable def g91 (f : Nat) (a_D : Int) (a_U : Int) (k : Res → Option Res) : Option Res := bif decide (a_D ≥ 0) then bif decide (a_D < 3) then bif decide (a_U ≥ 0) then k (Res.mk (.sc (.bool (decide (a_U < 8)))) [] []) else k (Res.mk (.sc (.bool false)) [] []) else k (Res.mk (.sc (.bool false)) [] []) else k (Res.mk (.sc (.bool false)) [] [])
theorem e91 (f : Nat) (a_D : Int) (a_U : Int) (k : Res → Option Res) : JM tau F91 Try.f91 (Try.f91.body.get!) JoI [.ro] 0 [.st 45 [.sc (.int .i64 a_D), .sc (.int .i64 a_U)]] [] k = g91 f a_D a_U k := by kernel_rfl
theorem JA1 (f : Nat) : Jg (Try.f91.body.get!) JoI = [] := by kernel_rfl
theorem JA2 (f : Nat) : ∀ q ∈ Jg (Try.f91.body.get!) JoI, q.Ok tau Try.prog 0 := by
  rw [JA1 f]; intro q hq; cases hq
theorem Jx6 : Try.prog.funcs[91]? = some Try.f91 := by kernel_rfl
theorem Jx7 : Try.f91.body = some (Try.f91.body.get!) := by kernel_rfl
theorem JA3 : Enters Try.prog 91 := enters_of Jx6 (by kernel_rfl) Jx7
noncomputable def Jl3 : List PV → List Ent → (Res → Option Res) → Option Res
  | [.st 45 [.sc (.int .i64 a_D), .sc (.int .i64 a_U)]], [], k => g91 0 a_D a_U k
  | _, _, _ => none
noncomputable def s91 : Sig := { own := [], run := Jl3 }
theorem JA4 : Ji tau Try.prog 91 s91 := JS Jr Jtc Js Jx6 Jx7 JoI [.ro] 0 [] Jl3 (JA2 0) fun xs es k res hr => by
  unfold Jl3 at hr
  split at hr
  · exact ⟨rfl, 0, (e91 0 _ _  _).trans hr⟩
  · cases hr
-- FN ref16.domain | ref16.Wave | ref16.number | ref8.User
def inZ (x m : Int) : Bool := decide (x ≥ 0) && decide (x ≤ m)
def JoJ : List Int → Bool
  | x :: m :: r => inZ x m && JoJ r
  | _ => true
noncomputable def inA : List Int → Bool := hid JoJ
theorem Jtd (l : List Int) : inA l = JoJ l := by rw [inA, hid_eq]
theorem JqY (a b c d : Int) : inA [a, b, c, d] = (inZ a b && inZ c d) := by rw [Jtd]; simp [JoJ]
noncomputable def Jhs : List PV → List Ent → (Res → Option Res) → Option Res
  | [.st 45 [.sc (.int .i64 a), .sc (.int .i64 b)]], [], k => k ⟨.sc (.bool (inA [a, 2, b, 7])), [], []⟩
  | _, _, _ => none
noncomputable def Jx8 : Sig := { own := [], run := Jhs }
theorem Jx9 : Ji tau Try.prog 91 Jx8 := JA4.of fun xs es k res hr => by
  change Jhs xs es k = some res at hr
  unfold Jhs at hr
  split at hr
  · rename_i a b
    show g91 0 a b k = some res
    rw [JqY] at hr
    unfold g91
    unfold inZ at hr
    by_cases h1 : a ≥ 0 <;> by_cases h2 : a < 3 <;> by_cases h3 : b ≥ 0 <;> by_cases h4 : b < 8 <;> simp [h1, h2, h3, h4, show (a ≤ 2) ↔ (a < 3) from by omega, show (b ≤ 7) ↔ (b < 8) from by omega] at hr ⊢ <;> exact hr
  · cases hr
noncomputable def Jya : Fns := JD 117 JlJ (JD 91 Jx8 (F0))
theorem JoK : Jz tau Try.prog Jya := ((JG).add Jx9 JA3).add JlK JqC
def Jjc : An := (.seq .leaf (.seq (.seq .leaf (.cond (.seq .leaf .leaf) .leaf)) (.seq (.seq .leaf (.block none (.seq .leaf (.cond (.seq .leaf (.seq (.seq .leaf (.cond (.seq .leaf .leaf) .leaf)) (.seq .leaf (.cond (.seq .leaf .leaf) .leaf)))) (.seq (.seq .leaf (.cond .leaf .leaf)) (.cond (.seq .leaf (.cond (.seq .leaf .leaf) .leaf)) (.seq .leaf .leaf))))))) (.seq .leaf .leaf))))
noncomputable def JoL (f : Nat) (d_Author_D : Int) (d_Author_U : Int) (d_Id : Int) (d_Version : Int) (d_Hash : List PV) (d_Kind : Int) (d_Op_z : Bool) (d_Op_f : Bool) (d_Op : List PV) (d_Who_D : Int) (d_Who_U : Int) (k : Res → Option Res) : Option Res := bif !inA [d_Author_D, 2, d_Author_U, 7] then k (Res.mk (.sc (.int .i64 1)) [] []) else bif decide (d_Id < 0) then k (Res.mk (.sc (.int .i64 1)) [] []) else bif decide (d_Id > 1073741824) then k (Res.mk (.sc (.int .i64 1)) [] []) else bif decide (d_Version < 0) then k (Res.mk (.sc (.int .i64 1)) [] []) else bif decide (d_Version > 1048576) then k (Res.mk (.sc (.int .i64 1)) [] []) else bif d_Kind == 1 then bif cOk d_Op then bif ckO d_Op != 0 then k (Res.mk (.sc (.int .i64 (ckO d_Op))) [] []) else bif !(d_Who_D == 0 && (d_Who_U == 0 && true)) then k (Res.mk (.sc (.int .i64 1)) [] []) else k (Res.mk (.sc (.int .i64 0)) [] []) else none else bif d_Kind == 2 then bif d_Kind == 2 then bif decide (zi d_Op.length > 0) then k (Res.mk (.sc (.int .i64 1)) [] []) else bif !inA [d_Who_D, 2, d_Who_U, 7] then k (Res.mk (.sc (.int .i64 1)) [] []) else k (Res.mk (.sc (.int .i64 0)) [] []) else k (Res.mk (.sc (.int .i64 3)) [] []) else bif d_Kind == 3 then bif decide (zi d_Op.length > 0) then k (Res.mk (.sc (.int .i64 1)) [] []) else bif !inA [d_Who_D, 2, d_Who_U, 7] then k (Res.mk (.sc (.int .i64 1)) [] []) else k (Res.mk (.sc (.int .i64 0)) [] []) else k (Res.mk (.sc (.int .i64 3)) [] [])
theorem JA5 (f : Nat) (d_Author_D : Int) (d_Author_U : Int) (d_Id : Int) (d_Version : Int) (d_Hash : List PV) (d_Kind : Int) (d_Op_z : Bool) (d_Op_f : Bool) (d_Op : List PV) (d_Who_D : Int) (d_Who_U : Int) (k : Res → Option Res) : JM tau Jya Try.f107 (Try.f107.body.get!) Jjc [.ro] 0 [.st 73 [.st 45 [.sc (.int .i64 d_Author_D), .sc (.int .i64 d_Author_U)], .sc (.int .i64 d_Id), .sc (.int .i64 d_Version), .ar 37 d_Hash, .sc (.int .i64 d_Kind), .ro 99 d_Op_z d_Op_f d_Op, .st 45 [.sc (.int .i64 d_Who_D), .sc (.int .i64 d_Who_U)]]] [] k = JoL f d_Author_D d_Author_U d_Id d_Version d_Hash d_Kind d_Op_z d_Op_f d_Op d_Who_D d_Who_U k := by kernel_rfl
theorem Jyb (f : Nat) : Jg (Try.f107.body.get!) Jjc = [] := by kernel_rfl
theorem Jyc (f : Nat) : ∀ q ∈ Jg (Try.f107.body.get!) Jjc, q.Ok tau Try.prog 0 := by
  rw [Jyb f]; intro q hq; cases hq
theorem JqZ : Try.prog.funcs[107]? = some Try.f107 := by kernel_rfl
theorem Jq0 : Try.f107.body = some (Try.f107.body.get!) := by kernel_rfl
theorem Jyd : Enters Try.prog 107 := enters_of JqZ (by kernel_rfl) Jq0
noncomputable def Jht : List PV → List Ent → (Res → Option Res) → Option Res
  | [.st 73 [.st 45 [.sc (.int .i64 d_Author_D), .sc (.int .i64 d_Author_U)], .sc (.int .i64 d_Id), .sc (.int .i64 d_Version), .ar 37 d_Hash, .sc (.int .i64 d_Kind), .ro 99 d_Op_z d_Op_f d_Op, .st 45 [.sc (.int .i64 d_Who_D), .sc (.int .i64 d_Who_U)]]], [], k => JoL 0 d_Author_D d_Author_U d_Id d_Version d_Hash d_Kind d_Op_z d_Op_f d_Op d_Who_D d_Who_U k
  | _, _, _ => none
noncomputable def JA6 : Sig := { own := [], run := Jht }
theorem Jye : Ji tau Try.prog 107 JA6 := JS Jr JoK Js JqZ Jq0 Jjc [.ro] 0 [] Jht (Jyc 0) fun xs es k res hr => by
  unfold Jht at hr
  split at hr
  · exact ⟨rfl, 0, (JA5 0 _ _ _ _ _ _ _ _ _ _ _  _).trans hr⟩
  · cases hr
-- FN delta.Check | ref8.Check
noncomputable def JjW (d : DV) : Int :=
  bif inZ d.ad 2 && (inZ d.au 7 && (inZ d.id 1073741824 && inZ d.ve 1048576)) then
    (bif d.kd == 1 then (bif ckO d.o == 0 then (bif d.wd == 0 && d.wu == 0 then 0 else 1) else ckO d.o)
    else bif d.kd == 2 || d.kd == 3 then (bif d.o.isEmpty && (inZ d.wd 2 && inZ d.wu 7) then 0 else 1)
    else 3)
  else 1
noncomputable def dCk : DV → Int := hid JjW
theorem JbJ (d : DV) : dCk d = JjW d := by rw [dCk, hid_eq]
theorem JaC (x m : Int) : inZ x m = (decide (x ≥ 0) && decide (x ≤ m)) := rfl
theorem JA7 (x : Int) : decide (x < 0) = !decide (x ≥ 0) := by rw [← decide_not]; apply decide_eq_decide.2; omega
theorem JA8 (x m : Int) : decide (x > m) = !decide (x ≤ m) := by rw [← decide_not]; apply decide_eq_decide.2; omega
theorem JfF (l : List PV) : decide (zi l.length > 0) = !l.isEmpty := by
  cases l with
  | nil => rfl
  | cons p ps => exact decide_eq_true (by simp only [zi, List.length_cons]; omega)
theorem JoM (ad au id1 ve : Int) (h : List PV) (kd : Int) (oz of : Bool) (o : List PV) (wd wu : Int) (hc : cOk o = true) (k : Res → Option Res) : JoH 0 ad au id1 ve h kd oz of o wd wu k = k ⟨.sc (.int .i64 (dCk ⟨ad, au, id1, ve, h, kd, o, wd, wu⟩)), [], []⟩ := by
  rw [JbJ]
  unfold JoH JjW
  simp only [hc, JaC, JfF, cond_true, bne]
  have h2 : (kd == 2) = true → (kd == 1) = false := fun h => by have : kd = 2 := by simpa using h
                                                                rw [this]; decide
  generalize o.isEmpty = e0
  generalize (kd == 1) = d1 at *
  generalize (kd == 2) = d2 at *
  generalize (kd == 3) = d3
  generalize (wd == 0) = w0
  generalize (wu == 0) = w1
  generalize hck : ckO o = ck
  cases decide (ad ≥ 0)
  · rfl
  cases decide (ad ≤ 2)
  · rfl
  cases decide (au ≥ 0)
  · rfl
  cases decide (au ≤ 7)
  · rfl
  cases decide (id1 ≥ 0)
  · rfl
  cases decide (id1 ≤ 1073741824)
  · rfl
  cases decide (ve ≥ 0)
  · rfl
  cases decide (ve ≤ 1048576)
  · rfl
  cases d1
  · cases d2
    · cases d3
      · rfl
      · cases e0 <;> cases decide (wd ≥ 0) <;> cases decide (wd ≤ 2) <;> cases decide (wu ≥ 0) <;> cases decide (wu ≤ 7) <;> rfl
    · cases e0 <;> cases decide (wd ≥ 0) <;> cases decide (wd ≤ 2) <;> cases decide (wu ≥ 0) <;> cases decide (wu ≤ 7) <;> rfl
  · cases ck == 0 <;> cases w0 <;> cases w1 <;> rfl
noncomputable def Jed : List PV → List Ent → (Res → Option Res) → Option Res
  | [.st 73 [.st 45 [.sc (.int .i64 ad), .sc (.int .i64 au)], .sc (.int .i64 id1), .sc (.int .i64 ve), .ar 37 h, .sc (.int .i64 kd), .ro 99 oz of o, .st 45 [.sc (.int .i64 wd), .sc (.int .i64 wu)]]], [], k => bif cOk o then k ⟨.sc (.int .i64 (dCk ⟨ad, au, id1, ve, h, kd, o, wd, wu⟩)), [], []⟩ else none
  | _, _, _ => none
noncomputable def Jq1 : Sig := { own := [], run := Jed }
theorem Jte : Ji tau Try.prog 144 Jq1 := Jx5.of fun xs es k res hr => by
  change Jed xs es k = some res at hr
  unfold Jed at hr
  split at hr
  · rename_i ad au id1 ve h kd oz of o wd wu
    obtain ⟨hc, hr⟩ := JL hr
    exact (JoM ad au id1 ve h kd oz of o wd wu hc k).trans hr
  · cases hr
theorem JoN (ad au id1 ve : Int) (h : List PV) (kd : Int) (oz of : Bool) (o : List PV) (wd wu : Int) (hc : cOk o = true) (k : Res → Option Res) : JoL 0 ad au id1 ve h kd oz of o wd wu k = k ⟨.sc (.int .i64 (dCk ⟨ad, au, id1, ve, h, kd, o, wd, wu⟩)), [], []⟩ := by
  rw [JbJ]
  unfold JoL JjW
  simp only [hc, JfF, cond_true, bne]
  simp only [JaC, JqY, JA7, JA8]
  have h2 : (kd == 2) = true → (kd == 1) = false := fun h => by have : kd = 2 := by simpa using h
                                                                rw [this]; decide
  generalize o.isEmpty = e0
  generalize (kd == 1) = d1 at *
  generalize (kd == 2) = d2 at *
  generalize (kd == 3) = d3
  generalize (wd == 0) = w0
  generalize (wu == 0) = w1
  generalize hck : ckO o = ck
  cases decide (ad ≥ 0)
  · rfl
  cases decide (ad ≤ 2)
  · rfl
  cases decide (au ≥ 0)
  · rfl
  cases decide (au ≤ 7)
  · rfl
  cases decide (id1 ≥ 0)
  · rfl
  cases decide (id1 ≤ 1073741824)
  · rfl
  cases decide (ve ≥ 0)
  · rfl
  cases decide (ve ≤ 1048576)
  · rfl
  cases d1
  · cases d2
    · cases d3
      · rfl
      · cases e0 <;> cases decide (wd ≥ 0) <;> cases decide (wd ≤ 2) <;> cases decide (wu ≥ 0) <;> cases decide (wu ≤ 7) <;> rfl
    · cases e0 <;> cases decide (wd ≥ 0) <;> cases decide (wd ≤ 2) <;> cases decide (wu ≥ 0) <;> cases decide (wu ≤ 7) <;> rfl
  · cases ck == 0 <;> cases w0 <;> cases w1 <;> rfl
noncomputable def Jee : List PV → List Ent → (Res → Option Res) → Option Res
  | [.st 73 [.st 45 [.sc (.int .i64 ad), .sc (.int .i64 au)], .sc (.int .i64 id1), .sc (.int .i64 ve), .ar 37 h, .sc (.int .i64 kd), .ro 99 oz of o, .st 45 [.sc (.int .i64 wd), .sc (.int .i64 wu)]]], [], k => bif cOk o then k ⟨.sc (.int .i64 (dCk ⟨ad, au, id1, ve, h, kd, o, wd, wu⟩)), [], []⟩ else none
  | _, _, _ => none
noncomputable def Jq2 : Sig := { own := [], run := Jee }
theorem Jtf : Ji tau Try.prog 107 Jq2 := Jye.of fun xs es k res hr => by
  change Jee xs es k = some res at hr
  unfold Jee at hr
  split at hr
  · rename_i ad au id1 ve h kd oz of o wd wu
    obtain ⟨hc, hr⟩ := JL hr
    exact (JoN ad au id1 ve h kd oz of o wd wu hc k).trans hr
  · cases hr
def Jb7 : Nat := 62
noncomputable def Jl4 : Fns := JD 144 Jq1 (JD 143 JqO (JD 135 JkK (JD 133 Jrv (JD 132 Jru (JD 78 s78 (JD 76 s76 (F0)))))))
theorem Jjd : Jz tau Try.prog Jl4 := (((((((JG).add Jt3 Jt2).add Ju6 Ju5).add Jpp Jpo).add Jpt Jps).add JkL Jpw).add Js9 JxC).add Jte Jx4
noncomputable def GN : Code := QB (Try.f103.body.get!) [1, 1, 1, 0, 1, 0, 0]
def WR : Nm := [(2, .any), (4, .any), (5, .any), (21, .any)]
def Xu : Nm := [(2, .any), (4, .any), (5, .any)]
def JbK : An := (.seq .leaf (.seq (.cond .leaf .leaf) (.seq (.block none (.seq .leaf .leaf)) .leaf)))
def Jje (r0 : QZ) : An := (.seq .leaf (.seq .leaf (.seq .leaf (.seq (.seq .leaf (.block none (.sum WR Jb7 r0))) (.seq .leaf (.seq .leaf (.seq .leaf (.seq .leaf (.seq (.seq .leaf (.cond .leaf .leaf)) (.seq (.seq .leaf (.cond .leaf .leaf)) (.seq (.seq .leaf (.cond (.seq .leaf .leaf) .leaf)) (.seq .leaf .leaf))))))))))))
noncomputable def Zw (f : Nat) (rc : Int → Int → Int → Int → Int → List PV → Int → List PV → Int → Int → Bool → Bool → List PV → Int → Int → Int → Int → Int → List PV → Int → List PV → Int → Int → Option Res) (k0 : Int → Int → Int → Int → List PV → Int → List PV → Int → Int → Bool → Bool → List PV → Int → Int → Int → Int → Int → List PV → Int → List PV → Int → Int → Option Res) (v0 : Int) (v1 : Int) (v2 : Int) (v3 : Int) (v4 : Int) (v5 : List PV) (v6 : Int) (v7 : List PV) (v8 : Int) (v9 : Int) (v10 : Bool) (v11 : Bool) (v12 : List PV) (v13 : Int) (v14 : Int) (v15 : Int) (v16 : Int) (v17 : Int) (v18 : List PV) (v19 : Int) (v20 : List PV) (v21 : Int) (v22 : Int) : Option Res := bif decide (v0 < 32) then bif (!v10 || v11) && true && byB v12 then bif decide (0 ≤ v0) && decide (v0 < zi 32) && true then rc (IntKind.i64.wrap (v0 + 1)) v1 v2 v3 v4 v5 v6 v7 v8 v9 v10 v11 ((Jb 1 (RS.mk v12 v13)).b) ((Jb 1 (RS.mk v12 v13)).e) v14 v15 v16 v17 (v18.set v0.toNat (.sc (.int .u8 (IntKind.u8.wrap (Jt 1 (RS.mk v12 v13)))))) v19 v20 v21 v22 else none else none else k0 v1 v2 v3 v4 v5 v6 v7 v8 v9 v10 v11 v12 v13 v14 v15 v16 v17 v18 v19 v20 v21 v22
noncomputable def Yx (f : Nat) (k0 : Int → Int → Int → Int → List
  PV → Int → List
  PV → Int → Int → Bool → Bool → List
  PV → Int → Int → Int → Int → Int → List
  PV → Int → List
  PV → Int → Int → Option Res) : Nat → Int → Int → Int → Int → Int → List
  PV → Int → List PV → Int → Int → Bool → Bool → List PV → Int → Int → Int → Int → Int → List PV → Int → List PV → Int → Int → Option Res
  | 0, _, _, _, _, _, _, _, _, _, _, _, _, _, _, _, _, _, _, _, _, _, _, _ => none
  | n + 1, v0, v1, v2, v3, v4, v5, v6, v7, v8, v9, v10, v11, v12, v13, v14, v15, v16, v17, v18, v19, v20, v21, v22 => Zw f (Yx f k0 n) k0 v0 v1 v2 v3 v4 v5 v6 v7 v8 v9 v10 v11 v12 v13 v14 v15 v16 v17 v18 v19 v20 v21 v22
theorem Jl5 (f : Nat) (k : Kont) (n : Nat) (v0 : Int) (v1 : Int) (v2 : Int) (v3 : Int) (v4 : Int) (v5 : List PV) (v6 : Int) (v7 : List PV) (v8 : Int) (v9 : Int) (v10 : Bool) (v11 : Bool) (v12 : List PV) (v13 : Int) (v14 : Int) (v15 : Int) (v16 : Int) (v17 : Int) (v18 : List PV) (v19 : Int) (v20 : List PV) (v21 : Int) (v22 : Int) : Jo tau 0 WR (fun s k => ev tau Jl4 0 0 GN (JbK ) s k) (n + 1) (Je WR Jb7 [.ptr 1008 [], .ptr 1009 [], .ptr 1010 [], .sc (.int .i64 v0)] [(1008, .box false 73 (PV.st 73 [.st 45 [.sc (.int .i64 v1), .sc (.int .i64 v2)], .sc (.int .i64 v3), .sc (.int .i64 v4), .ar 37 v5, .sc (.int .i64 v6), .ro 99 true true v7, .st 45 [.sc (.int .i64 v8), .sc (.int .i64 v9)]])), (1009, .box false 186 (PV.st 186 [.ro 5 v10 v11 v12, .sc (.int .i64 v13)])), (1010, .box false 73 (PV.st 73 [.st 45 [.sc (.int .i64 v14), .sc (.int .i64 v15)], .sc (.int .i64 v16), .sc (.int .i64 v17), .ar 37 v18, .sc (.int .i64 v19), .ro 99 true true v20, .st 45 [.sc (.int .i64 v21), .sc (.int .i64 v22)]]))]) (Jv tau 0 Xu k) = Zw f (fun v0 v1 v2 v3 v4 v5 v6 v7 v8 v9 v10 v11 v12 v13 v14 v15 v16 v17 v18 v19 v20 v21 v22 => Jo tau 0 WR (fun s k => ev tau Jl4 0 0 GN (JbK ) s k) n (Je WR Jb7 [.ptr 1008 [], .ptr 1009 [], .ptr 1010 [], .sc (.int .i64 v0)] [(1008, .box false 73 (PV.st 73 [.st 45 [.sc (.int .i64 v1), .sc (.int .i64 v2)], .sc (.int .i64 v3), .sc (.int .i64 v4), .ar 37 v5, .sc (.int .i64 v6), .ro 99 true true v7, .st 45 [.sc (.int .i64 v8), .sc (.int .i64 v9)]])), (1009, .box false 186 (PV.st 186 [.ro 5 v10 v11 v12, .sc (.int .i64 v13)])), (1010, .box false 73 (PV.st 73 [.st 45 [.sc (.int .i64 v14), .sc (.int .i64 v15)], .sc (.int .i64 v16), .sc (.int .i64 v17), .ar 37 v18, .sc (.int .i64 v19), .ro 99 true true v20, .st 45 [.sc (.int .i64 v21), .sc (.int .i64 v22)]]))]) (Jv tau 0 Xu k)) (fun x0 x1 x2 x3 x4 x5 x6 x7 x8 x9 x10 x11 x12 x13 x14 x15 x16 x17 x18 x19 x20 x21 => k (Ex.exit 0) (Je Xu Jb7 [.ptr 1008 [], .ptr 1009 [], .ptr 1010 []] [(1008, .box false 73 (PV.st 73 [.st 45 [.sc (.int .i64 x0), .sc (.int .i64 x1)], .sc (.int .i64 x2), .sc (.int .i64 x3), .ar 37 x4, .sc (.int .i64 x5), .ro 99 true true x6, .st 45 [.sc (.int .i64 x7), .sc (.int .i64 x8)]])), (1009, .box false 186 (PV.st 186 [.ro 5 x9 x10 x11, .sc (.int .i64 x12)])), (1010, .box false 73 (PV.st 73 [.st 45 [.sc (.int .i64 x13), .sc (.int .i64 x14)], .sc (.int .i64 x15), .sc (.int .i64 x16), .ar 37 x17, .sc (.int .i64 x18), .ro 99 true true x19, .st 45 [.sc (.int .i64 x20), .sc (.int .i64 x21)]]))])) v0 v1 v2 v3 v4 v5 v6 v7 v8 v9 v10 v11 v12 v13 v14 v15 v16 v17 v18 v19 v20 v21 v22 := by kernel_rfl
theorem JfG (f : Nat) (k : Kont) : ∀ (n : Nat) (v0 : Int) (v1 : Int) (v2 : Int) (v3 : Int) (v4 : Int) (v5 : List PV) (v6 : Int) (v7 : List PV) (v8 : Int) (v9 : Int) (v10 : Bool) (v11 : Bool) (v12 : List PV) (v13 : Int) (v14 : Int) (v15 : Int) (v16 : Int) (v17 : Int) (v18 : List PV) (v19 : Int) (v20 : List PV) (v21 : Int) (v22 : Int), Jo tau 0 WR (fun s k => ev tau Jl4 0 0 GN (JbK ) s k) n (Je WR Jb7 [.ptr 1008 [], .ptr 1009 [], .ptr 1010 [], .sc (.int .i64 v0)] [(1008, .box false 73 (PV.st 73 [.st 45 [.sc (.int .i64 v1), .sc (.int .i64 v2)], .sc (.int .i64 v3), .sc (.int .i64 v4), .ar 37 v5, .sc (.int .i64 v6), .ro 99 true true v7, .st 45 [.sc (.int .i64 v8), .sc (.int .i64 v9)]])), (1009, .box false 186 (PV.st 186 [.ro 5 v10 v11 v12, .sc (.int .i64 v13)])), (1010, .box false 73 (PV.st 73 [.st 45 [.sc (.int .i64 v14), .sc (.int .i64 v15)], .sc (.int .i64 v16), .sc (.int .i64 v17), .ar 37 v18, .sc (.int .i64 v19), .ro 99 true true v20, .st 45 [.sc (.int .i64 v21), .sc (.int .i64 v22)]]))]) (Jv tau 0 Xu k) = Yx f (fun x0 x1 x2 x3 x4 x5 x6 x7 x8 x9 x10 x11 x12 x13 x14 x15 x16 x17 x18 x19 x20 x21 => k (Ex.exit 0) (Je Xu Jb7 [.ptr 1008 [], .ptr 1009 [], .ptr 1010 []] [(1008, .box false 73 (PV.st 73 [.st 45 [.sc (.int .i64 x0), .sc (.int .i64 x1)], .sc (.int .i64 x2), .sc (.int .i64 x3), .ar 37 x4, .sc (.int .i64 x5), .ro 99 true true x6, .st 45 [.sc (.int .i64 x7), .sc (.int .i64 x8)]])), (1009, .box false 186 (PV.st 186 [.ro 5 x9 x10 x11, .sc (.int .i64 x12)])), (1010, .box false 73 (PV.st 73 [.st 45 [.sc (.int .i64 x13), .sc (.int .i64 x14)], .sc (.int .i64 x15), .sc (.int .i64 x16), .ar 37 x17, .sc (.int .i64 x18), .ro 99 true true x19, .st 45 [.sc (.int .i64 x20), .sc (.int .i64 x21)]]))])) n v0 v1 v2 v3 v4 v5 v6 v7 v8 v9 v10 v11 v12 v13 v14 v15 v16 v17 v18 v19 v20 v21 v22 | 0, _, _, _, _, _, _, _, _, _, _, _, _, _, _, _, _, _, _, _, _, _, _, _ => rfl | n + 1, v0, v1, v2, v3, v4, v5, v6, v7, v8, v9, v10, v11, v12, v13, v14, v15, v16, v17, v18, v19, v20, v21, v22 => (Jl5 f k n v0 v1 v2 v3 v4 v5 v6 v7 v8 v9 v10 v11 v12 v13 v14 v15 v16 v17 v18 v19 v20 v21 v22).trans (congrArg (fun r => Zw f r (fun x0 x1 x2 x3 x4 x5 x6 x7 x8 x9 x10 x11 x12 x13 x14 x15 x16 x17 x18 x19 x20 x21 => k (Ex.exit 0) (Je Xu Jb7 [.ptr 1008 [], .ptr 1009 [], .ptr 1010 []] [(1008, .box false 73 (PV.st 73 [.st 45 [.sc (.int .i64 x0), .sc (.int .i64 x1)], .sc (.int .i64 x2), .sc (.int .i64 x3), .ar 37 x4, .sc (.int .i64 x5), .ro 99 true true x6, .st 45 [.sc (.int .i64 x7), .sc (.int .i64 x8)]])), (1009, .box false 186 (PV.st 186 [.ro 5 x9 x10 x11, .sc (.int .i64 x12)])), (1010, .box false 73 (PV.st 73 [.st 45 [.sc (.int .i64 x13), .sc (.int .i64 x14)], .sc (.int .i64 x15), .sc (.int .i64 x16), .ar 37 x17, .sc (.int .i64 x18), .ro 99 true true x19, .st 45 [.sc (.int .i64 x20), .sc (.int .i64 x21)]]))])) v0 v1 v2 v3 v4 v5 v6 v7 v8 v9 v10 v11 v12 v13 v14 v15 v16 v17 v18 v19 v20 v21 v22) (by funext v0 v1 v2 v3 v4 v5 v6 v7 v8 v9 v10 v11 v12 v13 v14 v15 v16 v17 v18 v19 v20 v21 v22; exact JfG f k n v0 v1 v2 v3 v4 v5 v6 v7 v8 v9 v10 v11 v12 v13 v14 v15 v16 v17 v18 v19 v20 v21 v22))
noncomputable def Vr (f : Nat) : List PV → List (Nat × Ent) → Kont → Option Res
  | [.ptr 1008 [], .ptr 1009 [], .ptr 1010 [],
  PV.sc
    (Value.int IntKind.i64
      v0)], [(1008,
    Ent.box false 73
      (PV.st 73
        [.st 45 [.sc (.int .i64 v1), .sc (.int .i64 v2)], .sc (.int .i64 v3), .sc (.int .i64 v4), .ar 37 v5,
          .sc (.int .i64 v6), .ro 99 true true v7, .st 45 [.sc (.int .i64 v8), .sc (.int .i64 v9)]])),
  (1009, .box false 186 (PV.st 186 [.ro 5 v10 v11 v12, .sc (.int .i64 v13)])),
  (1010,
    Ent.box false 73
      (PV.st 73
        [.st 45 [.sc (.int .i64 v14), .sc (.int .i64 v15)], .sc (.int .i64 v16), .sc (.int .i64 v17), .ar 37 v18,
          .sc (.int .i64 v19), .ro 99 true true v20,
          PV.st 45
            [.sc (.int .i64 v21),
              PV.sc
                (Value.int IntKind.i64
                  v22)]]))], k => Yx f (fun x0 x1 x2 x3 x4 x5 x6 x7 x8 x9 x10 x11 x12 x13 x14 x15 x16 x17 x18 x19 x20 x21 => k (Ex.exit
  0) (Je Xu Jb7 [.ptr 1008 [], .ptr 1009 [],
  PV.ptr 1010
    []] [(1008,
    Ent.box false 73
      (PV.st 73
        [.st 45 [.sc (.int .i64 x0), .sc (.int .i64 x1)], .sc (.int .i64 x2), .sc (.int .i64 x3), .ar 37 x4,
          .sc (.int .i64 x5), .ro 99 true true x6, .st 45 [.sc (.int .i64 x7), .sc (.int .i64 x8)]])),
  (1009, .box false 186 (PV.st 186 [.ro 5 x9 x10 x11, .sc (.int .i64 x12)])),
  (1010,
    Ent.box false 73
      (PV.st 73
        [.st 45 [.sc (.int .i64 x13), .sc (.int .i64 x14)], .sc (.int .i64 x15), .sc (.int .i64 x16), .ar 37 x17,
          .sc (.int .i64 x18), .ro 99 true true x19,
          PV.st 45 [.sc (.int .i64 x20), .sc (.int .i64 x21)]]))])) f v0 v1 v2 v3 v4 v5 v6 v7 v8 v9 v10 v11 v12 v13 v14 v15 v16 v17 v18 v19 v20 v21 v22
  | _, _, _ => none
theorem JoO (f : Nat) : Jg GN JbK = [] := by kernel_rfl
theorem Jtg (f : Nat) : (Item.l GN WR Jb7 (Vr f)).Ok tau Try.prog 0 := JI Jr Jjd Js (x := JbK) (nm2 := Xu) (Jp _ _ (by rw [JoO f]; intro q hq; cases hq)) fun vs hp k res hr => by
  unfold Vr at hr
  split at hr
  · exact ⟨f, 0, (JfG f _ f _ _ _ _ _ _ _ _ _ _ _ _ _ _ _ _ _ _ _ _ _ _ _ ).trans hr⟩
  · cases hr
noncomputable def Jth (f : Nat) (b_z : Bool) (b_f : Bool) (b : List PV) (k : Res → Option Res) : Option Res := bif slB b_z b then bif (!b_z || b_z) && true && byB b then bif (!b_z || b_z) && true && byB (Jb 8 (RS.mk b 0)).b then bif (!b_z || b_z) && true && byB (Jb 8 (Jb 8 (RS.mk b 0))).b then bif (!b_z || b_z) && true && byB (Jb 8 (Jb 8 (Jb 8 (RS.mk b 0)))).b then Yx f (fun x0_0 x1_0 x2_0 x3_0 x4_0 x5_0 x6_0 x7_0 x8_0 x9_0 x10_0 x11_0 x12_0 x13_0 x14_0 x15_0 x16_0 x17_0 x18_0 x19_0 x20_0 x21_0 => bif (!x9_0 || x10_0) && true && byB x11_0 then bif (!x9_0 || x10_0) && byB (Jb 1 (RS.mk x11_0 x12_0)).b then bif (!x9_0 || x10_0) && true && byB (J9 (Jb 1 (RS.mk x11_0 x12_0))).b then bif (!x9_0 || x10_0) && true && byB (Jb 8 (J9 (Jb 1 (RS.mk x11_0 x12_0)))).b then bif (Jb 8 (Jb 8 (J9 (Jb 1 (RS.mk x11_0 x12_0))))).e == 0 then bif decide (zi (Jb 8 (Jb 8 (J9 (Jb 1 (RS.mk x11_0 x12_0))))).b.length > 0) then k (Res.mk (.tup [.st 73 [.st 45 [.sc (.int .i64 0), .sc (.int .i64 0)], .sc (.int .i64 0), .sc (.int .i64 0), .ar 37 [.sc (.int .u8 0), .sc (.int .u8 0), .sc (.int .u8 0), .sc (.int .u8 0), .sc (.int .u8 0), .sc (.int .u8 0), .sc (.int .u8 0), .sc (.int .u8 0), .sc (.int .u8 0), .sc (.int .u8 0), .sc (.int .u8 0), .sc (.int .u8 0), .sc (.int .u8 0), .sc (.int .u8 0), .sc (.int .u8 0), .sc (.int .u8 0), .sc (.int .u8 0), .sc (.int .u8 0), .sc (.int .u8 0), .sc (.int .u8 0), .sc (.int .u8 0), .sc (.int .u8 0), .sc (.int .u8 0), .sc (.int .u8 0), .sc (.int .u8 0), .sc (.int .u8 0), .sc (.int .u8 0), .sc (.int .u8 0), .sc (.int .u8 0), .sc (.int .u8 0), .sc (.int .u8 0), .sc (.int .u8 0)], .sc (.int .i64 0), .ro 99 true true [], .st 45 [.sc (.int .i64 0), .sc (.int .i64 0)]], .sc (.int .i64 9)]) [] []) else bif (Jb 8 (Jb 8 (J9 (Jb 1 (RS.mk x11_0 x12_0))))).e == 0 then bif Jn (JQ (Jb 1 (RS.mk x11_0 x12_0))).size 1 && true then bif slB (Ent.vec false 5 false (Jl (JQ (Jb 1 (RS.mk x11_0 x12_0))))).nil (List.take (JQ (Jb 1 (RS.mk x11_0 x12_0))).size (List.drop 0 (Jl (JQ (Jb 1 (RS.mk x11_0 x12_0)))))) && byB (List.take (JQ (Jb 1 (RS.mk x11_0 x12_0))).size (Jl (JQ (Jb 1 (RS.mk x11_0 x12_0))))) then bif opE (List.take (JQ (Jb 1 (RS.mk x11_0 x12_0))).size (Jl (JQ (Jb 1 (RS.mk x11_0 x12_0))))) == 0 then bif cOk (opL (List.take (JQ (Jb 1 (RS.mk x11_0 x12_0))).size (Jl (JQ (Jb 1 (RS.mk x11_0 x12_0)))))) then bif dCk (DV.mk x13_0 x14_0 x15_0 x16_0 x17_0 (Jt 1 (RS.mk x11_0 x12_0)) (opL (List.take (JQ (Jb 1 (RS.mk x11_0 x12_0))).size (Jl (JQ (Jb 1 (RS.mk x11_0 x12_0)))))) (Jt 8 (J9 (Jb 1 (RS.mk x11_0 x12_0)))) (Jt 8 (Jb 8 (J9 (Jb 1 (RS.mk x11_0 x12_0)))))) != 0 then k (Res.mk (.tup [.st 73 [.st 45 [.sc (.int .i64 0), .sc (.int .i64 0)], .sc (.int .i64 0), .sc (.int .i64 0), .ar 37 [.sc (.int .u8 0), .sc (.int .u8 0), .sc (.int .u8 0), .sc (.int .u8 0), .sc (.int .u8 0), .sc (.int .u8 0), .sc (.int .u8 0), .sc (.int .u8 0), .sc (.int .u8 0), .sc (.int .u8 0), .sc (.int .u8 0), .sc (.int .u8 0), .sc (.int .u8 0), .sc (.int .u8 0), .sc (.int .u8 0), .sc (.int .u8 0), .sc (.int .u8 0), .sc (.int .u8 0), .sc (.int .u8 0), .sc (.int .u8 0), .sc (.int .u8 0), .sc (.int .u8 0), .sc (.int .u8 0), .sc (.int .u8 0), .sc (.int .u8 0), .sc (.int .u8 0), .sc (.int .u8 0), .sc (.int .u8 0), .sc (.int .u8 0), .sc (.int .u8 0), .sc (.int .u8 0), .sc (.int .u8 0)], .sc (.int .i64 0), .ro 99 true true [], .st 45 [.sc (.int .i64 0), .sc (.int .i64 0)]], .sc (.int .i64 (dCk (DV.mk x13_0 x14_0 x15_0 x16_0 x17_0 (Jt 1 (RS.mk x11_0 x12_0)) (opL (List.take (JQ (Jb 1 (RS.mk x11_0 x12_0))).size (Jl (JQ (Jb 1 (RS.mk x11_0 x12_0)))))) (Jt 8 (J9 (Jb 1 (RS.mk x11_0 x12_0)))) (Jt 8 (Jb 8 (J9 (Jb 1 (RS.mk x11_0 x12_0))))))))]) [] []) else k (Res.mk (.tup [.st 73 [.st 45 [.sc (.int .i64 x13_0), .sc (.int .i64 x14_0)], .sc (.int .i64 x15_0), .sc (.int .i64 x16_0), .ar 37 x17_0, .sc (.int .i64 (Jt 1 (RS.mk x11_0 x12_0))), .ro 99 (opL (List.take (JQ (Jb 1 (RS.mk x11_0 x12_0))).size (Jl (JQ (Jb 1 (RS.mk x11_0 x12_0)))))).isEmpty (opL (List.take (JQ (Jb 1 (RS.mk x11_0 x12_0))).size (Jl (JQ (Jb 1 (RS.mk x11_0 x12_0)))))).isEmpty (opL (List.take (JQ (Jb 1 (RS.mk x11_0 x12_0))).size (Jl (JQ (Jb 1 (RS.mk x11_0 x12_0)))))), .st 45 [.sc (.int .i64 (Jt 8 (J9 (Jb 1 (RS.mk x11_0 x12_0))))), .sc (.int .i64 (Jt 8 (Jb 8 (J9 (Jb 1 (RS.mk x11_0 x12_0))))))]], .sc (.int .i64 0)]) [] []) else none else bif opE (List.take (JQ (Jb 1 (RS.mk x11_0 x12_0))).size (Jl (JQ (Jb 1 (RS.mk x11_0 x12_0))))) != 0 then k (Res.mk (.tup [.st 73 [.st 45 [.sc (.int .i64 0), .sc (.int .i64 0)], .sc (.int .i64 0), .sc (.int .i64 0), .ar 37 [.sc (.int .u8 0), .sc (.int .u8 0), .sc (.int .u8 0), .sc (.int .u8 0), .sc (.int .u8 0), .sc (.int .u8 0), .sc (.int .u8 0), .sc (.int .u8 0), .sc (.int .u8 0), .sc (.int .u8 0), .sc (.int .u8 0), .sc (.int .u8 0), .sc (.int .u8 0), .sc (.int .u8 0), .sc (.int .u8 0), .sc (.int .u8 0), .sc (.int .u8 0), .sc (.int .u8 0), .sc (.int .u8 0), .sc (.int .u8 0), .sc (.int .u8 0), .sc (.int .u8 0), .sc (.int .u8 0), .sc (.int .u8 0), .sc (.int .u8 0), .sc (.int .u8 0), .sc (.int .u8 0), .sc (.int .u8 0), .sc (.int .u8 0), .sc (.int .u8 0), .sc (.int .u8 0), .sc (.int .u8 0)], .sc (.int .i64 0), .ro 99 true true [], .st 45 [.sc (.int .i64 0), .sc (.int .i64 0)]], .sc (.int .i64 (opE (List.take (JQ (Jb 1 (RS.mk x11_0 x12_0))).size (Jl (JQ (Jb 1 (RS.mk x11_0 x12_0)))))))]) [] []) else k (Res.mk (.tup [.st 73 [.st 45 [.sc (.int .i64 x13_0), .sc (.int .i64 x14_0)], .sc (.int .i64 x15_0), .sc (.int .i64 x16_0), .ar 37 x17_0, .sc (.int .i64 (Jt 1 (RS.mk x11_0 x12_0))), .ro 99 (opL (List.take (JQ (Jb 1 (RS.mk x11_0 x12_0))).size (Jl (JQ (Jb 1 (RS.mk x11_0 x12_0)))))).isEmpty (opL (List.take (JQ (Jb 1 (RS.mk x11_0 x12_0))).size (Jl (JQ (Jb 1 (RS.mk x11_0 x12_0)))))).isEmpty (opL (List.take (JQ (Jb 1 (RS.mk x11_0 x12_0))).size (Jl (JQ (Jb 1 (RS.mk x11_0 x12_0)))))), .st 45 [.sc (.int .i64 (Jt 8 (J9 (Jb 1 (RS.mk x11_0 x12_0))))), .sc (.int .i64 (Jt 8 (Jb 8 (J9 (Jb 1 (RS.mk x11_0 x12_0))))))]], .sc (.int .i64 0)]) [] []) else none else none else bif (Jb 8 (Jb 8 (J9 (Jb 1 (RS.mk x11_0 x12_0))))).e == 0 then bif cOk x19_0 then bif dCk (DV.mk x13_0 x14_0 x15_0 x16_0 x17_0 (Jt 1 (RS.mk x11_0 x12_0)) x19_0 (Jt 8 (J9 (Jb 1 (RS.mk x11_0 x12_0)))) (Jt 8 (Jb 8 (J9 (Jb 1 (RS.mk x11_0 x12_0)))))) != 0 then k (Res.mk (.tup [.st 73 [.st 45 [.sc (.int .i64 0), .sc (.int .i64 0)], .sc (.int .i64 0), .sc (.int .i64 0), .ar 37 [.sc (.int .u8 0), .sc (.int .u8 0), .sc (.int .u8 0), .sc (.int .u8 0), .sc (.int .u8 0), .sc (.int .u8 0), .sc (.int .u8 0), .sc (.int .u8 0), .sc (.int .u8 0), .sc (.int .u8 0), .sc (.int .u8 0), .sc (.int .u8 0), .sc (.int .u8 0), .sc (.int .u8 0), .sc (.int .u8 0), .sc (.int .u8 0), .sc (.int .u8 0), .sc (.int .u8 0), .sc (.int .u8 0), .sc (.int .u8 0), .sc (.int .u8 0), .sc (.int .u8 0), .sc (.int .u8 0), .sc (.int .u8 0), .sc (.int .u8 0), .sc (.int .u8 0), .sc (.int .u8 0), .sc (.int .u8 0), .sc (.int .u8 0), .sc (.int .u8 0), .sc (.int .u8 0), .sc (.int .u8 0)], .sc (.int .i64 0), .ro 99 true true [], .st 45 [.sc (.int .i64 0), .sc (.int .i64 0)]], .sc (.int .i64 (dCk (DV.mk x13_0 x14_0 x15_0 x16_0 x17_0 (Jt 1 (RS.mk x11_0 x12_0)) x19_0 (Jt 8 (J9 (Jb 1 (RS.mk x11_0 x12_0)))) (Jt 8 (Jb 8 (J9 (Jb 1 (RS.mk x11_0 x12_0))))))))]) [] []) else k (Res.mk (.tup [.st 73 [.st 45 [.sc (.int .i64 x13_0), .sc (.int .i64 x14_0)], .sc (.int .i64 x15_0), .sc (.int .i64 x16_0), .ar 37 x17_0, .sc (.int .i64 (Jt 1 (RS.mk x11_0 x12_0))), .ro 99 true true x19_0, .st 45 [.sc (.int .i64 (Jt 8 (J9 (Jb 1 (RS.mk x11_0 x12_0))))), .sc (.int .i64 (Jt 8 (Jb 8 (J9 (Jb 1 (RS.mk x11_0 x12_0))))))]], .sc (.int .i64 0)]) [] []) else none else bif (Jb 8 (Jb 8 (J9 (Jb 1 (RS.mk x11_0 x12_0))))).e != 0 then k (Res.mk (.tup [.st 73 [.st 45 [.sc (.int .i64 0), .sc (.int .i64 0)], .sc (.int .i64 0), .sc (.int .i64 0), .ar 37 [.sc (.int .u8 0), .sc (.int .u8 0), .sc (.int .u8 0), .sc (.int .u8 0), .sc (.int .u8 0), .sc (.int .u8 0), .sc (.int .u8 0), .sc (.int .u8 0), .sc (.int .u8 0), .sc (.int .u8 0), .sc (.int .u8 0), .sc (.int .u8 0), .sc (.int .u8 0), .sc (.int .u8 0), .sc (.int .u8 0), .sc (.int .u8 0), .sc (.int .u8 0), .sc (.int .u8 0), .sc (.int .u8 0), .sc (.int .u8 0), .sc (.int .u8 0), .sc (.int .u8 0), .sc (.int .u8 0), .sc (.int .u8 0), .sc (.int .u8 0), .sc (.int .u8 0), .sc (.int .u8 0), .sc (.int .u8 0), .sc (.int .u8 0), .sc (.int .u8 0), .sc (.int .u8 0), .sc (.int .u8 0)], .sc (.int .i64 0), .ro 99 true true [], .st 45 [.sc (.int .i64 0), .sc (.int .i64 0)]], .sc (.int .i64 (Jb 8 (Jb 8 (J9 (Jb 1 (RS.mk x11_0 x12_0))))).e)]) [] []) else k (Res.mk (.tup [.st 73 [.st 45 [.sc (.int .i64 x13_0), .sc (.int .i64 x14_0)], .sc (.int .i64 x15_0), .sc (.int .i64 x16_0), .ar 37 x17_0, .sc (.int .i64 (Jt 1 (RS.mk x11_0 x12_0))), .ro 99 true true x19_0, .st 45 [.sc (.int .i64 (Jt 8 (J9 (Jb 1 (RS.mk x11_0 x12_0))))), .sc (.int .i64 (Jt 8 (Jb 8 (J9 (Jb 1 (RS.mk x11_0 x12_0))))))]], .sc (.int .i64 0)]) [] []) else bif (Jb 8 (Jb 8 (J9 (Jb 1 (RS.mk x11_0 x12_0))))).e == 0 then bif Jn (JQ (Jb 1 (RS.mk x11_0 x12_0))).size 1 && true then bif slB (Ent.vec false 5 false (Jl (JQ (Jb 1 (RS.mk x11_0 x12_0))))).nil (List.take (JQ (Jb 1 (RS.mk x11_0 x12_0))).size (List.drop 0 (Jl (JQ (Jb 1 (RS.mk x11_0 x12_0)))))) && byB (List.take (JQ (Jb 1 (RS.mk x11_0 x12_0))).size (Jl (JQ (Jb 1 (RS.mk x11_0 x12_0))))) then bif opE (List.take (JQ (Jb 1 (RS.mk x11_0 x12_0))).size (Jl (JQ (Jb 1 (RS.mk x11_0 x12_0))))) == 0 then bif cOk (opL (List.take (JQ (Jb 1 (RS.mk x11_0 x12_0))).size (Jl (JQ (Jb 1 (RS.mk x11_0 x12_0)))))) then bif dCk (DV.mk x13_0 x14_0 x15_0 x16_0 x17_0 (Jt 1 (RS.mk x11_0 x12_0)) (opL (List.take (JQ (Jb 1 (RS.mk x11_0 x12_0))).size (Jl (JQ (Jb 1 (RS.mk x11_0 x12_0)))))) (Jt 8 (J9 (Jb 1 (RS.mk x11_0 x12_0)))) (Jt 8 (Jb 8 (J9 (Jb 1 (RS.mk x11_0 x12_0)))))) != 0 then k (Res.mk (.tup [.st 73 [.st 45 [.sc (.int .i64 0), .sc (.int .i64 0)], .sc (.int .i64 0), .sc (.int .i64 0), .ar 37 [.sc (.int .u8 0), .sc (.int .u8 0), .sc (.int .u8 0), .sc (.int .u8 0), .sc (.int .u8 0), .sc (.int .u8 0), .sc (.int .u8 0), .sc (.int .u8 0), .sc (.int .u8 0), .sc (.int .u8 0), .sc (.int .u8 0), .sc (.int .u8 0), .sc (.int .u8 0), .sc (.int .u8 0), .sc (.int .u8 0), .sc (.int .u8 0), .sc (.int .u8 0), .sc (.int .u8 0), .sc (.int .u8 0), .sc (.int .u8 0), .sc (.int .u8 0), .sc (.int .u8 0), .sc (.int .u8 0), .sc (.int .u8 0), .sc (.int .u8 0), .sc (.int .u8 0), .sc (.int .u8 0), .sc (.int .u8 0), .sc (.int .u8 0), .sc (.int .u8 0), .sc (.int .u8 0), .sc (.int .u8 0)], .sc (.int .i64 0), .ro 99 true true [], .st 45 [.sc (.int .i64 0), .sc (.int .i64 0)]], .sc (.int .i64 (dCk (DV.mk x13_0 x14_0 x15_0 x16_0 x17_0 (Jt 1 (RS.mk x11_0 x12_0)) (opL (List.take (JQ (Jb 1 (RS.mk x11_0 x12_0))).size (Jl (JQ (Jb 1 (RS.mk x11_0 x12_0)))))) (Jt 8 (J9 (Jb 1 (RS.mk x11_0 x12_0)))) (Jt 8 (Jb 8 (J9 (Jb 1 (RS.mk x11_0 x12_0))))))))]) [] []) else k (Res.mk (.tup [.st 73 [.st 45 [.sc (.int .i64 x13_0), .sc (.int .i64 x14_0)], .sc (.int .i64 x15_0), .sc (.int .i64 x16_0), .ar 37 x17_0, .sc (.int .i64 (Jt 1 (RS.mk x11_0 x12_0))), .ro 99 (opL (List.take (JQ (Jb 1 (RS.mk x11_0 x12_0))).size (Jl (JQ (Jb 1 (RS.mk x11_0 x12_0)))))).isEmpty (opL (List.take (JQ (Jb 1 (RS.mk x11_0 x12_0))).size (Jl (JQ (Jb 1 (RS.mk x11_0 x12_0)))))).isEmpty (opL (List.take (JQ (Jb 1 (RS.mk x11_0 x12_0))).size (Jl (JQ (Jb 1 (RS.mk x11_0 x12_0)))))), .st 45 [.sc (.int .i64 (Jt 8 (J9 (Jb 1 (RS.mk x11_0 x12_0))))), .sc (.int .i64 (Jt 8 (Jb 8 (J9 (Jb 1 (RS.mk x11_0 x12_0))))))]], .sc (.int .i64 0)]) [] []) else none else bif opE (List.take (JQ (Jb 1 (RS.mk x11_0 x12_0))).size (Jl (JQ (Jb 1 (RS.mk x11_0 x12_0))))) != 0 then k (Res.mk (.tup [.st 73 [.st 45 [.sc (.int .i64 0), .sc (.int .i64 0)], .sc (.int .i64 0), .sc (.int .i64 0), .ar 37 [.sc (.int .u8 0), .sc (.int .u8 0), .sc (.int .u8 0), .sc (.int .u8 0), .sc (.int .u8 0), .sc (.int .u8 0), .sc (.int .u8 0), .sc (.int .u8 0), .sc (.int .u8 0), .sc (.int .u8 0), .sc (.int .u8 0), .sc (.int .u8 0), .sc (.int .u8 0), .sc (.int .u8 0), .sc (.int .u8 0), .sc (.int .u8 0), .sc (.int .u8 0), .sc (.int .u8 0), .sc (.int .u8 0), .sc (.int .u8 0), .sc (.int .u8 0), .sc (.int .u8 0), .sc (.int .u8 0), .sc (.int .u8 0), .sc (.int .u8 0), .sc (.int .u8 0), .sc (.int .u8 0), .sc (.int .u8 0), .sc (.int .u8 0), .sc (.int .u8 0), .sc (.int .u8 0), .sc (.int .u8 0)], .sc (.int .i64 0), .ro 99 true true [], .st 45 [.sc (.int .i64 0), .sc (.int .i64 0)]], .sc (.int .i64 (opE (List.take (JQ (Jb 1 (RS.mk x11_0 x12_0))).size (Jl (JQ (Jb 1 (RS.mk x11_0 x12_0)))))))]) [] []) else k (Res.mk (.tup [.st 73 [.st 45 [.sc (.int .i64 x13_0), .sc (.int .i64 x14_0)], .sc (.int .i64 x15_0), .sc (.int .i64 x16_0), .ar 37 x17_0, .sc (.int .i64 (Jt 1 (RS.mk x11_0 x12_0))), .ro 99 (opL (List.take (JQ (Jb 1 (RS.mk x11_0 x12_0))).size (Jl (JQ (Jb 1 (RS.mk x11_0 x12_0)))))).isEmpty (opL (List.take (JQ (Jb 1 (RS.mk x11_0 x12_0))).size (Jl (JQ (Jb 1 (RS.mk x11_0 x12_0)))))).isEmpty (opL (List.take (JQ (Jb 1 (RS.mk x11_0 x12_0))).size (Jl (JQ (Jb 1 (RS.mk x11_0 x12_0)))))), .st 45 [.sc (.int .i64 (Jt 8 (J9 (Jb 1 (RS.mk x11_0 x12_0))))), .sc (.int .i64 (Jt 8 (Jb 8 (J9 (Jb 1 (RS.mk x11_0 x12_0))))))]], .sc (.int .i64 0)]) [] []) else none else none else bif (Jb 8 (Jb 8 (J9 (Jb 1 (RS.mk x11_0 x12_0))))).e == 0 then bif cOk x19_0 then bif dCk (DV.mk x13_0 x14_0 x15_0 x16_0 x17_0 (Jt 1 (RS.mk x11_0 x12_0)) x19_0 (Jt 8 (J9 (Jb 1 (RS.mk x11_0 x12_0)))) (Jt 8 (Jb 8 (J9 (Jb 1 (RS.mk x11_0 x12_0)))))) != 0 then k (Res.mk (.tup [.st 73 [.st 45 [.sc (.int .i64 0), .sc (.int .i64 0)], .sc (.int .i64 0), .sc (.int .i64 0), .ar 37 [.sc (.int .u8 0), .sc (.int .u8 0), .sc (.int .u8 0), .sc (.int .u8 0), .sc (.int .u8 0), .sc (.int .u8 0), .sc (.int .u8 0), .sc (.int .u8 0), .sc (.int .u8 0), .sc (.int .u8 0), .sc (.int .u8 0), .sc (.int .u8 0), .sc (.int .u8 0), .sc (.int .u8 0), .sc (.int .u8 0), .sc (.int .u8 0), .sc (.int .u8 0), .sc (.int .u8 0), .sc (.int .u8 0), .sc (.int .u8 0), .sc (.int .u8 0), .sc (.int .u8 0), .sc (.int .u8 0), .sc (.int .u8 0), .sc (.int .u8 0), .sc (.int .u8 0), .sc (.int .u8 0), .sc (.int .u8 0), .sc (.int .u8 0), .sc (.int .u8 0), .sc (.int .u8 0), .sc (.int .u8 0)], .sc (.int .i64 0), .ro 99 true true [], .st 45 [.sc (.int .i64 0), .sc (.int .i64 0)]], .sc (.int .i64 (dCk (DV.mk x13_0 x14_0 x15_0 x16_0 x17_0 (Jt 1 (RS.mk x11_0 x12_0)) x19_0 (Jt 8 (J9 (Jb 1 (RS.mk x11_0 x12_0)))) (Jt 8 (Jb 8 (J9 (Jb 1 (RS.mk x11_0 x12_0))))))))]) [] []) else k (Res.mk (.tup [.st 73 [.st 45 [.sc (.int .i64 x13_0), .sc (.int .i64 x14_0)], .sc (.int .i64 x15_0), .sc (.int .i64 x16_0), .ar 37 x17_0, .sc (.int .i64 (Jt 1 (RS.mk x11_0 x12_0))), .ro 99 true true x19_0, .st 45 [.sc (.int .i64 (Jt 8 (J9 (Jb 1 (RS.mk x11_0 x12_0))))), .sc (.int .i64 (Jt 8 (Jb 8 (J9 (Jb 1 (RS.mk x11_0 x12_0))))))]], .sc (.int .i64 0)]) [] []) else none else bif (Jb 8 (Jb 8 (J9 (Jb 1 (RS.mk x11_0 x12_0))))).e != 0 then k (Res.mk (.tup [.st 73 [.st 45 [.sc (.int .i64 0), .sc (.int .i64 0)], .sc (.int .i64 0), .sc (.int .i64 0), .ar 37 [.sc (.int .u8 0), .sc (.int .u8 0), .sc (.int .u8 0), .sc (.int .u8 0), .sc (.int .u8 0), .sc (.int .u8 0), .sc (.int .u8 0), .sc (.int .u8 0), .sc (.int .u8 0), .sc (.int .u8 0), .sc (.int .u8 0), .sc (.int .u8 0), .sc (.int .u8 0), .sc (.int .u8 0), .sc (.int .u8 0), .sc (.int .u8 0), .sc (.int .u8 0), .sc (.int .u8 0), .sc (.int .u8 0), .sc (.int .u8 0), .sc (.int .u8 0), .sc (.int .u8 0), .sc (.int .u8 0), .sc (.int .u8 0), .sc (.int .u8 0), .sc (.int .u8 0), .sc (.int .u8 0), .sc (.int .u8 0), .sc (.int .u8 0), .sc (.int .u8 0), .sc (.int .u8 0), .sc (.int .u8 0)], .sc (.int .i64 0), .ro 99 true true [], .st 45 [.sc (.int .i64 0), .sc (.int .i64 0)]], .sc (.int .i64 (Jb 8 (Jb 8 (J9 (Jb 1 (RS.mk x11_0 x12_0))))).e)]) [] []) else k (Res.mk (.tup [.st 73 [.st 45 [.sc (.int .i64 x13_0), .sc (.int .i64 x14_0)], .sc (.int .i64 x15_0), .sc (.int .i64 x16_0), .ar 37 x17_0, .sc (.int .i64 (Jt 1 (RS.mk x11_0 x12_0))), .ro 99 true true x19_0, .st 45 [.sc (.int .i64 (Jt 8 (J9 (Jb 1 (RS.mk x11_0 x12_0))))), .sc (.int .i64 (Jt 8 (Jb 8 (J9 (Jb 1 (RS.mk x11_0 x12_0))))))]], .sc (.int .i64 0)]) [] []) else none else none else none else none) f (0) (0) (0) (0) (0) ([.sc (.int .u8 0), .sc (.int .u8 0), .sc (.int .u8 0), .sc (.int .u8 0), .sc (.int .u8 0), .sc (.int .u8 0), .sc (.int .u8 0), .sc (.int .u8 0), .sc (.int .u8 0), .sc (.int .u8 0), .sc (.int .u8 0), .sc (.int .u8 0), .sc (.int .u8 0), .sc (.int .u8 0), .sc (.int .u8 0), .sc (.int .u8 0), .sc (.int .u8 0), .sc (.int .u8 0), .sc (.int .u8 0), .sc (.int .u8 0), .sc (.int .u8 0), .sc (.int .u8 0), .sc (.int .u8 0), .sc (.int .u8 0), .sc (.int .u8 0), .sc (.int .u8 0), .sc (.int .u8 0), .sc (.int .u8 0), .sc (.int .u8 0), .sc (.int .u8 0), .sc (.int .u8 0), .sc (.int .u8 0)]) (0) ([]) (0) (0) b_z b_z ((Jb 8 (Jb 8 (Jb 8 (Jb 8 (RS.mk b 0))))).b) ((Jb 8 (Jb 8 (Jb 8 (Jb 8 (RS.mk b 0))))).e) (Jt 8 (RS.mk b 0)) (Jt 8 (Jb 8 (RS.mk b 0))) (Jt 8 (Jb 8 (Jb 8 (RS.mk b 0)))) (Jt 8 (Jb 8 (Jb 8 (Jb 8 (RS.mk b 0))))) ([.sc (.int .u8 0), .sc (.int .u8 0), .sc (.int .u8 0), .sc (.int .u8 0), .sc (.int .u8 0), .sc (.int .u8 0), .sc (.int .u8 0), .sc (.int .u8 0), .sc (.int .u8 0), .sc (.int .u8 0), .sc (.int .u8 0), .sc (.int .u8 0), .sc (.int .u8 0), .sc (.int .u8 0), .sc (.int .u8 0), .sc (.int .u8 0), .sc (.int .u8 0), .sc (.int .u8 0), .sc (.int .u8 0), .sc (.int .u8 0), .sc (.int .u8 0), .sc (.int .u8 0), .sc (.int .u8 0), .sc (.int .u8 0), .sc (.int .u8 0), .sc (.int .u8 0), .sc (.int .u8 0), .sc (.int .u8 0), .sc (.int .u8 0), .sc (.int .u8 0), .sc (.int .u8 0), .sc (.int .u8 0)]) (0) ([]) (0) (0) else none else none else none else none else none
theorem JA9 (f : Nat) (b_z : Bool) (b_f : Bool) (b : List PV) (k : Res → Option Res) : JM tau Jl4 Try.f103 (Try.f103.body.get!) (Jje (Vr f)) [.ro, .ro] 0 [.ro 5 b_z b_f b] [] k = Jth f b_z b_f b k := by kernel_rfl
theorem Jyf (f : Nat) : Jg (Try.f103.body.get!) (Jje (Vr f)) = [.l GN WR Jb7 (Vr f)] := by kernel_rfl
theorem Jyg (f : Nat) : ∀ q ∈ Jg (Try.f103.body.get!) (Jje (Vr f)), q.Ok tau Try.prog 0 := by
  rw [Jyf f]; simp only [List.forall_mem_cons, List.not_mem_nil, false_implies, implies_true, and_true]; exact Jtg f
theorem Jq3 : Try.prog.funcs[103]? = some Try.f103 := by kernel_rfl
theorem Jq4 : Try.f103.body = some (Try.f103.body.get!) := by kernel_rfl
theorem Jyh : Enters Try.prog 103 := enters_of Jq3 (by kernel_rfl) Jq4
noncomputable def Jyi : Fns := JD 84 Jm6 (F0)
theorem JoP : Jz tau Try.prog Jyi := (JG).add JkQ Jrx
def Jjf : An := (.seq .leaf (.seq .leaf (.seq .leaf (.seq .leaf .leaf))))
noncomputable def Jyj (f : Nat) (r_B_z : Bool) (r_B_f : Bool) (r_B : List PV) (r_P : Int) (r_Err : Int) (k : Res → Option Res) : Option Res :=
  bif okT (RT.mk r_B r_P r_Err) then
    bif okT (Ja 8 (RT.mk r_B r_P r_Err)) then
      k (Res.mk (PV.st 45 [PV.sc (Value.int IntKind.i64 (Jw 8 (RT.mk r_B r_P r_Err))), PV.sc (Value.int IntKind.i64 (Jw 8 (Ja 8 (RT.mk r_B r_P r_Err))))])
        [Ent.box false 138
            (PV.st 138
              [PV.ro 5 r_B_z r_B_f (Ja 8 (Ja 8 (RT.mk r_B r_P r_Err))).B, PV.sc (Value.int IntKind.i64 (Ja 8 (Ja 8 (RT.mk r_B r_P r_Err))).P),
                PV.sc (Value.int IntKind.i64 (Ja 8 (Ja 8 (RT.mk r_B r_P r_Err))).e)])]
        [])
    else none
  else none
theorem JBa (f : Nat) (r_B_z : Bool) (r_B_f : Bool) (r_B : List PV) (r_P : Int) (r_Err : Int) (k : Res → Option Res) : JM tau Jyi Try.f105 (Try.f105.body.get!) Jjf [.ro] 0 [.ptr 0 []] [.box false 138 (.st 138 [.ro 5 r_B_z r_B_f r_B, .sc (.int .i64 r_P), .sc (.int .i64 r_Err)])] k = Jyj f r_B_z r_B_f r_B r_P r_Err k := by kernel_rfl
theorem Jyk (f : Nat) : Jg (Try.f105.body.get!) Jjf = [] := by kernel_rfl
theorem Jyl (f : Nat) : ∀ q ∈ Jg (Try.f105.body.get!) Jjf, q.Ok tau Try.prog 1 := by
  rw [Jyk f]; intro q hq; cases hq
theorem Jq5 : Try.prog.funcs[105]? = some Try.f105 := by kernel_rfl
theorem Jq6 : Try.f105.body = some (Try.f105.body.get!) := by kernel_rfl
theorem Jym : Enters Try.prog 105 := enters_of Jq5 (by kernel_rfl) Jq6
noncomputable def Jhu : List PV → List Ent → (Res → Option Res) → Option Res
  | [.ptr 0 []], [.box false 138 (.st 138 [.ro 5 r_B_z r_B_f r_B, .sc (.int .i64 r_P), .sc (.int .i64 r_Err)])], k => Jyj 0 r_B_z r_B_f r_B r_P r_Err k
  | _, _, _ => none
noncomputable def Jyn : Sig := { own := [], run := Jhu }
theorem Jyo : Ji tau Try.prog 105 Jyn := JS Jr JoP Js Jq5 Jq6 Jjf [.ro] 1 [] Jhu (Jyl 0) fun xs es k res hr => by
  unfold Jhu at hr
  split at hr
  · exact ⟨rfl, 0, (JBa 0 _ _ _ _ _  _).trans hr⟩
  · cases hr
noncomputable def F52 : Fns := JD 107 Jq2 (JD 106 JqP (JD 105 Jyn (JD 88 s88 (JD 87 JuZ (JD 86 JrB (JD 84 Jm6 (JD 83 Jm8 (JD 82 s82 (F0)))))))))
theorem Jti : Jz tau Try.prog F52 := (((((((((JG).add JxG JxF).add JkR Jrz).add JkQ Jrx).add JpA JuB).add Ju0 Jzw).add JxM JxL).add Jyo Jym).add Jta JxP).add Jtf Jyd
def JoQ : An := (.seq .leaf (.seq .leaf (.seq .leaf (.seq .leaf (.seq .leaf (.seq .leaf (.seq .leaf (.seq .leaf (.seq .leaf (.seq .leaf (.seq (.seq .leaf (.cond .leaf .leaf)) (.seq (.seq .leaf (.cond .leaf .leaf)) (.seq (.seq .leaf (.cond (.seq .leaf .leaf) .leaf)) (.seq .leaf .leaf))))))))))))))
noncomputable def g52 (f : Nat) (b_z : Bool) (b_f : Bool) (b : List PV) (k : Res → Option Res) : Option Res := bif okT (RT.mk b 0 0) then bif okT (Ja 8 (RT.mk b 0 0)) then bif okT (Ja 8 (Ja 8 (RT.mk b 0 0))) then bif okT (Ja 8 (Ja 8 (Ja 8 (RT.mk b 0 0)))) then bif okT (Ja 8 (Ja 8 (Ja 8 (Ja 8 (RT.mk b 0 0))))) then bif okT (hashT (Ja 8 (Ja 8 (Ja 8 (Ja 8 (RT.mk b 0 0)))))) then bif okT (Ja 1 (hashT (Ja 8 (Ja 8 (Ja 8 (Ja 8 (RT.mk b 0 0))))))) then bif okT (J3 (Ja 1 (hashT (Ja 8 (Ja 8 (Ja 8 (Ja 8 (RT.mk b 0 0)))))))) then bif okT (Ja 8 (J3 (Ja 1 (hashT (Ja 8 (Ja 8 (Ja 8 (Ja 8 (RT.mk b 0 0))))))))) then bif (Ja 8 (Ja 8 (J3 (Ja 1 (hashT (Ja 8 (Ja 8 (Ja 8 (Ja 8 (RT.mk b 0 0)))))))))).e == 0 then bif decide ((Ja 8 (Ja 8 (J3 (Ja 1 (hashT (Ja 8 (Ja 8 (Ja 8 (Ja 8 (RT.mk b 0 0)))))))))).P < zi (Ja 8 (Ja 8 (J3 (Ja 1 (hashT (Ja 8 (Ja 8 (Ja 8 (Ja 8 (RT.mk b 0 0)))))))))).B.length) then k (Res.mk (.tup [.st 73 [.st 45 [.sc (.int .i64 0), .sc (.int .i64 0)], .sc (.int .i64 0), .sc (.int .i64 0), .ar 37 [.sc (.int .u8 0), .sc (.int .u8 0), .sc (.int .u8 0), .sc (.int .u8 0), .sc (.int .u8 0), .sc (.int .u8 0), .sc (.int .u8 0), .sc (.int .u8 0), .sc (.int .u8 0), .sc (.int .u8 0), .sc (.int .u8 0), .sc (.int .u8 0), .sc (.int .u8 0), .sc (.int .u8 0), .sc (.int .u8 0), .sc (.int .u8 0), .sc (.int .u8 0), .sc (.int .u8 0), .sc (.int .u8 0), .sc (.int .u8 0), .sc (.int .u8 0), .sc (.int .u8 0), .sc (.int .u8 0), .sc (.int .u8 0), .sc (.int .u8 0), .sc (.int .u8 0), .sc (.int .u8 0), .sc (.int .u8 0), .sc (.int .u8 0), .sc (.int .u8 0), .sc (.int .u8 0), .sc (.int .u8 0)], .sc (.int .i64 0), .ro 99 true true [], .st 45 [.sc (.int .i64 0), .sc (.int .i64 0)]], .sc (.int .i64 9)]) [] []) else bif (Ja 8 (Ja 8 (J3 (Ja 1 (hashT (Ja 8 (Ja 8 (Ja 8 (Ja 8 (RT.mk b 0 0)))))))))).e == 0 then bif Jn (JJ (Ja 1 (hashT (Ja 8 (Ja 8 (Ja 8 (Ja 8 (RT.mk b 0 0)))))))).size 1 && true then bif byB (List.take (JJ (Ja 1 (hashT (Ja 8 (Ja 8 (Ja 8 (Ja 8 (RT.mk b 0 0)))))))).size (Jl (JJ (Ja 1 (hashT (Ja 8 (Ja 8 (Ja 8 (Ja 8 (RT.mk b 0 0)))))))))) && (List.take (JJ (Ja 1 (hashT (Ja 8 (Ja 8 (Ja 8 (Ja 8 (RT.mk b 0 0)))))))).size (List.drop 0 (Jl (JJ (Ja 1 (hashT (Ja 8 (Ja 8 (Ja 8 (Ja 8 (RT.mk b 0 0))))))))))).length.ble 1000000000 then bif opE (List.take (JJ (Ja 1 (hashT (Ja 8 (Ja 8 (Ja 8 (Ja 8 (RT.mk b 0 0)))))))).size (Jl (JJ (Ja 1 (hashT (Ja 8 (Ja 8 (Ja 8 (Ja 8 (RT.mk b 0 0)))))))))) == 0 then bif cOk (opL (List.take (JJ (Ja 1 (hashT (Ja 8 (Ja 8 (Ja 8 (Ja 8 (RT.mk b 0 0)))))))).size (Jl (JJ (Ja 1 (hashT (Ja 8 (Ja 8 (Ja 8 (Ja 8 (RT.mk b 0 0))))))))))) then bif dCk (DV.mk (Jw 8 (RT.mk b 0 0)) (Jw 8 (Ja 8 (RT.mk b 0 0))) (Jw 8 (Ja 8 (Ja 8 (RT.mk b 0 0)))) (Jw 8 (Ja 8 (Ja 8 (Ja 8 (RT.mk b 0 0))))) (pu IntKind.u8 (hashVT (Ja 8 (Ja 8 (Ja 8 (Ja 8 (RT.mk b 0 0))))))) (Jw 1 (hashT (Ja 8 (Ja 8 (Ja 8 (Ja 8 (RT.mk b 0 0))))))) (opL (List.take (JJ (Ja 1 (hashT (Ja 8 (Ja 8 (Ja 8 (Ja 8 (RT.mk b 0 0)))))))).size (Jl (JJ (Ja 1 (hashT (Ja 8 (Ja 8 (Ja 8 (Ja 8 (RT.mk b 0 0))))))))))) (Jw 8 (J3 (Ja 1 (hashT (Ja 8 (Ja 8 (Ja 8 (Ja 8 (RT.mk b 0 0))))))))) (Jw 8 (Ja 8 (J3 (Ja 1 (hashT (Ja 8 (Ja 8 (Ja 8 (Ja 8 (RT.mk b 0 0))))))))))) != 0 then k (Res.mk (.tup [.st 73 [.st 45 [.sc (.int .i64 0), .sc (.int .i64 0)], .sc (.int .i64 0), .sc (.int .i64 0), .ar 37 [.sc (.int .u8 0), .sc (.int .u8 0), .sc (.int .u8 0), .sc (.int .u8 0), .sc (.int .u8 0), .sc (.int .u8 0), .sc (.int .u8 0), .sc (.int .u8 0), .sc (.int .u8 0), .sc (.int .u8 0), .sc (.int .u8 0), .sc (.int .u8 0), .sc (.int .u8 0), .sc (.int .u8 0), .sc (.int .u8 0), .sc (.int .u8 0), .sc (.int .u8 0), .sc (.int .u8 0), .sc (.int .u8 0), .sc (.int .u8 0), .sc (.int .u8 0), .sc (.int .u8 0), .sc (.int .u8 0), .sc (.int .u8 0), .sc (.int .u8 0), .sc (.int .u8 0), .sc (.int .u8 0), .sc (.int .u8 0), .sc (.int .u8 0), .sc (.int .u8 0), .sc (.int .u8 0), .sc (.int .u8 0)], .sc (.int .i64 0), .ro 99 true true [], .st 45 [.sc (.int .i64 0), .sc (.int .i64 0)]], .sc (.int .i64 (dCk (DV.mk (Jw 8 (RT.mk b 0 0)) (Jw 8 (Ja 8 (RT.mk b 0 0))) (Jw 8 (Ja 8 (Ja 8 (RT.mk b 0 0)))) (Jw 8 (Ja 8 (Ja 8 (Ja 8 (RT.mk b 0 0))))) (pu IntKind.u8 (hashVT (Ja 8 (Ja 8 (Ja 8 (Ja 8 (RT.mk b 0 0))))))) (Jw 1 (hashT (Ja 8 (Ja 8 (Ja 8 (Ja 8 (RT.mk b 0 0))))))) (opL (List.take (JJ (Ja 1 (hashT (Ja 8 (Ja 8 (Ja 8 (Ja 8 (RT.mk b 0 0)))))))).size (Jl (JJ (Ja 1 (hashT (Ja 8 (Ja 8 (Ja 8 (Ja 8 (RT.mk b 0 0))))))))))) (Jw 8 (J3 (Ja 1 (hashT (Ja 8 (Ja 8 (Ja 8 (Ja 8 (RT.mk b 0 0))))))))) (Jw 8 (Ja 8 (J3 (Ja 1 (hashT (Ja 8 (Ja 8 (Ja 8 (Ja 8 (RT.mk b 0 0)))))))))))))]) [] []) else k (Res.mk (.tup [.st 73 [.st 45 [.sc (.int .i64 (Jw 8 (RT.mk b 0 0))), .sc (.int .i64 (Jw 8 (Ja 8 (RT.mk b 0 0))))], .sc (.int .i64 (Jw 8 (Ja 8 (Ja 8 (RT.mk b 0 0))))), .sc (.int .i64 (Jw 8 (Ja 8 (Ja 8 (Ja 8 (RT.mk b 0 0)))))), .ar 37 (pu IntKind.u8 (hashVT (Ja 8 (Ja 8 (Ja 8 (Ja 8 (RT.mk b 0 0))))))), .sc (.int .i64 (Jw 1 (hashT (Ja 8 (Ja 8 (Ja 8 (Ja 8 (RT.mk b 0 0)))))))), .ro 99 (opL (List.take (JJ (Ja 1 (hashT (Ja 8 (Ja 8 (Ja 8 (Ja 8 (RT.mk b 0 0)))))))).size (Jl (JJ (Ja 1 (hashT (Ja 8 (Ja 8 (Ja 8 (Ja 8 (RT.mk b 0 0))))))))))).isEmpty (opF (List.take (JJ (Ja 1 (hashT (Ja 8 (Ja 8 (Ja 8 (Ja 8 (RT.mk b 0 0)))))))).size (Jl (JJ (Ja 1 (hashT (Ja 8 (Ja 8 (Ja 8 (Ja 8 (RT.mk b 0 0))))))))))) (opL (List.take (JJ (Ja 1 (hashT (Ja 8 (Ja 8 (Ja 8 (Ja 8 (RT.mk b 0 0)))))))).size (Jl (JJ (Ja 1 (hashT (Ja 8 (Ja 8 (Ja 8 (Ja 8 (RT.mk b 0 0))))))))))), .st 45 [.sc (.int .i64 (Jw 8 (J3 (Ja 1 (hashT (Ja 8 (Ja 8 (Ja 8 (Ja 8 (RT.mk b 0 0)))))))))), .sc (.int .i64 (Jw 8 (Ja 8 (J3 (Ja 1 (hashT (Ja 8 (Ja 8 (Ja 8 (Ja 8 (RT.mk b 0 0)))))))))))]], .sc (.int .i64 0)]) [] []) else none else bif opE (List.take (JJ (Ja 1 (hashT (Ja 8 (Ja 8 (Ja 8 (Ja 8 (RT.mk b 0 0)))))))).size (Jl (JJ (Ja 1 (hashT (Ja 8 (Ja 8 (Ja 8 (Ja 8 (RT.mk b 0 0)))))))))) != 0 then k (Res.mk (.tup [.st 73 [.st 45 [.sc (.int .i64 0), .sc (.int .i64 0)], .sc (.int .i64 0), .sc (.int .i64 0), .ar 37 [.sc (.int .u8 0), .sc (.int .u8 0), .sc (.int .u8 0), .sc (.int .u8 0), .sc (.int .u8 0), .sc (.int .u8 0), .sc (.int .u8 0), .sc (.int .u8 0), .sc (.int .u8 0), .sc (.int .u8 0), .sc (.int .u8 0), .sc (.int .u8 0), .sc (.int .u8 0), .sc (.int .u8 0), .sc (.int .u8 0), .sc (.int .u8 0), .sc (.int .u8 0), .sc (.int .u8 0), .sc (.int .u8 0), .sc (.int .u8 0), .sc (.int .u8 0), .sc (.int .u8 0), .sc (.int .u8 0), .sc (.int .u8 0), .sc (.int .u8 0), .sc (.int .u8 0), .sc (.int .u8 0), .sc (.int .u8 0), .sc (.int .u8 0), .sc (.int .u8 0), .sc (.int .u8 0), .sc (.int .u8 0)], .sc (.int .i64 0), .ro 99 true true [], .st 45 [.sc (.int .i64 0), .sc (.int .i64 0)]], .sc (.int .i64 (opE (List.take (JJ (Ja 1 (hashT (Ja 8 (Ja 8 (Ja 8 (Ja 8 (RT.mk b 0 0)))))))).size (Jl (JJ (Ja 1 (hashT (Ja 8 (Ja 8 (Ja 8 (Ja 8 (RT.mk b 0 0))))))))))))]) [] []) else k (Res.mk (.tup [.st 73 [.st 45 [.sc (.int .i64 (Jw 8 (RT.mk b 0 0))), .sc (.int .i64 (Jw 8 (Ja 8 (RT.mk b 0 0))))], .sc (.int .i64 (Jw 8 (Ja 8 (Ja 8 (RT.mk b 0 0))))), .sc (.int .i64 (Jw 8 (Ja 8 (Ja 8 (Ja 8 (RT.mk b 0 0)))))), .ar 37 (pu IntKind.u8 (hashVT (Ja 8 (Ja 8 (Ja 8 (Ja 8 (RT.mk b 0 0))))))), .sc (.int .i64 (Jw 1 (hashT (Ja 8 (Ja 8 (Ja 8 (Ja 8 (RT.mk b 0 0)))))))), .ro 99 (opL (List.take (JJ (Ja 1 (hashT (Ja 8 (Ja 8 (Ja 8 (Ja 8 (RT.mk b 0 0)))))))).size (Jl (JJ (Ja 1 (hashT (Ja 8 (Ja 8 (Ja 8 (Ja 8 (RT.mk b 0 0))))))))))).isEmpty (opF (List.take (JJ (Ja 1 (hashT (Ja 8 (Ja 8 (Ja 8 (Ja 8 (RT.mk b 0 0)))))))).size (Jl (JJ (Ja 1 (hashT (Ja 8 (Ja 8 (Ja 8 (Ja 8 (RT.mk b 0 0))))))))))) (opL (List.take (JJ (Ja 1 (hashT (Ja 8 (Ja 8 (Ja 8 (Ja 8 (RT.mk b 0 0)))))))).size (Jl (JJ (Ja 1 (hashT (Ja 8 (Ja 8 (Ja 8 (Ja 8 (RT.mk b 0 0))))))))))), .st 45 [.sc (.int .i64 (Jw 8 (J3 (Ja 1 (hashT (Ja 8 (Ja 8 (Ja 8 (Ja 8 (RT.mk b 0 0)))))))))), .sc (.int .i64 (Jw 8 (Ja 8 (J3 (Ja 1 (hashT (Ja 8 (Ja 8 (Ja 8 (Ja 8 (RT.mk b 0 0)))))))))))]], .sc (.int .i64 0)]) [] []) else none else none else bif (Ja 8 (Ja 8 (J3 (Ja 1 (hashT (Ja 8 (Ja 8 (Ja 8 (Ja 8 (RT.mk b 0 0)))))))))).e == 0 then bif cOk [] then bif dCk (DV.mk (Jw 8 (RT.mk b 0 0)) (Jw 8 (Ja 8 (RT.mk b 0 0))) (Jw 8 (Ja 8 (Ja 8 (RT.mk b 0 0)))) (Jw 8 (Ja 8 (Ja 8 (Ja 8 (RT.mk b 0 0))))) (pu IntKind.u8 (hashVT (Ja 8 (Ja 8 (Ja 8 (Ja 8 (RT.mk b 0 0))))))) (Jw 1 (hashT (Ja 8 (Ja 8 (Ja 8 (Ja 8 (RT.mk b 0 0))))))) [] (Jw 8 (J3 (Ja 1 (hashT (Ja 8 (Ja 8 (Ja 8 (Ja 8 (RT.mk b 0 0))))))))) (Jw 8 (Ja 8 (J3 (Ja 1 (hashT (Ja 8 (Ja 8 (Ja 8 (Ja 8 (RT.mk b 0 0))))))))))) != 0 then k (Res.mk (.tup [.st 73 [.st 45 [.sc (.int .i64 0), .sc (.int .i64 0)], .sc (.int .i64 0), .sc (.int .i64 0), .ar 37 [.sc (.int .u8 0), .sc (.int .u8 0), .sc (.int .u8 0), .sc (.int .u8 0), .sc (.int .u8 0), .sc (.int .u8 0), .sc (.int .u8 0), .sc (.int .u8 0), .sc (.int .u8 0), .sc (.int .u8 0), .sc (.int .u8 0), .sc (.int .u8 0), .sc (.int .u8 0), .sc (.int .u8 0), .sc (.int .u8 0), .sc (.int .u8 0), .sc (.int .u8 0), .sc (.int .u8 0), .sc (.int .u8 0), .sc (.int .u8 0), .sc (.int .u8 0), .sc (.int .u8 0), .sc (.int .u8 0), .sc (.int .u8 0), .sc (.int .u8 0), .sc (.int .u8 0), .sc (.int .u8 0), .sc (.int .u8 0), .sc (.int .u8 0), .sc (.int .u8 0), .sc (.int .u8 0), .sc (.int .u8 0)], .sc (.int .i64 0), .ro 99 true true [], .st 45 [.sc (.int .i64 0), .sc (.int .i64 0)]], .sc (.int .i64 (dCk (DV.mk (Jw 8 (RT.mk b 0 0)) (Jw 8 (Ja 8 (RT.mk b 0 0))) (Jw 8 (Ja 8 (Ja 8 (RT.mk b 0 0)))) (Jw 8 (Ja 8 (Ja 8 (Ja 8 (RT.mk b 0 0))))) (pu IntKind.u8 (hashVT (Ja 8 (Ja 8 (Ja 8 (Ja 8 (RT.mk b 0 0))))))) (Jw 1 (hashT (Ja 8 (Ja 8 (Ja 8 (Ja 8 (RT.mk b 0 0))))))) [] (Jw 8 (J3 (Ja 1 (hashT (Ja 8 (Ja 8 (Ja 8 (Ja 8 (RT.mk b 0 0))))))))) (Jw 8 (Ja 8 (J3 (Ja 1 (hashT (Ja 8 (Ja 8 (Ja 8 (Ja 8 (RT.mk b 0 0)))))))))))))]) [] []) else k (Res.mk (.tup [.st 73 [.st 45 [.sc (.int .i64 (Jw 8 (RT.mk b 0 0))), .sc (.int .i64 (Jw 8 (Ja 8 (RT.mk b 0 0))))], .sc (.int .i64 (Jw 8 (Ja 8 (Ja 8 (RT.mk b 0 0))))), .sc (.int .i64 (Jw 8 (Ja 8 (Ja 8 (Ja 8 (RT.mk b 0 0)))))), .ar 37 (pu IntKind.u8 (hashVT (Ja 8 (Ja 8 (Ja 8 (Ja 8 (RT.mk b 0 0))))))), .sc (.int .i64 (Jw 1 (hashT (Ja 8 (Ja 8 (Ja 8 (Ja 8 (RT.mk b 0 0)))))))), .ro 99 true true [], .st 45 [.sc (.int .i64 (Jw 8 (J3 (Ja 1 (hashT (Ja 8 (Ja 8 (Ja 8 (Ja 8 (RT.mk b 0 0)))))))))), .sc (.int .i64 (Jw 8 (Ja 8 (J3 (Ja 1 (hashT (Ja 8 (Ja 8 (Ja 8 (Ja 8 (RT.mk b 0 0)))))))))))]], .sc (.int .i64 0)]) [] []) else none else bif (Ja 8 (Ja 8 (J3 (Ja 1 (hashT (Ja 8 (Ja 8 (Ja 8 (Ja 8 (RT.mk b 0 0)))))))))).e != 0 then k (Res.mk (.tup [.st 73 [.st 45 [.sc (.int .i64 0), .sc (.int .i64 0)], .sc (.int .i64 0), .sc (.int .i64 0), .ar 37 [.sc (.int .u8 0), .sc (.int .u8 0), .sc (.int .u8 0), .sc (.int .u8 0), .sc (.int .u8 0), .sc (.int .u8 0), .sc (.int .u8 0), .sc (.int .u8 0), .sc (.int .u8 0), .sc (.int .u8 0), .sc (.int .u8 0), .sc (.int .u8 0), .sc (.int .u8 0), .sc (.int .u8 0), .sc (.int .u8 0), .sc (.int .u8 0), .sc (.int .u8 0), .sc (.int .u8 0), .sc (.int .u8 0), .sc (.int .u8 0), .sc (.int .u8 0), .sc (.int .u8 0), .sc (.int .u8 0), .sc (.int .u8 0), .sc (.int .u8 0), .sc (.int .u8 0), .sc (.int .u8 0), .sc (.int .u8 0), .sc (.int .u8 0), .sc (.int .u8 0), .sc (.int .u8 0), .sc (.int .u8 0)], .sc (.int .i64 0), .ro 99 true true [], .st 45 [.sc (.int .i64 0), .sc (.int .i64 0)]], .sc (.int .i64 (Ja 8 (Ja 8 (J3 (Ja 1 (hashT (Ja 8 (Ja 8 (Ja 8 (Ja 8 (RT.mk b 0 0)))))))))).e)]) [] []) else k (Res.mk (.tup [.st 73 [.st 45 [.sc (.int .i64 (Jw 8 (RT.mk b 0 0))), .sc (.int .i64 (Jw 8 (Ja 8 (RT.mk b 0 0))))], .sc (.int .i64 (Jw 8 (Ja 8 (Ja 8 (RT.mk b 0 0))))), .sc (.int .i64 (Jw 8 (Ja 8 (Ja 8 (Ja 8 (RT.mk b 0 0)))))), .ar 37 (pu IntKind.u8 (hashVT (Ja 8 (Ja 8 (Ja 8 (Ja 8 (RT.mk b 0 0))))))), .sc (.int .i64 (Jw 1 (hashT (Ja 8 (Ja 8 (Ja 8 (Ja 8 (RT.mk b 0 0)))))))), .ro 99 true true [], .st 45 [.sc (.int .i64 (Jw 8 (J3 (Ja 1 (hashT (Ja 8 (Ja 8 (Ja 8 (Ja 8 (RT.mk b 0 0)))))))))), .sc (.int .i64 (Jw 8 (Ja 8 (J3 (Ja 1 (hashT (Ja 8 (Ja 8 (Ja 8 (Ja 8 (RT.mk b 0 0)))))))))))]], .sc (.int .i64 0)]) [] []) else bif (Ja 8 (Ja 8 (J3 (Ja 1 (hashT (Ja 8 (Ja 8 (Ja 8 (Ja 8 (RT.mk b 0 0)))))))))).e == 0 then bif Jn (JJ (Ja 1 (hashT (Ja 8 (Ja 8 (Ja 8 (Ja 8 (RT.mk b 0 0)))))))).size 1 && true then bif byB (List.take (JJ (Ja 1 (hashT (Ja 8 (Ja 8 (Ja 8 (Ja 8 (RT.mk b 0 0)))))))).size (Jl (JJ (Ja 1 (hashT (Ja 8 (Ja 8 (Ja 8 (Ja 8 (RT.mk b 0 0)))))))))) && (List.take (JJ (Ja 1 (hashT (Ja 8 (Ja 8 (Ja 8 (Ja 8 (RT.mk b 0 0)))))))).size (List.drop 0 (Jl (JJ (Ja 1 (hashT (Ja 8 (Ja 8 (Ja 8 (Ja 8 (RT.mk b 0 0))))))))))).length.ble 1000000000 then bif opE (List.take (JJ (Ja 1 (hashT (Ja 8 (Ja 8 (Ja 8 (Ja 8 (RT.mk b 0 0)))))))).size (Jl (JJ (Ja 1 (hashT (Ja 8 (Ja 8 (Ja 8 (Ja 8 (RT.mk b 0 0)))))))))) == 0 then bif cOk (opL (List.take (JJ (Ja 1 (hashT (Ja 8 (Ja 8 (Ja 8 (Ja 8 (RT.mk b 0 0)))))))).size (Jl (JJ (Ja 1 (hashT (Ja 8 (Ja 8 (Ja 8 (Ja 8 (RT.mk b 0 0))))))))))) then bif dCk (DV.mk (Jw 8 (RT.mk b 0 0)) (Jw 8 (Ja 8 (RT.mk b 0 0))) (Jw 8 (Ja 8 (Ja 8 (RT.mk b 0 0)))) (Jw 8 (Ja 8 (Ja 8 (Ja 8 (RT.mk b 0 0))))) (pu IntKind.u8 (hashVT (Ja 8 (Ja 8 (Ja 8 (Ja 8 (RT.mk b 0 0))))))) (Jw 1 (hashT (Ja 8 (Ja 8 (Ja 8 (Ja 8 (RT.mk b 0 0))))))) (opL (List.take (JJ (Ja 1 (hashT (Ja 8 (Ja 8 (Ja 8 (Ja 8 (RT.mk b 0 0)))))))).size (Jl (JJ (Ja 1 (hashT (Ja 8 (Ja 8 (Ja 8 (Ja 8 (RT.mk b 0 0))))))))))) (Jw 8 (J3 (Ja 1 (hashT (Ja 8 (Ja 8 (Ja 8 (Ja 8 (RT.mk b 0 0))))))))) (Jw 8 (Ja 8 (J3 (Ja 1 (hashT (Ja 8 (Ja 8 (Ja 8 (Ja 8 (RT.mk b 0 0))))))))))) != 0 then k (Res.mk (.tup [.st 73 [.st 45 [.sc (.int .i64 0), .sc (.int .i64 0)], .sc (.int .i64 0), .sc (.int .i64 0), .ar 37 [.sc (.int .u8 0), .sc (.int .u8 0), .sc (.int .u8 0), .sc (.int .u8 0), .sc (.int .u8 0), .sc (.int .u8 0), .sc (.int .u8 0), .sc (.int .u8 0), .sc (.int .u8 0), .sc (.int .u8 0), .sc (.int .u8 0), .sc (.int .u8 0), .sc (.int .u8 0), .sc (.int .u8 0), .sc (.int .u8 0), .sc (.int .u8 0), .sc (.int .u8 0), .sc (.int .u8 0), .sc (.int .u8 0), .sc (.int .u8 0), .sc (.int .u8 0), .sc (.int .u8 0), .sc (.int .u8 0), .sc (.int .u8 0), .sc (.int .u8 0), .sc (.int .u8 0), .sc (.int .u8 0), .sc (.int .u8 0), .sc (.int .u8 0), .sc (.int .u8 0), .sc (.int .u8 0), .sc (.int .u8 0)], .sc (.int .i64 0), .ro 99 true true [], .st 45 [.sc (.int .i64 0), .sc (.int .i64 0)]], .sc (.int .i64 (dCk (DV.mk (Jw 8 (RT.mk b 0 0)) (Jw 8 (Ja 8 (RT.mk b 0 0))) (Jw 8 (Ja 8 (Ja 8 (RT.mk b 0 0)))) (Jw 8 (Ja 8 (Ja 8 (Ja 8 (RT.mk b 0 0))))) (pu IntKind.u8 (hashVT (Ja 8 (Ja 8 (Ja 8 (Ja 8 (RT.mk b 0 0))))))) (Jw 1 (hashT (Ja 8 (Ja 8 (Ja 8 (Ja 8 (RT.mk b 0 0))))))) (opL (List.take (JJ (Ja 1 (hashT (Ja 8 (Ja 8 (Ja 8 (Ja 8 (RT.mk b 0 0)))))))).size (Jl (JJ (Ja 1 (hashT (Ja 8 (Ja 8 (Ja 8 (Ja 8 (RT.mk b 0 0))))))))))) (Jw 8 (J3 (Ja 1 (hashT (Ja 8 (Ja 8 (Ja 8 (Ja 8 (RT.mk b 0 0))))))))) (Jw 8 (Ja 8 (J3 (Ja 1 (hashT (Ja 8 (Ja 8 (Ja 8 (Ja 8 (RT.mk b 0 0)))))))))))))]) [] []) else k (Res.mk (.tup [.st 73 [.st 45 [.sc (.int .i64 (Jw 8 (RT.mk b 0 0))), .sc (.int .i64 (Jw 8 (Ja 8 (RT.mk b 0 0))))], .sc (.int .i64 (Jw 8 (Ja 8 (Ja 8 (RT.mk b 0 0))))), .sc (.int .i64 (Jw 8 (Ja 8 (Ja 8 (Ja 8 (RT.mk b 0 0)))))), .ar 37 (pu IntKind.u8 (hashVT (Ja 8 (Ja 8 (Ja 8 (Ja 8 (RT.mk b 0 0))))))), .sc (.int .i64 (Jw 1 (hashT (Ja 8 (Ja 8 (Ja 8 (Ja 8 (RT.mk b 0 0)))))))), .ro 99 (opL (List.take (JJ (Ja 1 (hashT (Ja 8 (Ja 8 (Ja 8 (Ja 8 (RT.mk b 0 0)))))))).size (Jl (JJ (Ja 1 (hashT (Ja 8 (Ja 8 (Ja 8 (Ja 8 (RT.mk b 0 0))))))))))).isEmpty (opF (List.take (JJ (Ja 1 (hashT (Ja 8 (Ja 8 (Ja 8 (Ja 8 (RT.mk b 0 0)))))))).size (Jl (JJ (Ja 1 (hashT (Ja 8 (Ja 8 (Ja 8 (Ja 8 (RT.mk b 0 0))))))))))) (opL (List.take (JJ (Ja 1 (hashT (Ja 8 (Ja 8 (Ja 8 (Ja 8 (RT.mk b 0 0)))))))).size (Jl (JJ (Ja 1 (hashT (Ja 8 (Ja 8 (Ja 8 (Ja 8 (RT.mk b 0 0))))))))))), .st 45 [.sc (.int .i64 (Jw 8 (J3 (Ja 1 (hashT (Ja 8 (Ja 8 (Ja 8 (Ja 8 (RT.mk b 0 0)))))))))), .sc (.int .i64 (Jw 8 (Ja 8 (J3 (Ja 1 (hashT (Ja 8 (Ja 8 (Ja 8 (Ja 8 (RT.mk b 0 0)))))))))))]], .sc (.int .i64 0)]) [] []) else none else bif opE (List.take (JJ (Ja 1 (hashT (Ja 8 (Ja 8 (Ja 8 (Ja 8 (RT.mk b 0 0)))))))).size (Jl (JJ (Ja 1 (hashT (Ja 8 (Ja 8 (Ja 8 (Ja 8 (RT.mk b 0 0)))))))))) != 0 then k (Res.mk (.tup [.st 73 [.st 45 [.sc (.int .i64 0), .sc (.int .i64 0)], .sc (.int .i64 0), .sc (.int .i64 0), .ar 37 [.sc (.int .u8 0), .sc (.int .u8 0), .sc (.int .u8 0), .sc (.int .u8 0), .sc (.int .u8 0), .sc (.int .u8 0), .sc (.int .u8 0), .sc (.int .u8 0), .sc (.int .u8 0), .sc (.int .u8 0), .sc (.int .u8 0), .sc (.int .u8 0), .sc (.int .u8 0), .sc (.int .u8 0), .sc (.int .u8 0), .sc (.int .u8 0), .sc (.int .u8 0), .sc (.int .u8 0), .sc (.int .u8 0), .sc (.int .u8 0), .sc (.int .u8 0), .sc (.int .u8 0), .sc (.int .u8 0), .sc (.int .u8 0), .sc (.int .u8 0), .sc (.int .u8 0), .sc (.int .u8 0), .sc (.int .u8 0), .sc (.int .u8 0), .sc (.int .u8 0), .sc (.int .u8 0), .sc (.int .u8 0)], .sc (.int .i64 0), .ro 99 true true [], .st 45 [.sc (.int .i64 0), .sc (.int .i64 0)]], .sc (.int .i64 (opE (List.take (JJ (Ja 1 (hashT (Ja 8 (Ja 8 (Ja 8 (Ja 8 (RT.mk b 0 0)))))))).size (Jl (JJ (Ja 1 (hashT (Ja 8 (Ja 8 (Ja 8 (Ja 8 (RT.mk b 0 0))))))))))))]) [] []) else k (Res.mk (.tup [.st 73 [.st 45 [.sc (.int .i64 (Jw 8 (RT.mk b 0 0))), .sc (.int .i64 (Jw 8 (Ja 8 (RT.mk b 0 0))))], .sc (.int .i64 (Jw 8 (Ja 8 (Ja 8 (RT.mk b 0 0))))), .sc (.int .i64 (Jw 8 (Ja 8 (Ja 8 (Ja 8 (RT.mk b 0 0)))))), .ar 37 (pu IntKind.u8 (hashVT (Ja 8 (Ja 8 (Ja 8 (Ja 8 (RT.mk b 0 0))))))), .sc (.int .i64 (Jw 1 (hashT (Ja 8 (Ja 8 (Ja 8 (Ja 8 (RT.mk b 0 0)))))))), .ro 99 (opL (List.take (JJ (Ja 1 (hashT (Ja 8 (Ja 8 (Ja 8 (Ja 8 (RT.mk b 0 0)))))))).size (Jl (JJ (Ja 1 (hashT (Ja 8 (Ja 8 (Ja 8 (Ja 8 (RT.mk b 0 0))))))))))).isEmpty (opF (List.take (JJ (Ja 1 (hashT (Ja 8 (Ja 8 (Ja 8 (Ja 8 (RT.mk b 0 0)))))))).size (Jl (JJ (Ja 1 (hashT (Ja 8 (Ja 8 (Ja 8 (Ja 8 (RT.mk b 0 0))))))))))) (opL (List.take (JJ (Ja 1 (hashT (Ja 8 (Ja 8 (Ja 8 (Ja 8 (RT.mk b 0 0)))))))).size (Jl (JJ (Ja 1 (hashT (Ja 8 (Ja 8 (Ja 8 (Ja 8 (RT.mk b 0 0))))))))))), .st 45 [.sc (.int .i64 (Jw 8 (J3 (Ja 1 (hashT (Ja 8 (Ja 8 (Ja 8 (Ja 8 (RT.mk b 0 0)))))))))), .sc (.int .i64 (Jw 8 (Ja 8 (J3 (Ja 1 (hashT (Ja 8 (Ja 8 (Ja 8 (Ja 8 (RT.mk b 0 0)))))))))))]], .sc (.int .i64 0)]) [] []) else none else none else bif (Ja 8 (Ja 8 (J3 (Ja 1 (hashT (Ja 8 (Ja 8 (Ja 8 (Ja 8 (RT.mk b 0 0)))))))))).e == 0 then bif cOk [] then bif dCk (DV.mk (Jw 8 (RT.mk b 0 0)) (Jw 8 (Ja 8 (RT.mk b 0 0))) (Jw 8 (Ja 8 (Ja 8 (RT.mk b 0 0)))) (Jw 8 (Ja 8 (Ja 8 (Ja 8 (RT.mk b 0 0))))) (pu IntKind.u8 (hashVT (Ja 8 (Ja 8 (Ja 8 (Ja 8 (RT.mk b 0 0))))))) (Jw 1 (hashT (Ja 8 (Ja 8 (Ja 8 (Ja 8 (RT.mk b 0 0))))))) [] (Jw 8 (J3 (Ja 1 (hashT (Ja 8 (Ja 8 (Ja 8 (Ja 8 (RT.mk b 0 0))))))))) (Jw 8 (Ja 8 (J3 (Ja 1 (hashT (Ja 8 (Ja 8 (Ja 8 (Ja 8 (RT.mk b 0 0))))))))))) != 0 then k (Res.mk (.tup [.st 73 [.st 45 [.sc (.int .i64 0), .sc (.int .i64 0)], .sc (.int .i64 0), .sc (.int .i64 0), .ar 37 [.sc (.int .u8 0), .sc (.int .u8 0), .sc (.int .u8 0), .sc (.int .u8 0), .sc (.int .u8 0), .sc (.int .u8 0), .sc (.int .u8 0), .sc (.int .u8 0), .sc (.int .u8 0), .sc (.int .u8 0), .sc (.int .u8 0), .sc (.int .u8 0), .sc (.int .u8 0), .sc (.int .u8 0), .sc (.int .u8 0), .sc (.int .u8 0), .sc (.int .u8 0), .sc (.int .u8 0), .sc (.int .u8 0), .sc (.int .u8 0), .sc (.int .u8 0), .sc (.int .u8 0), .sc (.int .u8 0), .sc (.int .u8 0), .sc (.int .u8 0), .sc (.int .u8 0), .sc (.int .u8 0), .sc (.int .u8 0), .sc (.int .u8 0), .sc (.int .u8 0), .sc (.int .u8 0), .sc (.int .u8 0)], .sc (.int .i64 0), .ro 99 true true [], .st 45 [.sc (.int .i64 0), .sc (.int .i64 0)]], .sc (.int .i64 (dCk (DV.mk (Jw 8 (RT.mk b 0 0)) (Jw 8 (Ja 8 (RT.mk b 0 0))) (Jw 8 (Ja 8 (Ja 8 (RT.mk b 0 0)))) (Jw 8 (Ja 8 (Ja 8 (Ja 8 (RT.mk b 0 0))))) (pu IntKind.u8 (hashVT (Ja 8 (Ja 8 (Ja 8 (Ja 8 (RT.mk b 0 0))))))) (Jw 1 (hashT (Ja 8 (Ja 8 (Ja 8 (Ja 8 (RT.mk b 0 0))))))) [] (Jw 8 (J3 (Ja 1 (hashT (Ja 8 (Ja 8 (Ja 8 (Ja 8 (RT.mk b 0 0))))))))) (Jw 8 (Ja 8 (J3 (Ja 1 (hashT (Ja 8 (Ja 8 (Ja 8 (Ja 8 (RT.mk b 0 0)))))))))))))]) [] []) else k (Res.mk (.tup [.st 73 [.st 45 [.sc (.int .i64 (Jw 8 (RT.mk b 0 0))), .sc (.int .i64 (Jw 8 (Ja 8 (RT.mk b 0 0))))], .sc (.int .i64 (Jw 8 (Ja 8 (Ja 8 (RT.mk b 0 0))))), .sc (.int .i64 (Jw 8 (Ja 8 (Ja 8 (Ja 8 (RT.mk b 0 0)))))), .ar 37 (pu IntKind.u8 (hashVT (Ja 8 (Ja 8 (Ja 8 (Ja 8 (RT.mk b 0 0))))))), .sc (.int .i64 (Jw 1 (hashT (Ja 8 (Ja 8 (Ja 8 (Ja 8 (RT.mk b 0 0)))))))), .ro 99 true true [], .st 45 [.sc (.int .i64 (Jw 8 (J3 (Ja 1 (hashT (Ja 8 (Ja 8 (Ja 8 (Ja 8 (RT.mk b 0 0)))))))))), .sc (.int .i64 (Jw 8 (Ja 8 (J3 (Ja 1 (hashT (Ja 8 (Ja 8 (Ja 8 (Ja 8 (RT.mk b 0 0)))))))))))]], .sc (.int .i64 0)]) [] []) else none else bif (Ja 8 (Ja 8 (J3 (Ja 1 (hashT (Ja 8 (Ja 8 (Ja 8 (Ja 8 (RT.mk b 0 0)))))))))).e != 0 then k (Res.mk (.tup [.st 73 [.st 45 [.sc (.int .i64 0), .sc (.int .i64 0)], .sc (.int .i64 0), .sc (.int .i64 0), .ar 37 [.sc (.int .u8 0), .sc (.int .u8 0), .sc (.int .u8 0), .sc (.int .u8 0), .sc (.int .u8 0), .sc (.int .u8 0), .sc (.int .u8 0), .sc (.int .u8 0), .sc (.int .u8 0), .sc (.int .u8 0), .sc (.int .u8 0), .sc (.int .u8 0), .sc (.int .u8 0), .sc (.int .u8 0), .sc (.int .u8 0), .sc (.int .u8 0), .sc (.int .u8 0), .sc (.int .u8 0), .sc (.int .u8 0), .sc (.int .u8 0), .sc (.int .u8 0), .sc (.int .u8 0), .sc (.int .u8 0), .sc (.int .u8 0), .sc (.int .u8 0), .sc (.int .u8 0), .sc (.int .u8 0), .sc (.int .u8 0), .sc (.int .u8 0), .sc (.int .u8 0), .sc (.int .u8 0), .sc (.int .u8 0)], .sc (.int .i64 0), .ro 99 true true [], .st 45 [.sc (.int .i64 0), .sc (.int .i64 0)]], .sc (.int .i64 (Ja 8 (Ja 8 (J3 (Ja 1 (hashT (Ja 8 (Ja 8 (Ja 8 (Ja 8 (RT.mk b 0 0)))))))))).e)]) [] []) else k (Res.mk (.tup [.st 73 [.st 45 [.sc (.int .i64 (Jw 8 (RT.mk b 0 0))), .sc (.int .i64 (Jw 8 (Ja 8 (RT.mk b 0 0))))], .sc (.int .i64 (Jw 8 (Ja 8 (Ja 8 (RT.mk b 0 0))))), .sc (.int .i64 (Jw 8 (Ja 8 (Ja 8 (Ja 8 (RT.mk b 0 0)))))), .ar 37 (pu IntKind.u8 (hashVT (Ja 8 (Ja 8 (Ja 8 (Ja 8 (RT.mk b 0 0))))))), .sc (.int .i64 (Jw 1 (hashT (Ja 8 (Ja 8 (Ja 8 (Ja 8 (RT.mk b 0 0)))))))), .ro 99 true true [], .st 45 [.sc (.int .i64 (Jw 8 (J3 (Ja 1 (hashT (Ja 8 (Ja 8 (Ja 8 (Ja 8 (RT.mk b 0 0)))))))))), .sc (.int .i64 (Jw 8 (Ja 8 (J3 (Ja 1 (hashT (Ja 8 (Ja 8 (Ja 8 (Ja 8 (RT.mk b 0 0)))))))))))]], .sc (.int .i64 0)]) [] []) else none else none else none else none else none else none else none else none else none
theorem e52 (f : Nat) (b_z : Bool) (b_f : Bool) (b : List PV) (k : Res → Option Res) : JM tau F52 Try.f52 (Try.f52.body.get!) JoQ [.ro, .ro] 0 [.ro 5 b_z b_f b] [] k = g52 f b_z b_f b k := by kernel_rfl
theorem JBb (f : Nat) : Jg (Try.f52.body.get!) JoQ = [] := by kernel_rfl
theorem JBc (f : Nat) : ∀ q ∈ Jg (Try.f52.body.get!) JoQ, q.Ok tau Try.prog 0 := by
  rw [JBb f]; intro q hq; cases hq
theorem Jyp : Try.prog.funcs[52]? = some Try.f52 := by kernel_rfl
theorem Jyq : Try.f52.body = some (Try.f52.body.get!) := by kernel_rfl
theorem Jyr : Enters Try.prog 52 := enters_of Jyp (by kernel_rfl) Jyq
noncomputable def Jl6 : List PV → List Ent → (Res → Option Res) → Option Res
  | [.ro 5 b_z b_f b], [], k => g52 0 b_z b_f b k
  | _, _, _ => none
noncomputable def s52 : Sig := { own := [], run := Jl6 }
theorem JBd : Ji tau Try.prog 52 s52 := JS Jr Jti Js Jyp Jyq JoQ [.ro, .ro] 0 [] Jl6 (JBc 0) fun xs es k res hr => by
  unfold Jl6 at hr
  split at hr
  · exact ⟨rfl, 0, (e52 0 _ _ _  _).trans hr⟩
  · cases hr
-- FN delta.Parse | ref8.Parse
theorem Jhv (t : ByteArray) : byB (Jl t) = true := by
  unfold byB Jl
  refine List.all_eq_true.2 fun p hp => ?_
  obtain ⟨x, hx, rfl⟩ := List.mem_map.1 hp
  have := x.toNat_lt
  rw [Bool.and_eq_true, Bool.and_eq_true]
  refine ⟨rfl, decide_eq_true ?_, decide_eq_true ?_⟩
  · exact Int.natCast_nonneg _
  · exact Int.ofNat_lt.2 this
noncomputable def d4 (b : List PV) : RS := Jb 8 (Jb 8 (Jb 8 (Jb 8 ⟨b, 0⟩)))
noncomputable def d5 (b : List PV) : RS := hashS (d4 b)
noncomputable def d7 (b : List PV) : RS := J9 (Jb 1 (d5 b))
noncomputable def d9 (b : List PV) : RS := Jb 8 (Jb 8 (d7 b))
noncomputable def dt (b : List PV) : List PV := Jl (JQ (Jb 1 (d5 b)))
noncomputable def dv (b : List PV) : DV := ⟨Jt 8 ⟨b, 0⟩, Jt 8 (Jb 8 ⟨b, 0⟩), Jt 8 (Jb 8 (Jb 8 ⟨b, 0⟩)), Jt 8 (Jb 8 (Jb 8 (Jb 8 ⟨b, 0⟩))), pu .u8 (hashV (d4 b)), Jt 1 (d5 b), opL (dt b), Jt 8 (d7 b), Jt 8 (Jb 8 (d7 b))⟩
noncomputable def dE0 (b : List PV) : Int := bif (d9 b).e == 0 then (bif decide ((d9 b).b.length > 0) then 9 else bif opE (dt b) == 0 then dCk (dv b) else opE (dt b)) else (d9 b).e
noncomputable def dE : List PV → Int := hid dE0
noncomputable def dN (b : List PV) : Nat → Int
  | 0 => (dv b).ad
  | 1 => (dv b).au
  | 2 => (dv b).id
  | 3 => (dv b).ve
  | 4 => (dv b).kd
  | 5 => (dv b).wd
  | _ => (dv b).wu
noncomputable def dF : Nat → List PV → Int := hid fun i b => bif dE0 b == 0 then dN b i else 0
noncomputable def dH : List PV → List Int := hid fun b => bif dE0 b == 0 then hashV (d4 b) else List.replicate 32 0
noncomputable def dO : List PV → List PV := hid fun b => bif dE0 b == 0 then opL (dt b) else []
noncomputable def dOF : List PV → Bool := hid fun b => !(dE0 b == 0)
theorem Jah (b : List PV) : dE b = dE0 b := by rw [dE, hid_eq]
theorem JcZ (i : Nat) (b : List PV) : dF i b = bif dE0 b == 0 then dN b i else 0 := by rw [dF, hid_eq]
theorem Jc0 (b : List PV) : dH b = bif dE0 b == 0 then hashV (d4 b) else List.replicate 32 0 := by rw [dH, hid_eq]
theorem Jc1 (b : List PV) : dO b = bif dE0 b == 0 then opL (dt b) else [] := by rw [dO, hid_eq]
theorem Jhw (b : List PV) : dOF b = !(dE0 b == 0) := by rw [dOF, hid_eq]
def Jai (e : Int) : PV := .tup [.st 73 [.st 45 [.sc (.int .i64 0), .sc (.int .i64 0)], .sc (.int .i64 0), .sc (.int .i64 0), .ar 37 (pu .u8 (List.replicate 32 0)), .sc (.int .i64 0), .ro 99 true true [], .st 45 [.sc (.int .i64 0), .sc (.int .i64 0)]], .sc (.int .i64 e)]
noncomputable def dP (b : List PV) : PV := .tup [.st 73 [.st 45 [.sc (.int .i64 (dF 0 b)), .sc (.int .i64 (dF 1 b))], .sc (.int .i64 (dF 2 b)), .sc (.int .i64 (dF 3 b)), .ar 37 (pu .u8 (dH b)), .sc (.int .i64 (dF 4 b)), .ro 99 (dO b).isEmpty (dO b).isEmpty (dO b), .st 45 [.sc (.int .i64 (dF 5 b)), .sc (.int .i64 (dF 6 b))]], .sc (.int .i64 (dE b))]
noncomputable def dQ (b : List PV) : PV := .tup [.st 73 [.st 45 [.sc (.int .i64 (dF 0 b)), .sc (.int .i64 (dF 1 b))], .sc (.int .i64 (dF 2 b)), .sc (.int .i64 (dF 3 b)), .ar 37 (pu .u8 (dH b)), .sc (.int .i64 (dF 4 b)), .ro 99 (dO b).isEmpty (dOF b) (dO b), .st 45 [.sc (.int .i64 (dF 5 b)), .sc (.int .i64 (dF 6 b))]], .sc (.int .i64 (dE b))]
theorem Jef {b : List PV} {e : Int} (h : dE0 b = e) (h0 : (e == 0) = false) : dP b = Jai e := by
  simp only [dP, Jai, JcZ, Jc0, Jc1, Jah, h, h0, cond_false, List.isEmpty_nil]
theorem Jeg {b : List PV} {e : Int} (h : dE0 b = e) (h0 : (e == 0) = false) : dQ b = Jai e := by
  simp only [dQ, Jai, JcZ, Jc0, Jc1, Jah, Jhw, h, h0, cond_false, List.isEmpty_nil, Bool.not_false]
theorem Jys {b : List PV} (h : dE0 b = 0) : dP b = .tup [.st 73 [.st 45 [.sc (.int .i64 (Jt 8 ⟨b, 0⟩)), .sc (.int .i64 (Jt 8 (Jb 8 ⟨b, 0⟩)))], .sc (.int .i64 (Jt 8 (Jb 8 (Jb 8 ⟨b, 0⟩)))), .sc (.int .i64 (Jt 8 (Jb 8 (Jb 8 (Jb 8 ⟨b, 0⟩))))), .ar 37 (pu .u8 (hashV (d4 b))), .sc (.int .i64 (Jt 1 (d5 b))), .ro 99 (opL (dt b)).isEmpty (opL (dt b)).isEmpty (opL (dt b)), .st 45 [.sc (.int .i64 (Jt 8 (d7 b))), .sc (.int .i64 (Jt 8 (Jb 8 (d7 b))))]], .sc (.int .i64 0)] := by
  simp only [dP, JcZ, Jc0, Jc1, Jah, h, beq_self_eq_true, cond_true, dN, dv]
theorem Jyt {b : List PV} (h : dE0 b = 0) : dQ b = .tup [.st 73 [.st 45 [.sc (.int .i64 (Jt 8 ⟨b, 0⟩)), .sc (.int .i64 (Jt 8 (Jb 8 ⟨b, 0⟩)))], .sc (.int .i64 (Jt 8 (Jb 8 (Jb 8 ⟨b, 0⟩)))), .sc (.int .i64 (Jt 8 (Jb 8 (Jb 8 (Jb 8 ⟨b, 0⟩))))), .ar 37 (pu .u8 (hashV (d4 b))), .sc (.int .i64 (Jt 1 (d5 b))), .ro 99 (opL (dt b)).isEmpty false (opL (dt b)), .st 45 [.sc (.int .i64 (Jt 8 (d7 b))), .sc (.int .i64 (Jt 8 (Jb 8 (d7 b))))]], .sc (.int .i64 0)] := by
  simp only [dQ, JcZ, Jc0, Jc1, Jah, Jhw, h, beq_self_eq_true, cond_true, Bool.not_true, dN, dv]
theorem Jeh {b : List PV} (h : byB b = true) : cOk (opL b) = true := by
  rw [GM]
  cases Xz b == 0 with
  | true => exact Jea (Jhn h) _
  | false => exact Yu.2 ⟨rfl, Nat.zero_le _⟩
theorem Jl7 (f : Nat) (k0 : Int → Int → Int → Int → List PV → Int → List PV → Int → Int → Bool → Bool → List PV → Int → Int → Int → Int → Int → List PV → Int → List PV → Int → Int → Option Res) (z fl : Bool) (hz : (!z || fl) = true) (x1 x2 x3 x4 : Int) (x5 : List PV) (x6 : Int) (x7 : List PV) (x8 x9 y14 y15 y16 y17 y19 : Int) (y20 : List PV) (y21 y22 : Int) : ∀ (d i n : Nat) (s : RS) (L : List Int), i + d = 32 → d < n → byB s.b = true → L.length = 32 →
    Yx f k0 n (i : Int) x1 x2 x3 x4 x5 x6 x7 x8 x9 z fl s.b s.e y14 y15 y16 y17 (pu .u8 L) y19 y20 y21 y22 = k0 x1 x2 x3 x4 x5 x6 x7 x8 x9 z fl (GC d s).b (GC d s).e y14 y15 y16 y17 (pu .u8 (L.take i ++ ZO d s)) y19 y20 y21 y22
  | 0, i, n + 1, s, L, h, hn, hb, hL => by
      obtain rfl : i = 32 := by omega
      simp only [Yx, Zw, GC, ZO, List.append_nil]
      rw [List.take_of_length_le (by omega)]
      exact JK (by decide)
  | d + 1, i, n + 1, s, L, h, hn, hb, hL => by
      have g1 : ((i : Int)).toNat = i := by omega
      have w1 : IntKind.i64.wrap ((i : Int) + 1) = ((i + 1 : Nat) : Int) := by rw [wrap_i64 (by omega) (by omega)]; omega
      have hm : RS.mk s.b s.e = s := rfl
      simp only [Yx, Zw, g1, w1, hm, Wm]
      refine (Jc (by simp; omega)).trans ((Jc (by rw [hb, hz]; rfl)).trans ((Jc (by simp [zi]; omega)).trans ?_))
      have := Jl7 f k0 z fl hz x1 x2 x3 x4 x5 x6 x7 x8 x9 y14 y15 y16 y17 y19 y20 y21 y22 d (i + 1) n (J1 1 s) (L.set i (IntKind.u8.wrap (Jt 1 s))) (by omega) (by omega) (XI hb 1) (by simpa using hL)
      rw [Wb]
      refine Eq.trans this ?_
      have hset : (L.set i (IntKind.u8.wrap (Jt 1 s))).take (i + 1) = L.take i ++ [IntKind.u8.wrap (Jt 1 s)] := by
        rw [List.take_add_one, List.take_set_of_le (Nat.le_refl i), List.getElem?_set_self (by omega)]; rfl
      rw [hset, WF]
      simp only [GC, ZO, List.append_assoc, List.cons_append, List.nil_append]
theorem JoR (z f : Bool) (b : List PV) (hz : slB z b = true) (hb : byB b = true) (k : Res → Option Res) :
    Jth 40 z f b k = k ⟨dP b, [], []⟩ := by
  have hE : dE0 b = dE0 b := rfl
  conv at hE => rhs; unfold dE0
  have hzz : (!z || z) = true := by cases z <;> rfl
  have c1 := Qa (s := ⟨b, 0⟩) hb 8
  have c2 := Qa c1 8
  have c3 := Qa c2 8
  have c4 : byB (d4 b).b = true := Qa c3 8
  have c5 : byB (d5 b).b = true := by unfold d5; rw [hashS_eq]; exact JdJ 32 c4
  have c6 := Qa c5 1
  have c7 : byB (d7 b).b = true := Jil c6
  have c8 := Qa c7 8
  unfold Jth
  refine (Jc hz).trans ((Jc (by rw [hb, hzz]; rfl)).trans ((Jc (by rw [c1, hzz]; rfl)).trans ((Jc (by rw [c2, hzz]; rfl)).trans ((Jc (by rw [c3, hzz]; rfl)).trans ?_))))
  refine (Jl7 40 _ z z hzz _ _ _ _ _ _ _ _ _ _ _ _ _ _ _ _ _ 32 0 40 (d4 b) (List.replicate 32 0) (by omega) (by omega) c4 (by simp)).trans ?_
  have hr : GC 32 (d4 b) = d5 b := by unfold d5; rw [hashS_eq]
  have hv : ZO 32 (d4 b) = hashV (d4 b) := by rw [hashV_eq]
  have hm : RS.mk (d5 b).b (d5 b).e = d5 b := rfl
  have h7 : J9 (Jb 1 (d5 b)) = d7 b := rfl
  have h9 : Jb 8 (Jb 8 (d7 b)) = d9 b := rfl
  have hsz := JcC c6
  have htk : List.take (JQ (Jb 1 (d5 b))).size (dt b) = dt b := List.take_of_length_le (by unfold dt; rw [Xk]; exact Nat.le_refl _)
  have hto : Jl (JQ (Jb 1 (d5 b))) = dt b := rfl
  have hbt : byB (dt b) = true := Jhv _
  have hlt : (dt b).length ≤ 65535 := by unfold dt; rw [Xk]; exact hsz
  have hsl : slB (Ent.vec false 5 false (dt b)).nil (dt b) = true := Wp.2 ⟨fun h => by simp [Ent.nil] at h, by omega⟩
  have hz9 : decide (zi (d9 b).b.length > 0) = decide ((d9 b).b.length > 0) := by apply decide_eq_decide.2; simp only [zi]; omega
  have hdv : DV.mk (Jt 8 ⟨b, 0⟩) (Jt 8 (Jb 8 ⟨b, 0⟩)) (Jt 8 (Jb 8 (Jb 8 ⟨b, 0⟩))) (Jt 8 (Jb 8 (Jb 8 (Jb 8 ⟨b, 0⟩)))) (pu .u8 (hashV (d4 b))) (Jt 1 (d5 b)) (opL (dt b)) (Jt 8 (d7 b)) (Jt 8 (Jb 8 (d7 b))) = dv b := rfl
  simp only [hr, hv, hm, h7, h9, List.take_zero, List.nil_append, List.drop_zero, htk, hto, hz9, hdv, hsl, hbt, hzz, c5, c6, c7, c8, Jeh hbt, Bool.true_and, Bool.and_true, cond_true]
  cases he : ((d9 b).e == 0) with
  | false =>
    rw [he, cond_false] at hE
    rw [Jef hE he]
    simp only [cond_false]
    exact Jc (by rw [bne, he]; rfl)
  | true =>
    rw [he, cond_true] at hE
    cases h9 : decide ((d9 b).b.length > 0) with
    | true =>
      rw [h9, cond_true] at hE
      rw [Jef hE (by decide)]
      rfl
    | false =>
      rw [h9, cond_false] at hE
      simp only [cond_true, cond_false]
      refine (Jc (by simp [Jn]; omega)).trans ?_
      cases ho : (opE (dt b) == 0) with
      | false =>
        rw [ho, cond_false] at hE
        try simp only [cond_false]
        rw [Jef hE ho]
        exact Jc (by rw [bne, ho]; rfl)
      | true =>
        rw [ho, cond_true] at hE
        try simp only [cond_true]
        cases hd : (dCk (dv b) == 0) with
        | false =>
          rw [Jef hE hd]
          exact Jc (by rw [bne, hd]; rfl)
        | true =>
          have hd' : dCk (dv b) = 0 := by simpa using hd
          rw [hd'] at hE
          rw [Jys hE]
          exact JK (by rw [bne, hd]; rfl)
noncomputable def Jei : List PV → List Ent → (Res → Option Res) → Option Res
  | [.ro 5 z f b], [], k => bif slB z b && byB b then k ⟨dP b, [], []⟩ else none
  | _, _, _ => none
noncomputable def Jq7 : Sig := { own := [], run := Jei }
theorem Jtj : Ji tau Try.prog 103 Jq7 := Ji.mk' fun xs es k res hl hr => by
  change Jei xs es k = some res at hr
  unfold Jei at hr
  split at hr
  · rename_i z f b
    obtain ⟨hc, hr⟩ := JL hr
    rw [Bool.and_eq_true] at hc
    have hg := (JoR z f b hc.1 hc.2 k).trans hr
    exact QQ Jr Jjd Js Jq3 Jq4 (Jje (Vr 40)) [.ro, .ro] 0 0 (Jyg 40) hl rfl ((JA9 40 z f b k).trans hg)
  · cases hr
theorem Jtk (z f : Bool) (b : List PV) (hb : byB b = true) (hlen : b.length ≤ 1000000000) (k : Res → Option Res) :
    g52 0 z f b k = k ⟨dQ b, [], []⟩ := by
  have hE : dE0 b = dE0 b := rfl
  conv at hE => rhs; unfold dE0
  have c0 : okT (RT.mk b 0 0) = true := by simp [okT, hb]; omega
  have hv0 : (RT.mk b 0 0).view = RS.mk b 0 := rfl
  have c1 := Qr c0 8
  have c2 := Qr c1 8
  have c3 := Qr c2 8
  have c4 := Qr c3 8
  have c5 := Jk2 c4
  have c6 := Qr c5 1
  have c7 := Je1 c6
  have c8 := Qr c7 8
  have c9 := Qr c8 8
  have b1 := Qa (s := ⟨b, 0⟩) hb 8
  have b4 : byB (d4 b).b = true := Qa (Qa (Qa b1 8) 8) 8
  have b5 : byB (d5 b).b = true := by unfold d5; rw [hashS_eq]; exact JdJ 32 b4
  have b6 := Qa b5 1
  have v4 : (Ja 8 (Ja 8 (Ja 8 (Ja 8 (RT.mk b 0 0))))).view = d4 b := by simp only [Qe, hv0, d4]
  have v5 : (hashT (Ja 8 (Ja 8 (Ja 8 (Ja 8 (RT.mk b 0 0)))))).view = d5 b := by rw [hashT_view, v4, d5]
  have v7 : (J3 (Ja 1 (hashT (Ja 8 (Ja 8 (Ja 8 (Ja 8 (RT.mk b 0 0)))))))).view = d7 b := by rw [Jcw, Qe, v5, d7]
  have v9 : (Ja 8 (Ja 8 (J3 (Ja 1 (hashT (Ja 8 (Ja 8 (Ja 8 (Ja 8 (RT.mk b 0 0)))))))))).view = d9 b := by rw [Qe, Qe, v7, d9]
  have n0 : Jw 8 (RT.mk b 0 0) = Jt 8 ⟨b, 0⟩ := by rw [Wc, hv0]
  have n1 : Jw 8 (Ja 8 (RT.mk b 0 0)) = Jt 8 (Jb 8 ⟨b, 0⟩) := by simp only [Wc, Qe, hv0]
  have n2 : Jw 8 (Ja 8 (Ja 8 (RT.mk b 0 0))) = Jt 8 (Jb 8 (Jb 8 ⟨b, 0⟩)) := by simp only [Wc, Qe, hv0]
  have n3 : Jw 8 (Ja 8 (Ja 8 (Ja 8 (RT.mk b 0 0)))) = Jt 8 (Jb 8 (Jb 8 (Jb 8 ⟨b, 0⟩))) := by simp only [Wc, Qe, hv0]
  have n4 : hashVT (Ja 8 (Ja 8 (Ja 8 (Ja 8 (RT.mk b 0 0))))) = hashV (d4 b) := by rw [hashVT_val, v4]
  have n5 : Jw 1 (hashT (Ja 8 (Ja 8 (Ja 8 (Ja 8 (RT.mk b 0 0)))))) = Jt 1 (d5 b) := by rw [Wc, v5]
  have n6 : JJ (Ja 1 (hashT (Ja 8 (Ja 8 (Ja 8 (Ja 8 (RT.mk b 0 0))))))) = JQ (Jb 1 (d5 b)) := by rw [Jcx, Qe, v5]
  have n7 : Jw 8 (J3 (Ja 1 (hashT (Ja 8 (Ja 8 (Ja 8 (Ja 8 (RT.mk b 0 0)))))))) = Jt 8 (d7 b) := by rw [Wc, v7]
  have n8 : Jw 8 (Ja 8 (J3 (Ja 1 (hashT (Ja 8 (Ja 8 (Ja 8 (Ja 8 (RT.mk b 0 0))))))))) = Jt 8 (Jb 8 (d7 b)) := by rw [Wc, Qe, v7]
  unfold g52
  refine (Jc c0).trans ((Jc c1).trans ((Jc c2).trans ((Jc c3).trans ((Jc c4).trans ((Jc c5).trans ((Jc c6).trans ((Jc c7).trans ((Jc c8).trans ?_))))))))
  simp only [n0, n1, n2, n3, n4, n5, n6, n7, n8]
  generalize Ja 8 (Ja 8 (J3 (Ja 1 (hashT (Ja 8 (Ja 8 (Ja 8 (Ja 8 (RT.mk b 0 0))))))))) = t at *
  have hte : t.e = (d9 b).e := by rw [← v9]; rfl
  have htP : decide (t.P < zi t.B.length) = decide ((d9 b).b.length > 0) := by
    rw [← v9]
    show decide _ = decide ((List.drop _ _).length > 0)
    rw [List.length_drop]
    simp only [okT, Bool.and_eq_true, decide_eq_true_eq] at c9
    apply decide_eq_decide.2
    simp only [zi]; omega
  have hsz := JcC b6
  have htk : List.take (JQ (Jb 1 (d5 b))).size (dt b) = dt b := List.take_of_length_le (by unfold dt; rw [Xk]; exact Nat.le_refl _)
  have hto : Jl (JQ (Jb 1 (d5 b))) = dt b := rfl
  have hbt : byB (dt b) = true := Jhv _
  have hlt : (dt b).length ≤ 65535 := by unfold dt; rw [Xk]; exact hsz
  have hble : (dt b).length.ble 1000000000 = true := by rw [Nat.ble_eq]; omega
  have hdv : DV.mk (Jt 8 ⟨b, 0⟩) (Jt 8 (Jb 8 ⟨b, 0⟩)) (Jt 8 (Jb 8 (Jb 8 ⟨b, 0⟩))) (Jt 8 (Jb 8 (Jb 8 (Jb 8 ⟨b, 0⟩)))) (pu .u8 (hashV (d4 b))) (Jt 1 (d5 b)) (opL (dt b)) (Jt 8 (d7 b)) (Jt 8 (Jb 8 (d7 b))) = dv b := rfl
  simp only [hte, htP, List.drop_zero, htk, hto, hdv, hbt, hble, Jeh hbt, Bool.true_and, Bool.and_true, cond_true]
  cases he : ((d9 b).e == 0) with
  | false =>
    rw [he, cond_false] at hE
    rw [Jeg hE he]
    simp only [cond_false]
    exact Jc (by rw [bne, he]; rfl)
  | true =>
    rw [he, cond_true] at hE
    cases h9 : decide ((d9 b).b.length > 0) with
    | true =>
      rw [h9, cond_true] at hE
      rw [Jeg hE (by decide)]
      rfl
    | false =>
      rw [h9, cond_false] at hE
      simp only [cond_true, cond_false]
      refine (Jc (by simp [Jn]; omega)).trans ?_
      cases ho : (opE (dt b) == 0) with
      | false =>
        rw [ho, cond_false] at hE
        try simp only [cond_false]
        rw [Jeg hE ho]
        exact Jc (by rw [bne, ho]; rfl)
      | true =>
        have hoF : opF (dt b) = false := by rw [Jhm, ← GL, ho]; rfl
        rw [ho, cond_true] at hE
        try simp only [cond_true]
        cases hd : (dCk (dv b) == 0) with
        | false =>
          rw [Jeg hE hd]
          exact Jc (by rw [bne, hd]; rfl)
        | true =>
          have hd' : dCk (dv b) = 0 := by simpa using hd
          rw [hd'] at hE
          rw [Jyt hE, hoF]
          exact JK (by rw [bne, hd]; rfl)
noncomputable def Jhx : List PV → List Ent → (Res → Option Res) → Option Res
  | [.ro 5 z f b], [], k => bif byB b && Nat.ble b.length 1000000000 then k ⟨dQ b, [], []⟩ else none
  | _, _, _ => none
noncomputable def Jtl : Sig := { own := [], run := Jhx }
theorem Jq8 : Ji tau Try.prog 52 Jtl := JBd.of fun xs es k res hr => by
  change Jhx xs es k = some res at hr
  unfold Jhx at hr
  split at hr
  · rename_i z f b
    obtain ⟨hc, hr⟩ := JL hr
    rw [Bool.and_eq_true, Nat.ble_eq] at hc
    exact (Jtk z f b hc.1 hc.2 k).trans hr
  · cases hr
noncomputable def F49 : Fns := JD 103 Jq7 (JD 102 Ji2 (JD 80 JnK (F0)))
theorem Jtm : Jz tau Try.prog F49 := (((JG).add Jlg Jsh).add Jhk JlR).add Jtj Jyh
def JoS : An := (.seq .leaf (.seq .leaf (.seq (.seq .leaf (.cond (.seq .leaf .leaf) .leaf)) (.seq (.seq .leaf (.seq .leaf (.cond (.seq .leaf .leaf) .leaf))) (.seq .leaf .leaf)))))
noncomputable def g49 (f : Nat) (k0_z : Bool) (k0_f : Bool) (k0 : List PV) (k1_z : Bool) (k1_f : Bool) (k1 : List PV) (k2_z : Bool) (k2_f : Bool) (k2 : List PV) (s_Body_z : Bool) (s_Body_f : Bool) (s_Body : List PV) (s_Mac : List PV) (k : Res → Option Res) : Option Res := bif slB s_Body_z s_Body && byB s_Body then bif dE s_Body != 0 then k (Res.mk (.tup [.st 73 [.st 45 [.sc (.int .i64 0), .sc (.int .i64 0)], .sc (.int .i64 0), .sc (.int .i64 0), .ar 37 [.sc (.int .u8 0), .sc (.int .u8 0), .sc (.int .u8 0), .sc (.int .u8 0), .sc (.int .u8 0), .sc (.int .u8 0), .sc (.int .u8 0), .sc (.int .u8 0), .sc (.int .u8 0), .sc (.int .u8 0), .sc (.int .u8 0), .sc (.int .u8 0), .sc (.int .u8 0), .sc (.int .u8 0), .sc (.int .u8 0), .sc (.int .u8 0), .sc (.int .u8 0), .sc (.int .u8 0), .sc (.int .u8 0), .sc (.int .u8 0), .sc (.int .u8 0), .sc (.int .u8 0), .sc (.int .u8 0), .sc (.int .u8 0), .sc (.int .u8 0), .sc (.int .u8 0), .sc (.int .u8 0), .sc (.int .u8 0), .sc (.int .u8 0), .sc (.int .u8 0), .sc (.int .u8 0), .sc (.int .u8 0)], .sc (.int .i64 0), .ro 99 true true [], .st 45 [.sc (.int .i64 0), .sc (.int .i64 0)]], .sc (.int .i64 (dE s_Body))]) [] []) else bif !kIn (dF 0 s_Body) then k (Res.mk (.tup [.st 73 [.st 45 [.sc (.int .i64 0), .sc (.int .i64 0)], .sc (.int .i64 0), .sc (.int .i64 0), .ar 37 [.sc (.int .u8 0), .sc (.int .u8 0), .sc (.int .u8 0), .sc (.int .u8 0), .sc (.int .u8 0), .sc (.int .u8 0), .sc (.int .u8 0), .sc (.int .u8 0), .sc (.int .u8 0), .sc (.int .u8 0), .sc (.int .u8 0), .sc (.int .u8 0), .sc (.int .u8 0), .sc (.int .u8 0), .sc (.int .u8 0), .sc (.int .u8 0), .sc (.int .u8 0), .sc (.int .u8 0), .sc (.int .u8 0), .sc (.int .u8 0), .sc (.int .u8 0), .sc (.int .u8 0), .sc (.int .u8 0), .sc (.int .u8 0), .sc (.int .u8 0), .sc (.int .u8 0), .sc (.int .u8 0), .sc (.int .u8 0), .sc (.int .u8 0), .sc (.int .u8 0), .sc (.int .u8 0), .sc (.int .u8 0)], .sc (.int .i64 0), .ro 99 true true [], .st 45 [.sc (.int .i64 0), .sc (.int .i64 0)]], .sc (.int .i64 14)]) [] []) else bif Jh IntKind.u8 (QG (K3.mk [.ro 5 k0_z k0_f k0, .ro 5 k1_z k1_f k1, .ro 5 k2_z k2_f k2] (dF 0 s_Body))) && decide ((QG (K3.mk [.ro 5 k0_z k0_f k0, .ro 5 k1_z k1_f k1, .ro 5 k2_z k2_f k2] (dF 0 s_Body))).length ≤ 1000000000) && (Jh IntKind.u8 (Jm [.ro 5 s_Body_z s_Body_f s_Body]) && decide ((Jm [.ro 5 s_Body_z s_Body_f s_Body]).length ≤ 1000000000)) && true then bif decide ((pu IntKind.u8 (JU (Jd (QG (K3.mk [.ro 5 k0_z k0_f k0, .ro 5 k1_z k1_f k1, .ro 5 k2_z k2_f k2] (dF 0 s_Body)))) (Jd (Jm [.ro 5 s_Body_z s_Body_f s_Body])))).length = 32) && decide (s_Mac.length = 32) && Jh IntKind.u8 (pu IntKind.u8 (JU (Jd (QG (K3.mk [.ro 5 k0_z k0_f k0, .ro 5 k1_z k1_f k1, .ro 5 k2_z k2_f k2] (dF 0 s_Body)))) (Jd (Jm [.ro 5 s_Body_z s_Body_f s_Body])))) && Jh IntKind.u8 s_Mac && true then bif !Qp (pu IntKind.u8 (JU (Jd (QG (K3.mk [.ro 5 k0_z k0_f k0, .ro 5 k1_z k1_f k1, .ro 5 k2_z k2_f k2] (dF 0 s_Body)))) (Jd (Jm [.ro 5 s_Body_z s_Body_f s_Body])))) s_Mac then k (Res.mk (.tup [.st 73 [.st 45 [.sc (.int .i64 0), .sc (.int .i64 0)], .sc (.int .i64 0), .sc (.int .i64 0), .ar 37 [.sc (.int .u8 0), .sc (.int .u8 0), .sc (.int .u8 0), .sc (.int .u8 0), .sc (.int .u8 0), .sc (.int .u8 0), .sc (.int .u8 0), .sc (.int .u8 0), .sc (.int .u8 0), .sc (.int .u8 0), .sc (.int .u8 0), .sc (.int .u8 0), .sc (.int .u8 0), .sc (.int .u8 0), .sc (.int .u8 0), .sc (.int .u8 0), .sc (.int .u8 0), .sc (.int .u8 0), .sc (.int .u8 0), .sc (.int .u8 0), .sc (.int .u8 0), .sc (.int .u8 0), .sc (.int .u8 0), .sc (.int .u8 0), .sc (.int .u8 0), .sc (.int .u8 0), .sc (.int .u8 0), .sc (.int .u8 0), .sc (.int .u8 0), .sc (.int .u8 0), .sc (.int .u8 0), .sc (.int .u8 0)], .sc (.int .i64 0), .ro 99 true true [], .st 45 [.sc (.int .i64 0), .sc (.int .i64 0)]], .sc (.int .i64 14)]) [] []) else k (Res.mk (.tup [.st 73 [.st 45 [.sc (.int .i64 (dF 0 s_Body)), .sc (.int .i64 (dF 1 s_Body))], .sc (.int .i64 (dF 2 s_Body)), .sc (.int .i64 (dF 3 s_Body)), .ar 37 (pu IntKind.u8 (dH s_Body)), .sc (.int .i64 (dF 4 s_Body)), .ro 99 (dO s_Body).isEmpty (dO s_Body).isEmpty (dO s_Body), .st 45 [.sc (.int .i64 (dF 5 s_Body)), .sc (.int .i64 (dF 6 s_Body))]], .sc (.int .i64 0)]) [] []) else none else none else none
theorem e49 (f : Nat) (k0_z : Bool) (k0_f : Bool) (k0 : List PV) (k1_z : Bool) (k1_f : Bool) (k1 : List PV) (k2_z : Bool) (k2_f : Bool) (k2 : List PV) (s_Body_z : Bool) (s_Body_f : Bool) (s_Body : List PV) (s_Mac : List PV) (k : Res → Option Res) : JM tau F49 Try.f49 (Try.f49.body.get!) JoS [.ro, .ro] 0 [.st 31 [.ro 5 k0_z k0_f k0, .ro 5 k1_z k1_f k1, .ro 5 k2_z k2_f k2], .st 77 [.ro 5 s_Body_z s_Body_f s_Body, .ar 37 s_Mac]] [] k = g49 f k0_z k0_f k0 k1_z k1_f k1 k2_z k2_f k2 s_Body_z s_Body_f s_Body s_Mac k := by kernel_rfl
theorem JBe (f : Nat) : Jg (Try.f49.body.get!) JoS = [] := by kernel_rfl
theorem JBf (f : Nat) : ∀ q ∈ Jg (Try.f49.body.get!) JoS, q.Ok tau Try.prog 0 := by
  rw [JBe f]; intro q hq; cases hq
theorem Jyu : Try.prog.funcs[49]? = some Try.f49 := by kernel_rfl
theorem Jyv : Try.f49.body = some (Try.f49.body.get!) := by kernel_rfl
theorem Jyw : Enters Try.prog 49 := enters_of Jyu (by kernel_rfl) Jyv
noncomputable def Jl8 : List PV → List Ent → (Res → Option Res) → Option Res
  | [.st 31 [.ro 5 k0_z k0_f k0, .ro 5 k1_z k1_f k1, .ro 5 k2_z k2_f k2], .st 77 [.ro 5 s_Body_z s_Body_f s_Body, .ar 37 s_Mac]], [], k => g49 0 k0_z k0_f k0 k1_z k1_f k1 k2_z k2_f k2 s_Body_z s_Body_f s_Body s_Mac k
  | _, _, _ => none
noncomputable def s49 : Sig := { own := [], run := Jl8 }
theorem JBg : Ji tau Try.prog 49 s49 := JS Jr Jtm Js Jyu Jyv JoS [.ro, .ro] 0 [] Jl8 (JBf 0) fun xs es k res hr => by
  unfold Jl8 at hr
  split at hr
  · exact ⟨rfl, 0, (e49 0 _ _ _ _ _ _ _ _ _ _ _ _ _  _).trans hr⟩
  · cases hr


noncomputable def F60 : Fns := JD 102 Ji2 (JD 80 JnK (JD 58 Jxl (F0)))
theorem Jtn : Jz tau Try.prog F60 := (((JG).add Jxm JAE).add Jlg Jsh).add Jhk JlR
def JoT : An := (.seq .leaf (.seq .leaf (.seq .leaf .leaf)))
noncomputable def g60 (f : Nat) (k0_z : Bool) (k0_f : Bool) (k0 : List PV) (k1_z : Bool) (k1_f : Bool) (k1 : List PV) (k2_z : Bool) (k2_f : Bool) (k2 : List PV) (host : Int) (e_S_Body_z : Bool) (e_S_Body_f : Bool) (e_S_Body : List PV) (e_S_Mac : List PV) (e_At : Int) (e_Op_z : Bool) (e_Op_f : Bool) (e_Op : List PV) (e_Hash : List PV) (e_Mac : List PV) (k : Res → Option Res) : Option Res := bif kIn host then bif eOk (EV.mk e_S_Body e_S_Mac e_At e_Op) then bif Jh IntKind.u8 (QG (K3.mk [.ro 5 k0_z k0_f k0, .ro 5 k1_z k1_f k1, .ro 5 k2_z k2_f k2] host)) && decide ((QG (K3.mk [.ro 5 k0_z k0_f k0, .ro 5 k1_z k1_f k1, .ro 5 k2_z k2_f k2] host)).length ≤ 1000000000) && (Jh IntKind.u8 (Jm [.ro 5 false false (pu IntKind.u8 (Wz (EV.mk e_S_Body e_S_Mac e_At e_Op))), .ro 5 false false (List.take 32 e_Hash)]) && decide ((Jm [.ro 5 false false (pu IntKind.u8 (Wz (EV.mk e_S_Body e_S_Mac e_At e_Op))), .ro 5 false false (List.take 32 e_Hash)]).length ≤ 1000000000)) && true then bif decide ((pu IntKind.u8 (JU (Jd (QG (K3.mk [.ro 5 k0_z k0_f k0, .ro 5 k1_z k1_f k1, .ro 5 k2_z k2_f k2] host))) (Jd (Jm [.ro 5 false false (pu IntKind.u8 (Wz (EV.mk e_S_Body e_S_Mac e_At e_Op))), .ro 5 false false (List.take 32 e_Hash)])))).length = 32) && decide (e_Mac.length = 32) && Jh IntKind.u8 (pu IntKind.u8 (JU (Jd (QG (K3.mk [.ro 5 k0_z k0_f k0, .ro 5 k1_z k1_f k1, .ro 5 k2_z k2_f k2] host))) (Jd (Jm [.ro 5 false false (pu IntKind.u8 (Wz (EV.mk e_S_Body e_S_Mac e_At e_Op))), .ro 5 false false (List.take 32 e_Hash)])))) && Jh IntKind.u8 e_Mac && true then k (Res.mk (.sc (.bool (Qp (pu IntKind.u8 (JU (Jd (QG (K3.mk [.ro 5 k0_z k0_f k0, .ro 5 k1_z k1_f k1, .ro 5 k2_z k2_f k2] host))) (Jd (Jm [.ro 5 false false (pu IntKind.u8 (Wz (EV.mk e_S_Body e_S_Mac e_At e_Op))), .ro 5 false false (List.take 32 e_Hash)])))) e_Mac))) [] []) else none else none else none else k (Res.mk (.sc (.bool false)) [] [])
theorem e60 (f : Nat) (k0_z : Bool) (k0_f : Bool) (k0 : List PV) (k1_z : Bool) (k1_f : Bool) (k1 : List PV) (k2_z : Bool) (k2_f : Bool) (k2 : List PV) (host : Int) (e_S_Body_z : Bool) (e_S_Body_f : Bool) (e_S_Body : List PV) (e_S_Mac : List PV) (e_At : Int) (e_Op_z : Bool) (e_Op_f : Bool) (e_Op : List PV) (e_Hash : List PV) (e_Mac : List PV) (k : Res → Option Res) : JM tau F60 Try.f60 (Try.f60.body.get!) JoT [.ro] 0 [.st 31 [.ro 5 k0_z k0_f k0, .ro 5 k1_z k1_f k1, .ro 5 k2_z k2_f k2], .sc (.int .i64 host), .st 93 [.st 77 [.ro 5 e_S_Body_z e_S_Body_f e_S_Body, .ar 37 e_S_Mac], .sc (.int .i64 e_At), .ro 99 e_Op_z e_Op_f e_Op, .ar 37 e_Hash, .ar 37 e_Mac]] [] k = g60 f k0_z k0_f k0 k1_z k1_f k1 k2_z k2_f k2 host e_S_Body_z e_S_Body_f e_S_Body e_S_Mac e_At e_Op_z e_Op_f e_Op e_Hash e_Mac k := by kernel_rfl
theorem JBh (f : Nat) : Jg (Try.f60.body.get!) JoT = [] := by kernel_rfl
theorem JBi (f : Nat) : ∀ q ∈ Jg (Try.f60.body.get!) JoT, q.Ok tau Try.prog 0 := by
  rw [JBh f]; intro q hq; cases hq
theorem Jyx : Try.prog.funcs[60]? = some Try.f60 := by kernel_rfl
theorem Jyy : Try.f60.body = some (Try.f60.body.get!) := by kernel_rfl
theorem JBj : Enters Try.prog 60 := enters_of Jyx (by kernel_rfl) Jyy
noncomputable def Jl9 : List PV → List Ent → (Res → Option Res) → Option Res
  | [.st 31 [.ro 5 k0_z k0_f k0, .ro 5 k1_z k1_f k1, .ro 5 k2_z k2_f k2], .sc (.int .i64 host), .st 93 [.st 77 [.ro 5 e_S_Body_z e_S_Body_f e_S_Body, .ar 37 e_S_Mac], .sc (.int .i64 e_At), .ro 99 e_Op_z e_Op_f e_Op, .ar 37 e_Hash, .ar 37 e_Mac]], [], k => g60 0 k0_z k0_f k0 k1_z k1_f k1 k2_z k2_f k2 host e_S_Body_z e_S_Body_f e_S_Body e_S_Mac e_At e_Op_z e_Op_f e_Op e_Hash e_Mac k
  | _, _, _ => none
noncomputable def s60 : Sig := { own := [], run := Jl9 }
theorem JBk : Ji tau Try.prog 60 s60 := JS Jr Jtn Js Jyx Jyy JoT [.ro] 0 [] Jl9 (JBi 0) fun xs es k res hr => by
  unfold Jl9 at hr
  split at hr
  · exact ⟨rfl, 0, (e60 0 _ _ _ _ _ _ _ _ _ _ _ _ _ _ _ _ _ _ _ _  _).trans hr⟩
  · cases hr

noncomputable def F51 : Fns := JD 52 Jtl (JD 36 JsD (F0))
theorem Jto : Jz tau Try.prog F51 := ((JG).add Jql JwF).add Jq8 Jyr
def JoU : An := (.seq .leaf (.seq .leaf (.seq (.seq .leaf (.cond (.seq .leaf .leaf) .leaf)) (.seq (.seq .leaf (.cond (.seq .leaf .leaf) .leaf)) (.seq .leaf .leaf)))))
noncomputable def g51 (f : Nat) (k0_z : Bool) (k0_f : Bool) (k0 : List PV) (k1_z : Bool) (k1_f : Bool) (k1 : List PV) (k2_z : Bool) (k2_f : Bool) (k2 : List PV) (s_Body_z : Bool) (s_Body_f : Bool) (s_Body : List PV) (s_Mac : List PV) (k : Res → Option Res) : Option Res := bif byB s_Body && s_Body.length.ble 1000000000 then bif dE s_Body != 0 then k (Res.mk (.tup [.st 73 [.st 45 [.sc (.int .i64 0), .sc (.int .i64 0)], .sc (.int .i64 0), .sc (.int .i64 0), .ar 37 [.sc (.int .u8 0), .sc (.int .u8 0), .sc (.int .u8 0), .sc (.int .u8 0), .sc (.int .u8 0), .sc (.int .u8 0), .sc (.int .u8 0), .sc (.int .u8 0), .sc (.int .u8 0), .sc (.int .u8 0), .sc (.int .u8 0), .sc (.int .u8 0), .sc (.int .u8 0), .sc (.int .u8 0), .sc (.int .u8 0), .sc (.int .u8 0), .sc (.int .u8 0), .sc (.int .u8 0), .sc (.int .u8 0), .sc (.int .u8 0), .sc (.int .u8 0), .sc (.int .u8 0), .sc (.int .u8 0), .sc (.int .u8 0), .sc (.int .u8 0), .sc (.int .u8 0), .sc (.int .u8 0), .sc (.int .u8 0), .sc (.int .u8 0), .sc (.int .u8 0), .sc (.int .u8 0), .sc (.int .u8 0)], .sc (.int .i64 0), .ro 99 true true [], .st 45 [.sc (.int .i64 0), .sc (.int .i64 0)]], .sc (.int .i64 (dE s_Body))]) [] []) else bif decide (0 ≤ dF 0 s_Body) && decide (dF 0 s_Body < zi 3) && true then bif PV.isRo 5 (Jj (PV.st 31 [.ro 5 k0_z k0_f k0, .ro 5 k1_z k1_f k1, .ro 5 k2_z k2_f k2]) [(dF 0 s_Body).toNat]) && true then bif Jh IntKind.u8 (Jj (PV.st 31 [.ro 5 k0_z k0_f k0, .ro 5 k1_z k1_f k1, .ro 5 k2_z k2_f k2]) [(dF 0 s_Body).toNat]).els && decide ((Jj (PV.st 31 [.ro 5 k0_z k0_f k0, .ro 5 k1_z k1_f k1, .ro 5 k2_z k2_f k2]) [(dF 0 s_Body).toNat]).els.length ≤ 1000000000) && (Jh IntKind.u8 s_Body && decide (s_Body.length ≤ 1000000000)) then bif decide (s_Mac.length = 32) && decide ((pu IntKind.u8 (JU (Jd (Jj (PV.st 31 [.ro 5 k0_z k0_f k0, .ro 5 k1_z k1_f k1, .ro 5 k2_z k2_f k2]) [(dF 0 s_Body).toNat]).els) (Jd s_Body))).length = 32) && Jh IntKind.u8 s_Mac && Jh IntKind.u8 (pu IntKind.u8 (JU (Jd (Jj (PV.st 31 [.ro 5 k0_z k0_f k0, .ro 5 k1_z k1_f k1, .ro 5 k2_z k2_f k2]) [(dF 0 s_Body).toNat]).els) (Jd s_Body))) && true then bif !Qp s_Mac (pu IntKind.u8 (JU (Jd (Jj (PV.st 31 [.ro 5 k0_z k0_f k0, .ro 5 k1_z k1_f k1, .ro 5 k2_z k2_f k2]) [(dF 0 s_Body).toNat]).els) (Jd s_Body))) then k (Res.mk (.tup [.st 73 [.st 45 [.sc (.int .i64 0), .sc (.int .i64 0)], .sc (.int .i64 0), .sc (.int .i64 0), .ar 37 [.sc (.int .u8 0), .sc (.int .u8 0), .sc (.int .u8 0), .sc (.int .u8 0), .sc (.int .u8 0), .sc (.int .u8 0), .sc (.int .u8 0), .sc (.int .u8 0), .sc (.int .u8 0), .sc (.int .u8 0), .sc (.int .u8 0), .sc (.int .u8 0), .sc (.int .u8 0), .sc (.int .u8 0), .sc (.int .u8 0), .sc (.int .u8 0), .sc (.int .u8 0), .sc (.int .u8 0), .sc (.int .u8 0), .sc (.int .u8 0), .sc (.int .u8 0), .sc (.int .u8 0), .sc (.int .u8 0), .sc (.int .u8 0), .sc (.int .u8 0), .sc (.int .u8 0), .sc (.int .u8 0), .sc (.int .u8 0), .sc (.int .u8 0), .sc (.int .u8 0), .sc (.int .u8 0), .sc (.int .u8 0)], .sc (.int .i64 0), .ro 99 true true [], .st 45 [.sc (.int .i64 0), .sc (.int .i64 0)]], .sc (.int .i64 14)]) [] []) else k (Res.mk (.tup [.st 73 [.st 45 [.sc (.int .i64 (dF 0 s_Body)), .sc (.int .i64 (dF 1 s_Body))], .sc (.int .i64 (dF 2 s_Body)), .sc (.int .i64 (dF 3 s_Body)), .ar 37 (pu IntKind.u8 (dH s_Body)), .sc (.int .i64 (dF 4 s_Body)), .ro 99 (dO s_Body).isEmpty (dOF s_Body) (dO s_Body), .st 45 [.sc (.int .i64 (dF 5 s_Body)), .sc (.int .i64 (dF 6 s_Body))]], .sc (.int .i64 0)]) [] []) else none else none else none else none else none
theorem e51 (f : Nat) (k0_z : Bool) (k0_f : Bool) (k0 : List PV) (k1_z : Bool) (k1_f : Bool) (k1 : List PV) (k2_z : Bool) (k2_f : Bool) (k2 : List PV) (s_Body_z : Bool) (s_Body_f : Bool) (s_Body : List PV) (s_Mac : List PV) (k : Res → Option Res) : JM tau F51 Try.f51 (Try.f51.body.get!) JoU [.ro, .ro] 0 [.st 31 [.ro 5 k0_z k0_f k0, .ro 5 k1_z k1_f k1, .ro 5 k2_z k2_f k2], .st 77 [.ro 5 s_Body_z s_Body_f s_Body, .ar 37 s_Mac]] [] k = g51 f k0_z k0_f k0 k1_z k1_f k1 k2_z k2_f k2 s_Body_z s_Body_f s_Body s_Mac k := by kernel_rfl
theorem JBl (f : Nat) : Jg (Try.f51.body.get!) JoU = [] := by kernel_rfl
theorem JBm (f : Nat) : ∀ q ∈ Jg (Try.f51.body.get!) JoU, q.Ok tau Try.prog 0 := by
  rw [JBl f]; intro q hq; cases hq
theorem Jyz : Try.prog.funcs[51]? = some Try.f51 := by kernel_rfl
theorem JyA : Try.f51.body = some (Try.f51.body.get!) := by kernel_rfl
theorem JBn : Enters Try.prog 51 := enters_of Jyz (by kernel_rfl) JyA
noncomputable def Jma : List PV → List Ent → (Res → Option Res) → Option Res
  | [.st 31 [.ro 5 k0_z k0_f k0, .ro 5 k1_z k1_f k1, .ro 5 k2_z k2_f k2], .st 77 [.ro 5 s_Body_z s_Body_f s_Body, .ar 37 s_Mac]], [], k => g51 0 k0_z k0_f k0 k1_z k1_f k1 k2_z k2_f k2 s_Body_z s_Body_f s_Body s_Mac k
  | _, _, _ => none
noncomputable def s51 : Sig := { own := [], run := Jma }
theorem JBo : Ji tau Try.prog 51 s51 := JS Jr Jto Js Jyz JyA JoU [.ro, .ro] 0 [] Jma (JBm 0) fun xs es k res hr => by
  unfold Jma at hr
  split at hr
  · exact ⟨rfl, 0, (e51 0 _ _ _ _ _ _ _ _ _ _ _ _ _  _).trans hr⟩
  · cases hr

-- FN
theorem EntRep.free_none {τ : Tab} {im : Im} {ow : Own} {i : Nat} {e : Ent} {w : World} (he : EntRep τ im ow i e w) (hf : e.free = true) {l : Loc} {b : Nat} (hl : ow i = some l) (hb : l.blk = some b) : im b = none := by
  obtain ⟨loc, h1, h2⟩ := he
  obtain rfl : loc = l := Option.some.inj (h1.symm.trans hl)
  cases e with
  | dead => cases hf
  | box fz t v =>
    obtain ⟨k1, k2, b', cells, el, fr, pre, mid, post, q1, q2, q3, q4, q5, q6, q7, q8⟩ := h2
    have : fz = false := by cases fz with | true => cases hf | false => rfl
    obtain rfl : b = b' := Option.some.inj (hb.symm.trans q1)
    exact q8.1 this
  | vec fz t nl els =>
    obtain ⟨k1, k2, k3⟩ := h2
    have : fz = false := by cases fz with | true => cases hf | false => rfl
    rcases k3 with k3 | ⟨_, b', cells, el, fr, pre, mid, post, q1, q2, q3, q4, q5, q6, q7, q8⟩
    · rw [k3.1] at hb; cases hb
    · obtain rfl : b = b' := Option.some.inj (hb.symm.trans q1)
      exact q8.1 this
theorem Ji.dead {τ : Tab} {P : Program} {g : FuncId} {sg : Sig} (h : Ji τ P g sg) :
    Ji τ P g { own := sg.own, run := fun xs es k => sg.run xs es fun r => bif r.news.isEmpty && decide (r.pars.length ≤ 15) then k ⟨r.val, r.pars, [.dead]⟩ else none } := by
  intro xs es k res hl hrun
  obtain ⟨r, hk, H⟩ := h xs es _ res hl hrun
  obtain ⟨hn, hk'⟩ := JL hk
  rw [Bool.and_eq_true, decide_eq_true_eq] at hn
  refine ⟨⟨r.val, r.pars, [.dead]⟩, hk', fun im ow w us hx hi => (H im ow w us hx hi).mono fun e w' hp => ?_⟩
  obtain ⟨u, im', ow', h1, h2, G⟩ := hp
  have hn0 : r.news = [] := List.isEmpty_iff.1 hn.1
  rw [hn0] at G
  have e16 : JH r.pars [] 16 = none := rfl
  have d16 : JH r.pars [.dead] 16 = some .dead := rfl
  have same : ∀ i, i ≠ 16 → JH r.pars [.dead] i = JH r.pars [] i := by
    intro i hi
    unfold JH
    by_cases h16 : i < 16
    · rw [if_pos h16, if_pos h16]
    · rw [if_neg h16, if_neg h16]
      obtain ⟨m, hm⟩ : ∃ m, i - 16 = m + 1 := ⟨i - 17, by omega⟩
      rw [hm]; rfl
  have o16 : ow' 16 = none := by
    cases ho : ow' 16 with
    | none => rfl
    | some l =>
      obtain ⟨e, he⟩ := G.inv.dom 16 l ho
      rw [e16] at he; cases he
  let ow2 : Own := QM ow' 16 ⟨none, 0, .box 0, 0⟩
  have t16 : ow2 16 = some ⟨none, 0, .box 0, 0⟩ := if_pos rfl
  have tne : ∀ i, i ≠ 16 → ow2 i = ow' i := fun i hi => if_neg hi
  have how : ∀ i l, ow' i = some l → ow2 i = some l := by
    intro i l hil
    by_cases h16 : i = 16
    · subst h16; rw [o16] at hil; cases hil
    · rw [tne i h16]; exact hil
  have live : ∀ i b, Live (JH r.pars [.dead]) ow2 i b → Live (JH r.pars []) ow' i b := by
    rintro i b ⟨e, l, q1, q2, q3, q4⟩
    by_cases h16 : i = 16
    · subst h16; rw [d16] at q1; obtain rfl := Option.some.inj q1; cases q2
    · exact ⟨e, l, by rw [← same i h16]; exact q1, q2, by rw [← tne i h16]; exact q3, q4⟩
  refine ⟨u, im', ow2, h1, Jf.mono (fun _ _ h => h) how _ _ h2, ⟨G.imX, fun i l hil => how i l (G.owX i l hil), ⟨G.inv.imOk, ?_, ?_, ?_⟩, G.size, G.keep, G.newim, fun i b hb => G.newlive i b (live i b hb), G.rest⟩⟩
  · intro i e he
    by_cases h16 : i = 16
    · subst h16; rw [d16] at he; obtain rfl := Option.some.inj he; exact ⟨_, t16, trivial⟩
    · rw [same i h16] at he
      have q := G.inv.ent i e he
      exact EntRep.keep (fun _ _ h => h) how (fun _ _ _ _ _ => rfl) (fun hf l b hl hb => q.free_none hf hl hb) q
  · intro i j b hi hj
    exact G.inv.inj i j b (live i b hi) (live j b hj)
  · intro i l hil
    by_cases h16 : i = 16
    · subst h16; exact ⟨_, d16⟩
    · rw [tne i h16] at hil
      obtain ⟨e, he⟩ := G.inv.dom i l hil
      exact ⟨e, by rw [same i h16]; exact he⟩


-- FN sign.Delta | sign.Open | sign.Entry | sign.Check | ref9.Delta | ref9.Open | ref9.Next | ref9.Entry | ref9.Check
noncomputable def h32 : List PV → Bool := hid fun h => Jh .u8 h && decide (h.length = 32)
theorem h32_iff {h : List PV} : h32 h = true ↔ Jh .u8 h = true ∧ h.length = 32 := by rw [h32, hid_eq, Bool.and_eq_true, decide_eq_true_eq]
noncomputable def kO3 : List PV → Bool := hid fun l => l.all fun p => kOk p.els
theorem Jej {z0 f0 z1 f1 z2 f2 : Bool} {k0 k1 k2 : List PV} : kO3 [.ro 5 z0 f0 k0, .ro 5 z1 f1 k1, .ro 5 z2 f2 k2] = true ↔ kOk k0 = true ∧ kOk k1 = true ∧ kOk k2 = true := by
  rw [kO3, hid_eq]; simp [PV.els]
structure MK where
  (l : List PV) (d : Int) (t : List Int)
noncomputable def mcK : MK → List Int := hid fun m => JU (Jd (QG ⟨m.l, m.d⟩)) m.t
theorem GP (m : MK) : mcK m = JU (Jd (QG ⟨m.l, m.d⟩)) m.t := by rw [mcK, hid_eq]
theorem JbL (m : MK) : (mcK m).length = 32 := by rw [GP]; exact Xn _ _
structure NX where
  (p : List PV) (e : EV)
structure EM where
  (l : List PV) (d : Int) (e : EV) (h : List PV)
noncomputable def emP : EM → List Int := hid fun x => mcK ⟨x.l, x.d, Wz x.e ++ Jd x.h⟩
theorem Jhy (x : EM) : emP x = mcK ⟨x.l, x.d, Wz x.e ++ Jd x.h⟩ := by rw [emP, hid_eq]
theorem Jhz (x : EM) : (emP x).length = 32 := by rw [Jhy]; exact JbL _
structure EC where
  (l : List PV) (d : Int) (e : EV) (h m : List PV)
noncomputable def emC : EC → Bool := hid fun x => kIn x.d && (emP ⟨x.l, x.d, x.e, x.h⟩ == Jd x.m)
theorem Jmb (x : EC) : emC x = (kIn x.d && (emP ⟨x.l, x.d, x.e, x.h⟩ == Jd x.m)) := by rw [emC, hid_eq]
structure SO where
  (l b m : List PV)
noncomputable def WS (x : SO) : Int := bif dE x.b == 0 then (bif kIn (dF 0 x.b) && (mcK ⟨x.l, dF 0 x.b, Jd x.b⟩ == Jd x.m) then 0 else 14) else dE x.b
noncomputable def soE : SO → Int := hid WS
noncomputable def soF : Nat → SO → Int := hid fun i x => bif WS x == 0 then dF i x.b else 0
noncomputable def soH : SO → List Int := hid fun x => bif WS x == 0 then dH x.b else List.replicate 32 0
noncomputable def soO : SO → List PV := hid fun x => bif WS x == 0 then dO x.b else []
noncomputable def Jtp : SO → Bool := hid fun x => !(WS x == 0)
theorem JbM (x : SO) : soE x = WS x := by rw [soE, hid_eq]
theorem JbN (i : Nat) (x : SO) : soF i x = bif WS x == 0 then dF i x.b else 0 := by rw [soF, hid_eq]
theorem JbO (x : SO) : soH x = bif WS x == 0 then dH x.b else List.replicate 32 0 := by rw [soH, hid_eq]
theorem JbP (x : SO) : soO x = bif WS x == 0 then dO x.b else [] := by rw [soO, hid_eq]
theorem Jjg (x : SO) : Jtp x = !(WS x == 0) := by rw [Jtp, hid_eq]
noncomputable def soP (x : SO) : PV := .tup [.st 73 [.st 45 [.sc (.int .i64 (soF 0 x)), .sc (.int .i64 (soF 1 x))], .sc (.int .i64 (soF 2 x)), .sc (.int .i64 (soF 3 x)), .ar 37 (pu .u8 (soH x)), .sc (.int .i64 (soF 4 x)), .ro 99 (soO x).isEmpty (soO x).isEmpty (soO x), .st 45 [.sc (.int .i64 (soF 5 x)), .sc (.int .i64 (soF 6 x))]], .sc (.int .i64 (soE x))]
noncomputable def soQ (x : SO) : PV := .tup [.st 73 [.st 45 [.sc (.int .i64 (soF 0 x)), .sc (.int .i64 (soF 1 x))], .sc (.int .i64 (soF 2 x)), .sc (.int .i64 (soF 3 x)), .ar 37 (pu .u8 (soH x)), .sc (.int .i64 (soF 4 x)), .ro 99 (soO x).isEmpty (Jtp x) (soO x), .st 45 [.sc (.int .i64 (soF 5 x)), .sc (.int .i64 (soF 6 x))]], .sc (.int .i64 (soE x))]
theorem Jjh {x : SO} {e : Int} (h : WS x = e) (h0 : (e == 0) = false) : soP x = Jai e := by
  simp only [soP, Jai, JbN, JbO, JbP, JbM, h, h0, cond_false, List.isEmpty_nil]
theorem Jji {x : SO} {e : Int} (h : WS x = e) (h0 : (e == 0) = false) : soQ x = Jai e := by
  simp only [soQ, Jai, JbN, JbO, JbP, JbM, Jjg, h, h0, cond_false, List.isEmpty_nil, Bool.not_false]
theorem Jtq {x : SO} (h : WS x = 0) : soP x = .tup [.st 73 [.st 45 [.sc (.int .i64 (dF 0 x.b)), .sc (.int .i64 (dF 1 x.b))], .sc (.int .i64 (dF 2 x.b)), .sc (.int .i64 (dF 3 x.b)), .ar 37 (pu .u8 (dH x.b)), .sc (.int .i64 (dF 4 x.b)), .ro 99 (dO x.b).isEmpty (dO x.b).isEmpty (dO x.b), .st 45 [.sc (.int .i64 (dF 5 x.b)), .sc (.int .i64 (dF 6 x.b))]], .sc (.int .i64 0)] := by
  simp only [soP, JbN, JbO, JbP, JbM, h, beq_self_eq_true, cond_true]
theorem Jtr {x : SO} (h : WS x = 0) : soQ x = .tup [.st 73 [.st 45 [.sc (.int .i64 (dF 0 x.b)), .sc (.int .i64 (dF 1 x.b))], .sc (.int .i64 (dF 2 x.b)), .sc (.int .i64 (dF 3 x.b)), .ar 37 (pu .u8 (dH x.b)), .sc (.int .i64 (dF 4 x.b)), .ro 99 (dO x.b).isEmpty false (dO x.b), .st 45 [.sc (.int .i64 (dF 5 x.b)), .sc (.int .i64 (dF 6 x.b))]], .sc (.int .i64 0)] := by
  simp only [soQ, JbN, JbO, JbP, JbM, Jjg, h, beq_self_eq_true, cond_true, Bool.not_true]
theorem fl1 (z f : Bool) (l : List PV) : Jm [.ro 5 z f l] = l := by simp [PV.els]
theorem fl2 (z f z' f' : Bool) (l l' : List PV) : Jm [.ro 5 z f l, .ro 5 z' f' l'] = l ++ l' := by simp [PV.els]
theorem JfH {a b : List PV} (h : Jh .u8 a = true) (h' : Jh .u8 b = true) : Jh .u8 (a ++ b) = true := by
  induction a with
  | nil => exact h'
  | cons p ps ih =>
    have e : ∀ l : List PV, Jh .u8 (p :: l) = (p.isInt .u8 && Jh .u8 l) := fun l => rfl
    rw [e, Bool.and_eq_true] at h
    rw [List.cons_append, e, Bool.and_eq_true]; exact ⟨h.1, ih h.2⟩
theorem JjX (a b : List PV) : Jd (a ++ b) = Jd a ++ Jd b := by simp [Jd]
theorem Jmc {z0 f0 z1 f1 z2 f2 : Bool} {k0 k1 k2 : List PV} (h : kO3 [.ro 5 z0 f0 k0, .ro 5 z1 f1 k1, .ro 5 z2 f2 k2] = true) {d : Int} (hd : QK d 2 = true) :
    PV.isRo 5 (Jj (PV.st 31 [.ro 5 z0 f0 k0, .ro 5 z1 f1 k1, .ro 5 z2 f2 k2]) [d.toNat]) = true ∧ (Jj (PV.st 31 [.ro 5 z0 f0 k0, .ro 5 z1 f1 k1, .ro 5 z2 f2 k2]) [d.toNat]).els = QG ⟨[.ro 5 z0 f0 k0, .ro 5 z1 f1 k1, .ro 5 z2 f2 k2], d⟩ := by
  rw [Jax, W4, hd]
  simp only [QK, Bool.and_eq_true, decide_eq_true_eq] at hd
  have : d = 0 ∨ d = 1 ∨ d = 2 := by omega
  rcases this with rfl | rfl | rfl <;> exact ⟨rfl, rfl⟩
theorem JbQ {z0 f0 z1 f1 z2 f2 : Bool} {k0 k1 k2 : List PV} (h : kO3 [.ro 5 z0 f0 k0, .ro 5 z1 f1 k1, .ro 5 z2 f2 k2] = true) (d : Int) : Jh .u8 (QG ⟨[.ro 5 z0 f0 k0, .ro 5 z1 f1 k1, .ro 5 z2 f2 k2], d⟩) = true ∧ (QG ⟨[.ro 5 z0 f0 k0, .ro 5 z1 f1 k1, .ro 5 z2 f2 k2], d⟩).length ≤ 1000000000 := by
  obtain ⟨a, b, c⟩ := Jej.1 h
  have := JnL (z0 := z0) (f0 := f0) (z1 := z1) (f1 := f1) (z2 := z2) (f2 := f2) a b c d
  rw [kOk, Bool.and_eq_true, decide_eq_true_eq] at this; exact this
theorem Jc2 {d : DV} (h : dOk d = true) : (dlB d).length ≤ 65618 := by rw [JbG h]; have := (Yw.1 h).2.2.2; omega
theorem JfI {e : EV} (h : eOk e = true) : (Wz e).length ≤ 131114 := by rw [Gf h]; have := Ge.1 h; omega
theorem Jmd {b : List PV} (h : dE b = 0) : QK (dF 0 b) 2 = true := by
  rw [Jah] at h
  rw [JcZ, h]
  show QK (dv b).ad 2 = true
  have hq := h
  unfold dE0 at hq
  cases he : ((d9 b).e == 0) with
  | false => rw [he, cond_false] at hq; rw [hq] at he; cases he
  | true =>
    rw [he, cond_true] at hq
    cases h9 : decide ((d9 b).b.length > 0) with
    | true => rw [h9, cond_true] at hq; exact absurd hq (by decide)
    | false =>
      rw [h9, cond_false] at hq
      cases ho : (opE (dt b) == 0) with
      | false => rw [ho, cond_false] at hq; rw [hq] at ho; cases ho
      | true =>
        rw [ho, cond_true, JbJ] at hq
        unfold JjW at hq
        cases hi : inZ (dv b).ad 2 with
        | true => exact hi
        | false => rw [hi, Bool.false_and, cond_false] at hq; exact absurd hq (by decide)
/-! sign.Delta, ref9.Delta -/
noncomputable def JhA : List PV → List Ent → (Res → Option Res) → Option Res
  | [.st 31 [.ro 5 z0 f0 k0, .ro 5 z1 f1 k1, .ro 5 z2 f2 k2], .st 73 [.st 45 [.sc (.int .i64 ad), .sc (.int .i64 au)], .sc (.int .i64 id1), .sc (.int .i64 ve), .ar 37 h, .sc (.int .i64 kd), .ro 99 oz of o, .st 45 [.sc (.int .i64 wd), .sc (.int .i64 wu)]]], [], k =>
    bif dOk ⟨ad, au, id1, ve, h, kd, o, wd, wu⟩ && kO3 [.ro 5 z0 f0 k0, .ro 5 z1 f1 k1, .ro 5 z2 f2 k2] then
      k ⟨.st 77 [.ro 5 false false (pu .u8 (dlB ⟨ad, au, id1, ve, h, kd, o, wd, wu⟩)), .ar 37 (pu .u8 (mcK ⟨[.ro 5 z0 f0 k0, .ro 5 z1 f1 k1, .ro 5 z2 f2 k2], ad, dlB ⟨ad, au, id1, ve, h, kd, o, wd, wu⟩⟩))], [], []⟩ else none
  | _, _, _ => none
noncomputable def JyB : Sig := { own := [], run := JhA }
theorem JyC : Ji tau Try.prog 46 JyB := JAK.of fun xs es k res hr => by
  change JhA xs es k = some res at hr
  unfold JhA at hr
  split at hr
  · rename_i z0 f0 k0 z1 f1 k1 z2 f2 k2 ad au id1 ve h kd oz of o wd wu
    obtain ⟨hc, hr⟩ := JL hr
    rw [Bool.and_eq_true] at hc
    have hK := JbQ hc.2 ad
    have hs := Jc2 hc.1
    refine Eq.trans ?_ hr
    show g46 0 z0 f0 k0 z1 f1 k1 z2 f2 k2 ad au id1 ve h kd oz of o wd wu k = _
    unfold g46
    simp only [fl1, J6, Wa, JO]
    refine (Jc hc.1).trans ((Jc (by rw [hK.1]; simp; omega)).trans ?_)
    rw [GP]
  · cases hr
/-! sign.Open, ref9.Open -/
noncomputable def JhB : List PV → List Ent → (Res → Option Res) → Option Res
  | [.st 31 [.ro 5 z0 f0 k0, .ro 5 z1 f1 k1, .ro 5 z2 f2 k2], .st 77 [.ro 5 z f b, .ar 37 m]], [], k =>
    bif (slB z b && byB b) && (h32 m && kO3 [.ro 5 z0 f0 k0, .ro 5 z1 f1 k1, .ro 5 z2 f2 k2]) then
      k ⟨soP ⟨[.ro 5 z0 f0 k0, .ro 5 z1 f1 k1, .ro 5 z2 f2 k2], b, m⟩, [], []⟩ else none
  | _, _, _ => none
noncomputable def Jts : Sig := { own := [], run := JhB }
theorem Jq9 : Ji tau Try.prog 49 Jts := JBg.of fun xs es k res hr => by
  change JhB xs es k = some res at hr
  unfold JhB at hr
  split at hr
  · rename_i z0 f0 k0 z1 f1 k1 z2 f2 k2 z f b m
    obtain ⟨hc, hr⟩ := JL hr
    simp only [Bool.and_eq_true] at hc
    have hK := JbQ hc.2.2 (dF 0 b)
    obtain ⟨m1, m2⟩ := h32_iff.1 hc.2.1
    have hsl := (Wp.1 hc.1.1).2
    have hab := (Qx.1 hc.1.2).1
    refine Eq.trans ?_ hr
    show g49 0 z0 f0 k0 z1 f1 k1 z2 f2 k2 z f b m k = _
    generalize hx : SO.mk [.ro 5 z0 f0 k0, .ro 5 z1 f1 k1, .ro 5 z2 f2 k2] b m = x
    have hxb : x.b = b := by rw [← hx]
    have hE : WS x = WS x := rfl
    conv at hE => rhs; unfold WS
    rw [hxb] at hE
    unfold g49
    simp only [fl1]
    refine (Jc (by rw [hc.1.1, hc.1.2]; rfl)).trans ?_
    cases he : (dE b == 0) with
    | false =>
      rw [he, cond_false] at hE
      rw [Jjh hE he]
      exact Jc (by rw [bne, he]; rfl)
    | true =>
      rw [he, cond_true] at hE
      have hi := Jmd (show dE b = 0 by simpa using he)
      have hk : kIn (dF 0 b) = true := by rw [Jd6]; exact hi
      rw [hk, Bool.true_and] at hE
      refine (JK (by rw [bne, he]; rfl)).trans ((JK (by rw [hk]; rfl)).trans ((Jc (by rw [hK.1, hab]; simp; omega)).trans ((Jc (by rw [J6, m1]; simp [Xn, m2])).trans ?_)))
      have hmm : mcK ⟨x.l, dF 0 b, Jd b⟩ = JU (Jd (QG ⟨[.ro 5 z0 f0 k0, .ro 5 z1 f1 k1, .ro 5 z2 f2 k2], dF 0 b⟩)) (Jd b) := by rw [GP, ← hx]
      have hxm : x.m = m := by rw [← hx]
      rw [hxm, hmm] at hE
      have hq : Qp (pu .u8 (JU (Jd (QG ⟨[.ro 5 z0 f0 k0, .ro 5 z1 f1 k1, .ro 5 z2 f2 k2], dF 0 b⟩)) (Jd b))) m = (JU (Jd (QG ⟨[.ro 5 z0 f0 k0, .ro 5 z1 f1 k1, .ro 5 z2 f2 k2], dF 0 b⟩)) (Jd b) == Jd m) := by
        conv => lhs; rw [show m = pu .u8 (Jd m) from (Qb m1)]
        exact WW _ _ _
      rw [hq]
      cases hm : (JU (Jd (QG ⟨[.ro 5 z0 f0 k0, .ro 5 z1 f1 k1, .ro 5 z2 f2 k2], dF 0 b⟩)) (Jd b) == Jd m) with
      | false =>
        rw [hm, cond_false] at hE
        rw [Jjh hE (by decide)]
        rfl
      | true =>
        rw [hm, cond_true] at hE
        rw [Jtq hE, hxb]
        rfl
  · cases hr
noncomputable def JhC : List PV → List Ent → (Res → Option Res) → Option Res
  | [.st 31 [.ro 5 z0 f0 k0, .ro 5 z1 f1 k1, .ro 5 z2 f2 k2], .st 77 [.ro 5 z f b, .ar 37 m]], [], k =>
    bif (byB b && Nat.ble b.length 1000000000) && (h32 m && kO3 [.ro 5 z0 f0 k0, .ro 5 z1 f1 k1, .ro 5 z2 f2 k2]) then
      k ⟨soQ ⟨[.ro 5 z0 f0 k0, .ro 5 z1 f1 k1, .ro 5 z2 f2 k2], b, m⟩, [], []⟩ else none
  | _, _, _ => none
noncomputable def JyD : Sig := { own := [], run := JhC }
theorem JyE : Ji tau Try.prog 51 JyD := JBo.of fun xs es k res hr => by
  change JhC xs es k = some res at hr
  unfold JhC at hr
  split at hr
  · rename_i z0 f0 k0 z1 f1 k1 z2 f2 k2 z f b m
    obtain ⟨hc, hr⟩ := JL hr
    simp only [Bool.and_eq_true, Nat.ble_eq] at hc
    have hK := JbQ hc.2.2 (dF 0 b)
    obtain ⟨m1, m2⟩ := h32_iff.1 hc.2.1
    have hab := (Qx.1 hc.1.1).1
    refine Eq.trans ?_ hr
    show g51 0 z0 f0 k0 z1 f1 k1 z2 f2 k2 z f b m k = _
    generalize hx : SO.mk [.ro 5 z0 f0 k0, .ro 5 z1 f1 k1, .ro 5 z2 f2 k2] b m = x
    have hxb : x.b = b := by rw [← hx]
    have hE : WS x = WS x := rfl
    conv at hE => rhs; unfold WS
    rw [hxb] at hE
    unfold g51
    refine (Jc (by rw [hc.1.1, Bool.true_and, Nat.ble_eq]; exact hc.1.2)).trans ?_
    cases he : (dE b == 0) with
    | false =>
      rw [he, cond_false] at hE
      rw [Jji hE he]
      exact Jc (by rw [bne, he]; rfl)
    | true =>
      rw [he, cond_true] at hE
      have hi := Jmd (show dE b = 0 by simpa using he)
      have hk : kIn (dF 0 b) = true := by rw [Jd6]; exact hi
      obtain ⟨q1, q2⟩ := Jmc hc.2.2 hi
      rw [hk, Bool.true_and] at hE
      have hdo : dOF b = false := by rw [Jhw, ← Jah, he]; rfl
      simp only [QK, Bool.and_eq_true, decide_eq_true_eq] at hi
      simp only [q2]
      refine (JK (by rw [bne, he]; rfl)).trans ((Jc (by simp [zi]; omega)).trans ((Jc (by rw [q1]; rfl)).trans ((Jc (by rw [hK.1, hab]; simp; omega)).trans ((Jc (by rw [J6, m1]; simp [Xn, m2])).trans ?_))))
      have hmm : mcK ⟨x.l, dF 0 b, Jd b⟩ = JU (Jd (QG ⟨[.ro 5 z0 f0 k0, .ro 5 z1 f1 k1, .ro 5 z2 f2 k2], dF 0 b⟩)) (Jd b) := by rw [GP, ← hx]
      have hxm : x.m = m := by rw [← hx]
      rw [hxm, hmm] at hE
      have hq : Qp m (pu .u8 (JU (Jd (QG ⟨[.ro 5 z0 f0 k0, .ro 5 z1 f1 k1, .ro 5 z2 f2 k2], dF 0 b⟩)) (Jd b))) = (JU (Jd (QG ⟨[.ro 5 z0 f0 k0, .ro 5 z1 f1 k1, .ro 5 z2 f2 k2], dF 0 b⟩)) (Jd b) == Jd m) := by
        conv => lhs; rw [show m = pu .u8 (Jd m) from (Qb m1)]
        rw [WW]; exact BEq.comm
      rw [hq]
      cases hm : (JU (Jd (QG ⟨[.ro 5 z0 f0 k0, .ro 5 z1 f1 k1, .ro 5 z2 f2 k2], dF 0 b⟩)) (Jd b) == Jd m) with
      | false =>
        rw [hm, cond_false] at hE
        rw [Jji hE (by decide)]
        rfl
      | true =>
        rw [hm, cond_true] at hE
        rw [Jtr hE, hxb, hdo]
        rfl
  · cases hr
/-! entries -/
noncomputable def JhD : List PV → List Ent → (Res → Option Res) → Option Res
  | [.st 31 [.ro 5 z0 f0 k0, .ro 5 z1 f1 k1, .ro 5 z2 f2 k2], .sc (.int .i64 ho), .st 93 [.st 77 [.ro 5 z f b, .ar 37 m], .sc (.int .i64 at1), .ro 99 oz of o, .ar 37 h, .ar 37 mc]], [], k =>
    bif eOk ⟨b, m, at1, o⟩ && (h32 h && (h32 mc && kO3 [.ro 5 z0 f0 k0, .ro 5 z1 f1 k1, .ro 5 z2 f2 k2])) then
      k ⟨.sc (.bool (emC ⟨[.ro 5 z0 f0 k0, .ro 5 z1 f1 k1, .ro 5 z2 f2 k2], ho, ⟨b, m, at1, o⟩, h, mc⟩)), [], []⟩ else none
  | _, _, _ => none
noncomputable def JyF : Sig := { own := [], run := JhD }
theorem JyG : Ji tau Try.prog 60 JyF := JBk.of fun xs es k res hr => by
  change JhD xs es k = some res at hr
  unfold JhD at hr
  split at hr
  · rename_i z0 f0 k0 z1 f1 k1 z2 f2 k2 ho z f b m at1 oz of o h mc
    obtain ⟨hc, hr⟩ := JL hr
    simp only [Bool.and_eq_true] at hc
    obtain ⟨c1, c2, c3, c4⟩ := hc
    have hK := JbQ c4 ho
    obtain ⟨p1, p2⟩ := h32_iff.1 c2
    obtain ⟨m1, m2⟩ := h32_iff.1 c3
    have hcl := JfI c1
    have hth : List.take 32 h = h := List.take_of_length_le (by omega)
    have hem : JU (Jd (QG ⟨[.ro 5 z0 f0 k0, .ro 5 z1 f1 k1, .ro 5 z2 f2 k2], ho⟩)) (Wz ⟨b, m, at1, o⟩ ++ Jd h) = emP ⟨[.ro 5 z0 f0 k0, .ro 5 z1 f1 k1, .ro 5 z2 f2 k2], ho, ⟨b, m, at1, o⟩, h⟩ := by rw [Jhy, GP]
    have hq : ∀ l : List Int, Qp (pu .u8 l) mc = (l == Jd mc) := fun l => by
      conv => lhs; rw [show mc = pu .u8 (Jd mc) from (Qb m1)]
      exact WW _ _ _
    rw [Jmb] at hr
    refine Eq.trans ?_ hr
    show g60 0 z0 f0 k0 z1 f1 k1 z2 f2 k2 ho z f b m at1 oz of o h mc k = _
    unfold g60
    cases kIn ho with
    | false => rfl
    | true =>
      simp only [fl2, hth, JjX, Wa, hem, hq, J6]
      refine (Jc rfl).trans ((Jc c1).trans ((Jc (by rw [hK.1, JfH (J6 _ _) p1]; simp; omega)).trans ((Jc (by rw [m1]; simp [Jhz, m2])).trans ?_)))
      rfl
  · cases hr
noncomputable def F42 : Fns := JD 60 JyF (JD 49 Jts (JD 46 JyB (JD 21 Jsq (F0))))
theorem Jtt : Jz tau Try.prog F42 := ((((JG).add Jqb JtU).add JyC JAJ).add Jq9 Jyw).add JyG JBj
def JoV : An := (.seq .leaf (.seq .leaf (.seq .leaf (.seq .leaf (.seq .leaf .leaf)))))
noncomputable def g42 (f : Nat) (k : Res → Option Res) : Option Res := bif dOk (DV.mk 0 0 0 0 [.sc (.int .u8 0), .sc (.int .u8 0), .sc (.int .u8 0), .sc (.int .u8 0), .sc (.int .u8 0), .sc (.int .u8 0), .sc (.int .u8 0), .sc (.int .u8 0), .sc (.int .u8 0), .sc (.int .u8 0), .sc (.int .u8 0), .sc (.int .u8 0), .sc (.int .u8 0), .sc (.int .u8 0), .sc (.int .u8 0), .sc (.int .u8 0), .sc (.int .u8 0), .sc (.int .u8 0), .sc (.int .u8 0), .sc (.int .u8 0), .sc (.int .u8 0), .sc (.int .u8 0), .sc (.int .u8 0), .sc (.int .u8 0), .sc (.int .u8 0), .sc (.int .u8 0), .sc (.int .u8 0), .sc (.int .u8 0), .sc (.int .u8 0), .sc (.int .u8 0), .sc (.int .u8 0), .sc (.int .u8 0)] 2 [] 0 0) && kO3 [.ro 5 false false (kb 0 []), .ro 5 false false (kb 1 []), .ro 5 false false (kb 2 [])] then bif slB false (pu IntKind.u8 (dlB (DV.mk 0 0 0 0 [.sc (.int .u8 0), .sc (.int .u8 0), .sc (.int .u8 0), .sc (.int .u8 0), .sc (.int .u8 0), .sc (.int .u8 0), .sc (.int .u8 0), .sc (.int .u8 0), .sc (.int .u8 0), .sc (.int .u8 0), .sc (.int .u8 0), .sc (.int .u8 0), .sc (.int .u8 0), .sc (.int .u8 0), .sc (.int .u8 0), .sc (.int .u8 0), .sc (.int .u8 0), .sc (.int .u8 0), .sc (.int .u8 0), .sc (.int .u8 0), .sc (.int .u8 0), .sc (.int .u8 0), .sc (.int .u8 0), .sc (.int .u8 0), .sc (.int .u8 0), .sc (.int .u8 0), .sc (.int .u8 0), .sc (.int .u8 0), .sc (.int .u8 0), .sc (.int .u8 0), .sc (.int .u8 0), .sc (.int .u8 0)] 2 [] 0 0))) && byB (pu IntKind.u8 (dlB (DV.mk 0 0 0 0 [.sc (.int .u8 0), .sc (.int .u8 0), .sc (.int .u8 0), .sc (.int .u8 0), .sc (.int .u8 0), .sc (.int .u8 0), .sc (.int .u8 0), .sc (.int .u8 0), .sc (.int .u8 0), .sc (.int .u8 0), .sc (.int .u8 0), .sc (.int .u8 0), .sc (.int .u8 0), .sc (.int .u8 0), .sc (.int .u8 0), .sc (.int .u8 0), .sc (.int .u8 0), .sc (.int .u8 0), .sc (.int .u8 0), .sc (.int .u8 0), .sc (.int .u8 0), .sc (.int .u8 0), .sc (.int .u8 0), .sc (.int .u8 0), .sc (.int .u8 0), .sc (.int .u8 0), .sc (.int .u8 0), .sc (.int .u8 0), .sc (.int .u8 0), .sc (.int .u8 0), .sc (.int .u8 0), .sc (.int .u8 0)] 2 [] 0 0))) && (h32 (pu IntKind.u8 (mcK (MK.mk [.ro 5 false false (kb 0 []), .ro 5 false false (kb 1 []), .ro 5 false false (kb 2 [])] 0 (dlB (DV.mk 0 0 0 0 [.sc (.int .u8 0), .sc (.int .u8 0), .sc (.int .u8 0), .sc (.int .u8 0), .sc (.int .u8 0), .sc (.int .u8 0), .sc (.int .u8 0), .sc (.int .u8 0), .sc (.int .u8 0), .sc (.int .u8 0), .sc (.int .u8 0), .sc (.int .u8 0), .sc (.int .u8 0), .sc (.int .u8 0), .sc (.int .u8 0), .sc (.int .u8 0), .sc (.int .u8 0), .sc (.int .u8 0), .sc (.int .u8 0), .sc (.int .u8 0), .sc (.int .u8 0), .sc (.int .u8 0), .sc (.int .u8 0), .sc (.int .u8 0), .sc (.int .u8 0), .sc (.int .u8 0), .sc (.int .u8 0), .sc (.int .u8 0), .sc (.int .u8 0), .sc (.int .u8 0), .sc (.int .u8 0), .sc (.int .u8 0)] 2 [] 0 0))))) && kO3 [.ro 5 false false (kb 0 []), .ro 5 false false (kb 1 []), .ro 5 false false (kb 2 [])]) then bif soE (SO.mk [.ro 5 false false (kb 0 []), .ro 5 false false (kb 1 []), .ro 5 false false (kb 2 [])] (pu IntKind.u8 (dlB (DV.mk 0 0 0 0 [.sc (.int .u8 0), .sc (.int .u8 0), .sc (.int .u8 0), .sc (.int .u8 0), .sc (.int .u8 0), .sc (.int .u8 0), .sc (.int .u8 0), .sc (.int .u8 0), .sc (.int .u8 0), .sc (.int .u8 0), .sc (.int .u8 0), .sc (.int .u8 0), .sc (.int .u8 0), .sc (.int .u8 0), .sc (.int .u8 0), .sc (.int .u8 0), .sc (.int .u8 0), .sc (.int .u8 0), .sc (.int .u8 0), .sc (.int .u8 0), .sc (.int .u8 0), .sc (.int .u8 0), .sc (.int .u8 0), .sc (.int .u8 0), .sc (.int .u8 0), .sc (.int .u8 0), .sc (.int .u8 0), .sc (.int .u8 0), .sc (.int .u8 0), .sc (.int .u8 0), .sc (.int .u8 0), .sc (.int .u8 0)] 2 [] 0 0))) (pu IntKind.u8 (mcK (MK.mk [.ro 5 false false (kb 0 []), .ro 5 false false (kb 1 []), .ro 5 false false (kb 2 [])] 0 (dlB (DV.mk 0 0 0 0 [.sc (.int .u8 0), .sc (.int .u8 0), .sc (.int .u8 0), .sc (.int .u8 0), .sc (.int .u8 0), .sc (.int .u8 0), .sc (.int .u8 0), .sc (.int .u8 0), .sc (.int .u8 0), .sc (.int .u8 0), .sc (.int .u8 0), .sc (.int .u8 0), .sc (.int .u8 0), .sc (.int .u8 0), .sc (.int .u8 0), .sc (.int .u8 0), .sc (.int .u8 0), .sc (.int .u8 0), .sc (.int .u8 0), .sc (.int .u8 0), .sc (.int .u8 0), .sc (.int .u8 0), .sc (.int .u8 0), .sc (.int .u8 0), .sc (.int .u8 0), .sc (.int .u8 0), .sc (.int .u8 0), .sc (.int .u8 0), .sc (.int .u8 0), .sc (.int .u8 0), .sc (.int .u8 0), .sc (.int .u8 0)] 2 [] 0 0)))))) == 0 then bif soF 4 (SO.mk [.ro 5 false false (kb 0 []), .ro 5 false false (kb 1 []), .ro 5 false false (kb 2 [])] (pu IntKind.u8 (dlB (DV.mk 0 0 0 0 [.sc (.int .u8 0), .sc (.int .u8 0), .sc (.int .u8 0), .sc (.int .u8 0), .sc (.int .u8 0), .sc (.int .u8 0), .sc (.int .u8 0), .sc (.int .u8 0), .sc (.int .u8 0), .sc (.int .u8 0), .sc (.int .u8 0), .sc (.int .u8 0), .sc (.int .u8 0), .sc (.int .u8 0), .sc (.int .u8 0), .sc (.int .u8 0), .sc (.int .u8 0), .sc (.int .u8 0), .sc (.int .u8 0), .sc (.int .u8 0), .sc (.int .u8 0), .sc (.int .u8 0), .sc (.int .u8 0), .sc (.int .u8 0), .sc (.int .u8 0), .sc (.int .u8 0), .sc (.int .u8 0), .sc (.int .u8 0), .sc (.int .u8 0), .sc (.int .u8 0), .sc (.int .u8 0), .sc (.int .u8 0)] 2 [] 0 0))) (pu IntKind.u8 (mcK (MK.mk [.ro 5 false false (kb 0 []), .ro 5 false false (kb 1 []), .ro 5 false false (kb 2 [])] 0 (dlB (DV.mk 0 0 0 0 [.sc (.int .u8 0), .sc (.int .u8 0), .sc (.int .u8 0), .sc (.int .u8 0), .sc (.int .u8 0), .sc (.int .u8 0), .sc (.int .u8 0), .sc (.int .u8 0), .sc (.int .u8 0), .sc (.int .u8 0), .sc (.int .u8 0), .sc (.int .u8 0), .sc (.int .u8 0), .sc (.int .u8 0), .sc (.int .u8 0), .sc (.int .u8 0), .sc (.int .u8 0), .sc (.int .u8 0), .sc (.int .u8 0), .sc (.int .u8 0), .sc (.int .u8 0), .sc (.int .u8 0), .sc (.int .u8 0), .sc (.int .u8 0), .sc (.int .u8 0), .sc (.int .u8 0), .sc (.int .u8 0), .sc (.int .u8 0), .sc (.int .u8 0), .sc (.int .u8 0), .sc (.int .u8 0), .sc (.int .u8 0)] 2 [] 0 0)))))) == 2 then bif eOk (EV.mk [] [.sc (.int .u8 0), .sc (.int .u8 0), .sc (.int .u8 0), .sc (.int .u8 0), .sc (.int .u8 0), .sc (.int .u8 0), .sc (.int .u8 0), .sc (.int .u8 0), .sc (.int .u8 0), .sc (.int .u8 0), .sc (.int .u8 0), .sc (.int .u8 0), .sc (.int .u8 0), .sc (.int .u8 0), .sc (.int .u8 0), .sc (.int .u8 0), .sc (.int .u8 0), .sc (.int .u8 0), .sc (.int .u8 0), .sc (.int .u8 0), .sc (.int .u8 0), .sc (.int .u8 0), .sc (.int .u8 0), .sc (.int .u8 0), .sc (.int .u8 0), .sc (.int .u8 0), .sc (.int .u8 0), .sc (.int .u8 0), .sc (.int .u8 0), .sc (.int .u8 0), .sc (.int .u8 0), .sc (.int .u8 0)] 0 []) && (h32 [.sc (.int .u8 0), .sc (.int .u8 0), .sc (.int .u8 0), .sc (.int .u8 0), .sc (.int .u8 0), .sc (.int .u8 0), .sc (.int .u8 0), .sc (.int .u8 0), .sc (.int .u8 0), .sc (.int .u8 0), .sc (.int .u8 0), .sc (.int .u8 0), .sc (.int .u8 0), .sc (.int .u8 0), .sc (.int .u8 0), .sc (.int .u8 0), .sc (.int .u8 0), .sc (.int .u8 0), .sc (.int .u8 0), .sc (.int .u8 0), .sc (.int .u8 0), .sc (.int .u8 0), .sc (.int .u8 0), .sc (.int .u8 0), .sc (.int .u8 0), .sc (.int .u8 0), .sc (.int .u8 0), .sc (.int .u8 0), .sc (.int .u8 0), .sc (.int .u8 0), .sc (.int .u8 0), .sc (.int .u8 0)] && (h32 [.sc (.int .u8 0), .sc (.int .u8 0), .sc (.int .u8 0), .sc (.int .u8 0), .sc (.int .u8 0), .sc (.int .u8 0), .sc (.int .u8 0), .sc (.int .u8 0), .sc (.int .u8 0), .sc (.int .u8 0), .sc (.int .u8 0), .sc (.int .u8 0), .sc (.int .u8 0), .sc (.int .u8 0), .sc (.int .u8 0), .sc (.int .u8 0), .sc (.int .u8 0), .sc (.int .u8 0), .sc (.int .u8 0), .sc (.int .u8 0), .sc (.int .u8 0), .sc (.int .u8 0), .sc (.int .u8 0), .sc (.int .u8 0), .sc (.int .u8 0), .sc (.int .u8 0), .sc (.int .u8 0), .sc (.int .u8 0), .sc (.int .u8 0), .sc (.int .u8 0), .sc (.int .u8 0), .sc (.int .u8 0)] && kO3 [.ro 5 false false (kb 0 []), .ro 5 false false (kb 1 []), .ro 5 false false (kb 2 [])])) then k (Res.mk (.sc (.bool !emC (EC.mk [.ro 5 false false (kb 0 []), .ro 5 false false (kb 1 []), .ro 5 false false (kb 2 [])] 0 (EV.mk [] [.sc (.int .u8 0), .sc (.int .u8 0), .sc (.int .u8 0), .sc (.int .u8 0), .sc (.int .u8 0), .sc (.int .u8 0), .sc (.int .u8 0), .sc (.int .u8 0), .sc (.int .u8 0), .sc (.int .u8 0), .sc (.int .u8 0), .sc (.int .u8 0), .sc (.int .u8 0), .sc (.int .u8 0), .sc (.int .u8 0), .sc (.int .u8 0), .sc (.int .u8 0), .sc (.int .u8 0), .sc (.int .u8 0), .sc (.int .u8 0), .sc (.int .u8 0), .sc (.int .u8 0), .sc (.int .u8 0), .sc (.int .u8 0), .sc (.int .u8 0), .sc (.int .u8 0), .sc (.int .u8 0), .sc (.int .u8 0), .sc (.int .u8 0), .sc (.int .u8 0), .sc (.int .u8 0), .sc (.int .u8 0)] 0 []) [.sc (.int .u8 0), .sc (.int .u8 0), .sc (.int .u8 0), .sc (.int .u8 0), .sc (.int .u8 0), .sc (.int .u8 0), .sc (.int .u8 0), .sc (.int .u8 0), .sc (.int .u8 0), .sc (.int .u8 0), .sc (.int .u8 0), .sc (.int .u8 0), .sc (.int .u8 0), .sc (.int .u8 0), .sc (.int .u8 0), .sc (.int .u8 0), .sc (.int .u8 0), .sc (.int .u8 0), .sc (.int .u8 0), .sc (.int .u8 0), .sc (.int .u8 0), .sc (.int .u8 0), .sc (.int .u8 0), .sc (.int .u8 0), .sc (.int .u8 0), .sc (.int .u8 0), .sc (.int .u8 0), .sc (.int .u8 0), .sc (.int .u8 0), .sc (.int .u8 0), .sc (.int .u8 0), .sc (.int .u8 0)] [.sc (.int .u8 0), .sc (.int .u8 0), .sc (.int .u8 0), .sc (.int .u8 0), .sc (.int .u8 0), .sc (.int .u8 0), .sc (.int .u8 0), .sc (.int .u8 0), .sc (.int .u8 0), .sc (.int .u8 0), .sc (.int .u8 0), .sc (.int .u8 0), .sc (.int .u8 0), .sc (.int .u8 0), .sc (.int .u8 0), .sc (.int .u8 0), .sc (.int .u8 0), .sc (.int .u8 0), .sc (.int .u8 0), .sc (.int .u8 0), .sc (.int .u8 0), .sc (.int .u8 0), .sc (.int .u8 0), .sc (.int .u8 0), .sc (.int .u8 0), .sc (.int .u8 0), .sc (.int .u8 0), .sc (.int .u8 0), .sc (.int .u8 0), .sc (.int .u8 0), .sc (.int .u8 0), .sc (.int .u8 0)]))) [] []) else none else k (Res.mk (.sc (.bool false)) [] []) else k (Res.mk (.sc (.bool false)) [] []) else none else none
theorem e42 (f : Nat) (k : Res → Option Res) : JM tau F42 Try.f42 (Try.f42.body.get!) JoV [.ro] 0 [] [] k = g42 f k := by kernel_rfl
theorem JBp (f : Nat) : Jg (Try.f42.body.get!) JoV = [] := by kernel_rfl
theorem JBq (f : Nat) : ∀ q ∈ Jg (Try.f42.body.get!) JoV, q.Ok tau Try.prog 0 := by
  rw [JBp f]; intro q hq; cases hq
theorem JyH : Try.prog.funcs[42]? = some Try.f42 := by kernel_rfl
theorem JyI : Try.f42.body = some (Try.f42.body.get!) := by kernel_rfl
theorem JBr : Enters Try.prog 42 := enters_of JyH (by kernel_rfl) JyI
noncomputable def Jme : List PV → List Ent → (Res → Option Res) → Option Res
  | [], [], k => g42 0  k
  | _, _, _ => none
noncomputable def s42 : Sig := { own := [], run := Jme }
theorem JBs : Ji tau Try.prog 42 s42 := JS Jr Jtt Js JyH JyI JoV [.ro] 0 [] Jme (JBq 0) fun xs es k res hr => by
  unfold Jme at hr
  split at hr
  · exact ⟨rfl, 0, (e42 0  _).trans hr⟩
  · cases hr
end Go.Proofs.Ytcklhipdldpkhaa.Rx
