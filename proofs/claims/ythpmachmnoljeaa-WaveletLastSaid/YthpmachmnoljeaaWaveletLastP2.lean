/- What the functions of this law compute, and their plain laws. Conditions: none. -/
import Derived.Test.YthpmachmnoljeaaWaveletLastP1
namespace Go.Proofs.Ythpmachmnoljeaa.Rx
noncomputable section
open Go
set_option linter.unusedVariables false
set_option linter.unusedSimpArgs false
set_option maxRecDepth 100000
set_option maxHeartbeats 0
def Jw1 : Fns := JH 76 JsJ (F0)
theorem Jou : Jy tau Try.prog Jw1 := (JE).add JqO JqN
def Jov : Nm := [(0, .any), (1, .any), (5, .own), (6, .any)]
def Js2 : An := (.seq .leaf (.seq .leaf (.seq .leaf (.seq .leaf (.seq (.seq .leaf (.seq .leaf (.cond .leaf .leaf))) (.seq .leaf .leaf))))))
def Ji4 : An := (.seq .leaf (.scope Jov Js2))
def JlG (f : Nat) (b_z b_f : Bool) (b : List PV) (n : Int) (k : Res -> Option Res) : Option Res := bif b_z then k (Res.mk (.ow 5 16 [] 0 8 none) [] [.vec false 5 false [.sc (.int .u8 (IntKind.u8.wrap (Jz IntKind.u64 (IntKind.u64.wrap n) (IntKind.i64.wrap (8 * 0))))), .sc (.int .u8 (IntKind.u8.wrap (Jz IntKind.u64 (IntKind.u64.wrap n) (IntKind.i64.wrap (8 * IntKind.i64.wrap (0 + 1)))))), .sc (.int .u8 (IntKind.u8.wrap (Jz IntKind.u64 (IntKind.u64.wrap n) (IntKind.i64.wrap (8 * IntKind.i64.wrap (IntKind.i64.wrap (0 + 1) + 1)))))), .sc (.int .u8 (IntKind.u8.wrap (Jz IntKind.u64 (IntKind.u64.wrap n) (IntKind.i64.wrap (8 * IntKind.i64.wrap (IntKind.i64.wrap (IntKind.i64.wrap (0 + 1) + 1) + 1)))))), .sc (.int .u8 (IntKind.u8.wrap (Jz IntKind.u64 (IntKind.u64.wrap n) (IntKind.i64.wrap (8 * IntKind.i64.wrap (IntKind.i64.wrap (IntKind.i64.wrap (IntKind.i64.wrap (0 + 1) + 1) + 1) + 1)))))), .sc (.int .u8 (IntKind.u8.wrap (Jz IntKind.u64 (IntKind.u64.wrap n) (IntKind.i64.wrap (8 * IntKind.i64.wrap (IntKind.i64.wrap (IntKind.i64.wrap (IntKind.i64.wrap (IntKind.i64.wrap (0 + 1) + 1) + 1) + 1) + 1)))))), .sc (.int .u8 (IntKind.u8.wrap (Jz IntKind.u64 (IntKind.u64.wrap n) (IntKind.i64.wrap (8 * IntKind.i64.wrap (IntKind.i64.wrap (IntKind.i64.wrap (IntKind.i64.wrap (IntKind.i64.wrap (IntKind.i64.wrap (0 + 1) + 1) + 1) + 1) + 1) + 1)))))), .sc (.int .u8 (IntKind.u8.wrap (Jz IntKind.u64 (IntKind.u64.wrap n) (IntKind.i64.wrap (8 * IntKind.i64.wrap (IntKind.i64.wrap (IntKind.i64.wrap (IntKind.i64.wrap (IntKind.i64.wrap (IntKind.i64.wrap (IntKind.i64.wrap (0 + 1) + 1) + 1) + 1) + 1) + 1) + 1))))))]]) else bif Jf (0 + b.length) 1 && true then bif Jf (0 + b.length + 1) 1 && true then bif Jf (0 + b.length + 1 + 1) 1 && true then bif Jf (0 + b.length + 1 + 1 + 1) 1 && true then bif Jf (0 + b.length + 1 + 1 + 1 + 1) 1 && true then bif Jf (0 + b.length + 1 + 1 + 1 + 1 + 1) 1 && true then bif Jf (0 + b.length + 1 + 1 + 1 + 1 + 1 + 1) 1 && true then bif Jf (0 + b.length + 1 + 1 + 1 + 1 + 1 + 1 + 1) 1 && true then bif Jf (0 + b.length + 1 + 1 + 1 + 1 + 1 + 1 + 1 + 1) 1 && true then bif Jf (0 + (List.take (0 + b.length + 1 + 1 + 1 + 1 + 1 + 1 + 1 + 1) (List.take (0 + b.length + 1 + 1 + 1 + 1 + 1 + 1 + 1) (List.take (0 + b.length + 1 + 1 + 1 + 1 + 1 + 1) (List.take (0 + b.length + 1 + 1 + 1 + 1 + 1) (List.take (0 + b.length + 1 + 1 + 1 + 1) (List.take (0 + b.length + 1 + 1 + 1) (List.take (0 + b.length + 1 + 1) (List.take (0 + b.length + 1) (List.take (0 + b.length) b ++ [.sc (.int .u8 (IntKind.u8.wrap (Jz IntKind.u64 (IntKind.u64.wrap n) (IntKind.i64.wrap (8 * 0)))))]) ++ [.sc (.int .u8 (IntKind.u8.wrap (Jz IntKind.u64 (IntKind.u64.wrap n) (IntKind.i64.wrap (8 * IntKind.i64.wrap (0 + 1))))))]) ++ [.sc (.int .u8 (IntKind.u8.wrap (Jz IntKind.u64 (IntKind.u64.wrap n) (IntKind.i64.wrap (8 * IntKind.i64.wrap (IntKind.i64.wrap (0 + 1) + 1))))))]) ++ [.sc (.int .u8 (IntKind.u8.wrap (Jz IntKind.u64 (IntKind.u64.wrap n) (IntKind.i64.wrap (8 * IntKind.i64.wrap (IntKind.i64.wrap (IntKind.i64.wrap (0 + 1) + 1) + 1))))))]) ++ [.sc (.int .u8 (IntKind.u8.wrap (Jz IntKind.u64 (IntKind.u64.wrap n) (IntKind.i64.wrap (8 * IntKind.i64.wrap (IntKind.i64.wrap (IntKind.i64.wrap (IntKind.i64.wrap (0 + 1) + 1) + 1) + 1))))))]) ++ [.sc (.int .u8 (IntKind.u8.wrap (Jz IntKind.u64 (IntKind.u64.wrap n) (IntKind.i64.wrap (8 * IntKind.i64.wrap (IntKind.i64.wrap (IntKind.i64.wrap (IntKind.i64.wrap (IntKind.i64.wrap (0 + 1) + 1) + 1) + 1) + 1))))))]) ++ [.sc (.int .u8 (IntKind.u8.wrap (Jz IntKind.u64 (IntKind.u64.wrap n) (IntKind.i64.wrap (8 * IntKind.i64.wrap (IntKind.i64.wrap (IntKind.i64.wrap (IntKind.i64.wrap (IntKind.i64.wrap (IntKind.i64.wrap (0 + 1) + 1) + 1) + 1) + 1) + 1))))))]) ++ [.sc (.int .u8 (IntKind.u8.wrap (Jz IntKind.u64 (IntKind.u64.wrap n) (IntKind.i64.wrap (8 * IntKind.i64.wrap (IntKind.i64.wrap (IntKind.i64.wrap (IntKind.i64.wrap (IntKind.i64.wrap (IntKind.i64.wrap (IntKind.i64.wrap (0 + 1) + 1) + 1) + 1) + 1) + 1) + 1))))))])).length) 1 && true then k (Res.mk (.ow 5 16 [] 0 (0 + (List.take (0 + b.length + 1 + 1 + 1 + 1 + 1 + 1 + 1 + 1) (List.take (0 + b.length + 1 + 1 + 1 + 1 + 1 + 1 + 1) (List.take (0 + b.length + 1 + 1 + 1 + 1 + 1 + 1) (List.take (0 + b.length + 1 + 1 + 1 + 1 + 1) (List.take (0 + b.length + 1 + 1 + 1 + 1) (List.take (0 + b.length + 1 + 1 + 1) (List.take (0 + b.length + 1 + 1) (List.take (0 + b.length + 1) (List.take (0 + b.length) b ++ [.sc (.int .u8 (IntKind.u8.wrap (Jz IntKind.u64 (IntKind.u64.wrap n) (IntKind.i64.wrap (8 * 0)))))]) ++ [.sc (.int .u8 (IntKind.u8.wrap (Jz IntKind.u64 (IntKind.u64.wrap n) (IntKind.i64.wrap (8 * IntKind.i64.wrap (0 + 1))))))]) ++ [.sc (.int .u8 (IntKind.u8.wrap (Jz IntKind.u64 (IntKind.u64.wrap n) (IntKind.i64.wrap (8 * IntKind.i64.wrap (IntKind.i64.wrap (0 + 1) + 1))))))]) ++ [.sc (.int .u8 (IntKind.u8.wrap (Jz IntKind.u64 (IntKind.u64.wrap n) (IntKind.i64.wrap (8 * IntKind.i64.wrap (IntKind.i64.wrap (IntKind.i64.wrap (0 + 1) + 1) + 1))))))]) ++ [.sc (.int .u8 (IntKind.u8.wrap (Jz IntKind.u64 (IntKind.u64.wrap n) (IntKind.i64.wrap (8 * IntKind.i64.wrap (IntKind.i64.wrap (IntKind.i64.wrap (IntKind.i64.wrap (0 + 1) + 1) + 1) + 1))))))]) ++ [.sc (.int .u8 (IntKind.u8.wrap (Jz IntKind.u64 (IntKind.u64.wrap n) (IntKind.i64.wrap (8 * IntKind.i64.wrap (IntKind.i64.wrap (IntKind.i64.wrap (IntKind.i64.wrap (IntKind.i64.wrap (0 + 1) + 1) + 1) + 1) + 1))))))]) ++ [.sc (.int .u8 (IntKind.u8.wrap (Jz IntKind.u64 (IntKind.u64.wrap n) (IntKind.i64.wrap (8 * IntKind.i64.wrap (IntKind.i64.wrap (IntKind.i64.wrap (IntKind.i64.wrap (IntKind.i64.wrap (IntKind.i64.wrap (0 + 1) + 1) + 1) + 1) + 1) + 1))))))]) ++ [.sc (.int .u8 (IntKind.u8.wrap (Jz IntKind.u64 (IntKind.u64.wrap n) (IntKind.i64.wrap (8 * IntKind.i64.wrap (IntKind.i64.wrap (IntKind.i64.wrap (IntKind.i64.wrap (IntKind.i64.wrap (IntKind.i64.wrap (IntKind.i64.wrap (0 + 1) + 1) + 1) + 1) + 1) + 1) + 1))))))])).length) none) [] [.vec false 5 false (List.take (0 + b.length + 1 + 1 + 1 + 1 + 1 + 1 + 1 + 1) (List.take (0 + b.length + 1 + 1 + 1 + 1 + 1 + 1 + 1) (List.take (0 + b.length + 1 + 1 + 1 + 1 + 1 + 1) (List.take (0 + b.length + 1 + 1 + 1 + 1 + 1) (List.take (0 + b.length + 1 + 1 + 1 + 1) (List.take (0 + b.length + 1 + 1 + 1) (List.take (0 + b.length + 1 + 1) (List.take (0 + b.length + 1) (List.take (0 + b.length) b ++ [.sc (.int .u8 (IntKind.u8.wrap (Jz IntKind.u64 (IntKind.u64.wrap n) (IntKind.i64.wrap (8 * 0)))))]) ++ [.sc (.int .u8 (IntKind.u8.wrap (Jz IntKind.u64 (IntKind.u64.wrap n) (IntKind.i64.wrap (8 * IntKind.i64.wrap (0 + 1))))))]) ++ [.sc (.int .u8 (IntKind.u8.wrap (Jz IntKind.u64 (IntKind.u64.wrap n) (IntKind.i64.wrap (8 * IntKind.i64.wrap (IntKind.i64.wrap (0 + 1) + 1))))))]) ++ [.sc (.int .u8 (IntKind.u8.wrap (Jz IntKind.u64 (IntKind.u64.wrap n) (IntKind.i64.wrap (8 * IntKind.i64.wrap (IntKind.i64.wrap (IntKind.i64.wrap (0 + 1) + 1) + 1))))))]) ++ [.sc (.int .u8 (IntKind.u8.wrap (Jz IntKind.u64 (IntKind.u64.wrap n) (IntKind.i64.wrap (8 * IntKind.i64.wrap (IntKind.i64.wrap (IntKind.i64.wrap (IntKind.i64.wrap (0 + 1) + 1) + 1) + 1))))))]) ++ [.sc (.int .u8 (IntKind.u8.wrap (Jz IntKind.u64 (IntKind.u64.wrap n) (IntKind.i64.wrap (8 * IntKind.i64.wrap (IntKind.i64.wrap (IntKind.i64.wrap (IntKind.i64.wrap (IntKind.i64.wrap (0 + 1) + 1) + 1) + 1) + 1))))))]) ++ [.sc (.int .u8 (IntKind.u8.wrap (Jz IntKind.u64 (IntKind.u64.wrap n) (IntKind.i64.wrap (8 * IntKind.i64.wrap (IntKind.i64.wrap (IntKind.i64.wrap (IntKind.i64.wrap (IntKind.i64.wrap (IntKind.i64.wrap (0 + 1) + 1) + 1) + 1) + 1) + 1))))))]) ++ [.sc (.int .u8 (IntKind.u8.wrap (Jz IntKind.u64 (IntKind.u64.wrap n) (IntKind.i64.wrap (8 * IntKind.i64.wrap (IntKind.i64.wrap (IntKind.i64.wrap (IntKind.i64.wrap (IntKind.i64.wrap (IntKind.i64.wrap (IntKind.i64.wrap (0 + 1) + 1) + 1) + 1) + 1) + 1) + 1))))))]))]) else none else none else none else none else none else none else none else none else none else none
theorem JBd (f : Nat) (b_z b_f : Bool) (b : List PV) (n : Int) (k : Res -> Option Res) : JL tau Jw1 Try.f35 (Try.f35.body.get!) Ji4 [] 12 [.ro 5 b_z b_f b, .sc (.int .i64 n)] [] k = JlG f b_z b_f b n k := by kernel_rfl
theorem Jw2 (f : Nat) : Je (Try.f35.body.get!) Ji4 = [] := by kernel_rfl
theorem Jw3 (f : Nat) : ∀ q ∈ Je (Try.f35.body.get!) Ji4, q.Ok tau Try.prog 0 := by
 rw [Jw2 f]; intro q hq; cases hq
theorem Jw4 : Try.prog.funcs[35]? = some Try.f35 := by kernel_rfl
theorem Jw5 : Try.f35.body = some (Try.f35.body.get!) := by kernel_rfl
def F97 : Fns := F0
theorem Js3 : Jy tau Try.prog F97 := JE
def Jow : An := (.seq .leaf (.seq (.seq .leaf (.cond .leaf .leaf)) (.seq .leaf .leaf)))
def g97 (f : Nat) (s : ByteArray) (k : Res -> Option Res) : Option Res := bif decide (zi s.size > 65535) then bif decide (65535 <= s.size) && true then bif Jf (2 + (Jg (s.extract 0 65535)).length) 1 && true then k (Res.mk (.ow 5 16 [] 0 (2 + (Jg (s.extract 0 65535)).length) none) [] [.vec false 5 false (.sc (.int .u8 (IntKind.u8.wrap (zi (s.extract 0 65535).size))) :: .sc (.int .u8 (IntKind.u8.wrap (Jz IntKind.i64 (zi (s.extract 0 65535).size) 8))) :: id (Jg (s.extract 0 65535)))]) else none else none else bif Jf (2 + (Jg s).length) 1 && true then k (Res.mk (.ow 5 16 [] 0 (2 + (Jg s).length) none) [] [.vec false 5 false (.sc (.int .u8 (IntKind.u8.wrap (zi s.size))) :: .sc (.int .u8 (IntKind.u8.wrap (Jz IntKind.i64 (zi s.size) 8))) :: id (Jg s))]) else none
theorem e97 (f : Nat) (s : ByteArray) (k : Res -> Option Res) : JL tau F97 Try.f97 (Try.f97.body.get!) Jow [] 0 [.ro 5 true true [], .sc (.string s)] [] k = g97 f s k := by kernel_rfl
theorem JBe (f : Nat) : Je (Try.f97.body.get!) Jow = [] := by kernel_rfl
theorem JBf (f : Nat) : ∀ q ∈ Je (Try.f97.body.get!) Jow, q.Ok tau Try.prog 0 := by
 rw [JBe f]; intro q hq; cases hq
theorem Jw6 : Try.prog.funcs[97]? = some Try.f97 := by kernel_rfl
theorem Jw7 : Try.f97.body = some (Try.f97.body.get!) := by kernel_rfl
theorem Jw8 : Enters Try.prog 97 := enters_of Jw6 (by kernel_rfl) Jw7
def Jhq : List PV -> List Ent -> (Res -> Option Res) -> Option Res
 | [.ro 5 z f b, .sc (.int .i64 n)], [], k => bif okZ z b then k ⟨.ow 5 16 [] 0 (apI b n).length none, [], [.vec false 5 false (apI b n)]⟩ else none
 | _, _, _ => none
def Jw9 : Sig := { own := [], run := Jhq }
theorem JlH (f : Bool) (n : Int) (k : Res -> Option Res) : JlG 0 true f [] n k = k ⟨.ow 5 16 [] 0 8 none, [], [.vec false 5 false (pu .u8 (JS n))]⟩ := by
 rw [WF]; kernel_rfl
theorem Js4 (f : Bool) (b : List PV) (hb : b.length <= 1000000000) (n : Int) (k : Res -> Option Res) : JlG 0 false f b n k = k ⟨.ow 5 16 [] 0 (b.length + 8) none, [], [.vec false 5 false (b ++ pu .u8 (JS n))]⟩ := by
 rw [WF]
 unfold JlG
 refine (Jj rfl).trans ?_
 repeat rw [List.take_of_length_le (by simp <;> omega)]
 repeat (refine (Ja (by simp [Jf]; omega)).trans ?_)
 simp only [List.nil_append, List.append_assoc, List.length_append, List.length_cons, List.length_nil, Nat.zero_add]
 rfl
theorem Jxa : Jh tau Try.prog 35 Jw9 := Jh.mk' fun xs es k res hl hr => by
 change Jhq xs es k = some res at hr
 unfold Jhq at hr
 split at hr
 · rename_i z f b n
   obtain ⟨hc, hr2⟩ := JI hr
   clear hr
   rw [Vn] at hc
   obtain ⟨h1, h2⟩ := Wz.1 hc
   rw [Y8] at hr2
   have hg : JlG 0 z f b n k = some res := by
    cases z with
    | true => obtain rfl := h1 rfl; rw [JlH]; simpa using hr2
    | false => rw [Js4 f b h2]; simpa using hr2
   exact Qj Jq Jou Js Jw4 Jw5 Ji4 [] 0 12 (Jw3 0) hl rfl ((JBd 0 z f b n k).trans hg)
 · cases hr
def Jhr : List PV -> List Ent -> (Res -> Option Res) -> Option Res
 | [.ro 5 true true [], .sc (.int .i64 n)], [], k => k ⟨.ow 5 16 [] 0 (apI [] n).length none, [], [.vec false 5 false (apI [] n)]⟩
 | [.ow 5 0 [] 0 m none, .sc (.int .i64 n)], [.vec false 5 nl l], k => bif okL m l then k ⟨.ow 5 16 [] 0 (apI l n).length none, [.dead], [.vec false 5 false (apI l n)]⟩ else none
 | _, _, _ => none
def Js5 : Sig := { own := [true], run := Jhr }
theorem Jq1 : Jh tau Try.prog 53 Js5 := fun xs es k res hl hr => by
 change Jhr xs es k = some res at hr
 unfold Jhr at hr
 split at hr
 · rename_i n
   refine JqW _ _ k res hl ?_
   rw [Y8] at hr
   show k ⟨.ow 5 16 [] 0 8 none, [], [.vec false 5 false (pu .u8 (JS n))]⟩ = some res
   simpa using hr
 · rename_i m n nl l
   exact JqZ _ _ k res hl hr
 · cases hr
def Jhs : List PV -> List Ent -> (Res -> Option Res) -> Option Res
 | [.ro 5 true true [], .sc (.string s)], [], k => bif Nat.ble s.size 65535 then k ⟨.ow 5 16 [] 0 (apT [] s).length none, [], [.vec false 5 false (apT [] s)]⟩ else none
 | [.ow 5 0 [] 0 m none, .sc (.string s)], [.vec false 5 nl l], k => bif okL m l && Nat.ble s.size 65535 then k ⟨.ow 5 16 [] 0 (apT l s).length none, [.dead], [.vec false 5 false (apT l s)]⟩ else none
 | _, _, _ => none
def Js6 : Sig := { own := [true], run := Jhs }
theorem Jq2 : Jh tau Try.prog 97 Js6 := Jh.mk' fun xs es k res hl hr => by
 change Jhs xs es k = some res at hr
 unfold Jhs at hr
 split at hr
 · rename_i s
   obtain ⟨hc, hr⟩ := JI hr
   rw [Nat.ble_eq] at hc
   have hob : (Jg s).length = s.size := by rw [Wb]; simp
   have hg : g97 0 s k = some res := by
    unfold g97
    rw [Jj (by simp only [zi, decide_eq_false_iff_not]; omega), Ja (by simp [Jf, hob]; omega), hob]
    rw [XA, W9, Y7] at hr
    simp only [List.nil_append, JO, List.length_append, JD, Vl, List.length_cons, List.length_nil, ← Wb] at hr
    rw [← hr, hob]
    simp only [id, Ja0, Jg0, List.cons_append, List.nil_append, Nat.zero_add, Nat.reduceAdd]
   exact Qj Jq Js3 Js Jw6 Jw7 Jow [] 0 0 (JBf 0) hl rfl ((e97 0 s k).trans hg)
 · rename_i m s nl l
   exact Jq0 _ _ k res hl hr
 · cases hr
def N93 : Nat := 34
def F93 : Fns := JH 130 JqX (JH 92 Js1 (JH 35 JwX (F0)))
theorem JlI : Jy tau Try.prog F93 := (((JE).add JwY JsM).add JqY Jwt).add Js0 Jws
def V6 : Code := Qn (Try.f93.body.get!) [1, 0]
def Yc : Nm := [(0, .any), (3, .own), (4, .any)]
def Y9 : Nm := [(2, .any)]
def Jc3 : An := (.seq .leaf (.seq .leaf (.seq .leaf (.seq (.seq .leaf (.cond (.seq .leaf (.seq .leaf .leaf)) .leaf)) (.seq .leaf .leaf)))))
def Jox (r0 : JkY) : An := (.seq .leaf (.ssum Yc N93 (Jc3) r0))
def V7 (f : Nat) (rc : Bool -> Bool -> List PV -> Nat -> Int -> List PV -> Option Res) (k0 : Nat -> List PV -> Option Res) (v0 v1 : Bool) (v2 : List PV) (v3 : Nat) (v4 : Int) (v5 : List PV) : Option Res := bif decide (v4 < zi v2.length) then bif decide (0 <= v4) && decide (v4 < zi v2.length) && (PV.isSt 113 #[Field.mk "Kind" 3 0 false "" "" 0, Field.mk "N" 3 1 false "" "" 8, Field.mk "S" 9 2 false "" "" 16].size (v2.getD v4.toNat PV.top) && (PV.isInt IntKind.i64 (PV.child 0 (v2.getD v4.toNat PV.top)) && (PV.isInt IntKind.i64 (PV.child (0 + 1) (v2.getD v4.toNat PV.top)) && ((PV.child (0 + 1 + 1) (v2.getD v4.toNat PV.top)).isStr && true)))) && true then bif okZ false (List.take v3 v5) then bif decide (0 <= v4) && decide (v4 < zi v2.length) && (PV.isSt 113 #[Field.mk "Kind" 3 0 false "" "" 0, Field.mk "N" 3 1 false "" "" 8, Field.mk "S" 9 2 false "" "" 16].size (v2.getD v4.toNat PV.top) && (PV.isInt IntKind.i64 (PV.child 0 (v2.getD v4.toNat PV.top)) && (PV.isInt IntKind.i64 (PV.child (0 + 1) (v2.getD v4.toNat PV.top)) && ((PV.child (0 + 1 + 1) (v2.getD v4.toNat PV.top)).isStr && true)))) && true then bif okZ false (List.take (apY (List.take v3 v5) (PV.child 0 (v2.getD v4.toNat PV.top)).int).length (apY (List.take v3 v5) (PV.child 0 (v2.getD v4.toNat PV.top)).int)) then bif decide (0 <= v4) && decide (v4 < zi v2.length) && (PV.isSt 113 #[Field.mk "Kind" 3 0 false "" "" 0, Field.mk "N" 3 1 false "" "" 8, Field.mk "S" 9 2 false "" "" 16].size (v2.getD v4.toNat PV.top) && (PV.isInt IntKind.i64 (PV.child 0 (v2.getD v4.toNat PV.top)) && (PV.isInt IntKind.i64 (PV.child (0 + 1) (v2.getD v4.toNat PV.top)) && ((PV.child (0 + 1 + 1) (v2.getD v4.toNat PV.top)).isStr && true)))) && true then bif okZ false (apI (List.take (apY (List.take v3 v5) (PV.child 0 (v2.getD v4.toNat PV.top)).int).length (apY (List.take v3 v5) (PV.child 0 (v2.getD v4.toNat PV.top)).int)) (PV.child (0 + 1) (v2.getD v4.toNat PV.top)).int) && (PV.child (0 + 1 + 1) (v2.getD v4.toNat PV.top)).str.size.ble 65535 then rc v0 v1 v2 ((apT (apI (List.take (apY (List.take v3 v5) (PV.child 0 (v2.getD v4.toNat PV.top)).int).length (apY (List.take v3 v5) (PV.child 0 (v2.getD v4.toNat PV.top)).int)) (PV.child (0 + 1) (v2.getD v4.toNat PV.top)).int) (PV.child (0 + 1 + 1) (v2.getD v4.toNat PV.top)).str).length) (IntKind.i64.wrap (v4 + 1)) (apT (apI (List.take (apY (List.take v3 v5) (PV.child 0 (v2.getD v4.toNat PV.top)).int).length (apY (List.take v3 v5) (PV.child 0 (v2.getD v4.toNat PV.top)).int)) (PV.child (0 + 1) (v2.getD v4.toNat PV.top)).int) (PV.child (0 + 1 + 1) (v2.getD v4.toNat PV.top)).str) else none else none else none else none else none else none else k0 v3 v5
def Vo (f : Nat) (k0 : Nat -> List PV -> Option Res) : Nat -> Bool -> Bool -> List PV -> Nat -> Int -> List PV -> Option Res
 | 0, _, _, _, _, _, _ => none
 | n + 1, v0, v1, v2, v3, v4, v5 => V7 f (Vo f k0 n) k0 v0 v1 v2 v3 v4 v5
theorem Joy (f : Nat) (k : Kont) (n : Nat) (v0 v1 : Bool) (v2 : List PV) (v3 : Nat) (v4 : Int) (v5 : List PV) : J7 tau 0 Yc (hasLabel V6) (fun l s k => JV tau F93 0 0 V6 (Jc3 ) l s k) (n + 1) 0 (Jc Yc N93 [.ro 113 v0 v1 v2, .ow 5 560 [] 0 v3 none, .sc (.int .i64 v4)] [(560, .vec false 5 false v5)]) (Jt tau 0 Y9 k) = V7 f (fun v0 v1 v2 v3 v4 v5 => J7 tau 0 Yc (hasLabel V6) (fun l s k => JV tau F93 0 0 V6 (Jc3 ) l s k) n 0 (Jc Yc N93 [.ro 113 v0 v1 v2, .ow 5 560 [] 0 v3 none, .sc (.int .i64 v4)] [(560, .vec false 5 false v5)]) (Jt tau 0 Y9 k)) (fun x0 x1 => k Ex.ret (Jc Y9 N93 [.ow 5 560 [] 0 x0 none] [(560, .vec false 5 false x1)])) v0 v1 v2 v3 v4 v5 := by kernel_rfl
theorem Ji5 (f : Nat) (k : Kont) : ∀ (n : Nat) (v0 v1 : Bool) (v2 : List PV) (v3 : Nat) (v4 : Int) (v5 : List PV), J7 tau 0 Yc (hasLabel V6) (fun l s k => JV tau F93 0 0 V6 (Jc3 ) l s k) n 0 (Jc Yc N93 [.ro 113 v0 v1 v2, .ow 5 560 [] 0 v3 none, .sc (.int .i64 v4)] [(560, .vec false 5 false v5)]) (Jt tau 0 Y9 k) = Vo f (fun x0 x1 => k Ex.ret (Jc Y9 N93 [.ow 5 560 [] 0 x0 none] [(560, .vec false 5 false x1)])) n v0 v1 v2 v3 v4 v5 | 0, _, _, _, _, _, _ => rfl | n + 1, v0, v1, v2, v3, v4, v5 => (Joy f k n v0 v1 v2 v3 v4 v5).trans (congrArg (fun r => V7 f r (fun x0 x1 => k Ex.ret (Jc Y9 N93 [.ow 5 560 [] 0 x0 none] [(560, .vec false 5 false x1)])) v0 v1 v2 v3 v4 v5) (by funext v0 v1 v2 v3 v4 v5; exact Ji5 f k n v0 v1 v2 v3 v4 v5))
def JbT (f : Nat) : Nat -> List PV -> List (Nat × Ent) -> Kont -> Option Res
 | 0, [.ro 113 v0 v1 v2, .ow 5 560 [] 0 v3 none,
 PV.sc
  (Value.int IntKind.i64
   v4)], [(560, .vec false 5 false v5)], k => Vo f (fun x0 x1 => k Ex.ret (Jc Y9 N93 [.ow 5 560 [] 0 x0 none] [(560, .vec false 5 false x1)])) f v0 v1 v2 v3 v4 v5
 | _, _, _, _ => none
theorem Js7 (f : Nat) : Je V6 Jc3 = [] := by kernel_rfl
theorem Js8 (f : Nat) : (Item.s V6 Yc N93 (JbT f)).Ok tau Try.prog 0 := W4 Jq JlI Js (x := Jc3) (nm2 := Y9) (Jl _ _ (by rw [Js7 f]; intro q hq; cases hq)) fun l vs hp k res hr => by
 unfold JbT at hr
 split at hr
 · exact ⟨f, 0, (Ji5 f _ f _ _ _ _ _ _ ).trans hr⟩
 · cases hr
def g93 (f : Nat) (o_z o_f : Bool) (o : List PV) (k : Res -> Option Res) : Option Res := bif okZ true [] then bif decide (0 < zi o.length) then bif decide (0 < zi o.length) && (PV.isSt 113 #[Field.mk "Kind" 3 0 false "" "" 0, Field.mk "N" 3 1 false "" "" 8, Field.mk "S" 9 2 false "" "" 16].size (o.getD (Int.toNat 0) PV.top) && (PV.isInt IntKind.i64 (PV.child 0 (o.getD 0 PV.top)) && (PV.isInt IntKind.i64 (PV.child (0 + 1) (o.getD 0 PV.top)) && ((PV.child (0 + 1 + 1) (o.getD 0 PV.top)).isStr && true)))) && true then bif okZ false (List.take (apY [] (zi o.length)).length (apY [] (zi o.length))) then bif decide (0 < zi o.length) && (PV.isSt 113 #[Field.mk "Kind" 3 0 false "" "" 0, Field.mk "N" 3 1 false "" "" 8, Field.mk "S" 9 2 false "" "" 16].size (o.getD (Int.toNat 0) PV.top) && (PV.isInt IntKind.i64 (PV.child 0 (o.getD 0 PV.top)) && (PV.isInt IntKind.i64 (PV.child (0 + 1) (o.getD 0 PV.top)) && ((PV.child (0 + 1 + 1) (o.getD 0 PV.top)).isStr && true)))) && true then bif okZ false (List.take (apY (List.take (apY [] (zi o.length)).length (apY [] (zi o.length))) (PV.child 0 (o.getD 0 PV.top)).int).length (apY (List.take (apY [] (zi o.length)).length (apY [] (zi o.length))) (PV.child 0 (o.getD 0 PV.top)).int)) then bif decide (0 < zi o.length) && (PV.isSt 113 #[Field.mk "Kind" 3 0 false "" "" 0, Field.mk "N" 3 1 false "" "" 8, Field.mk "S" 9 2 false "" "" 16].size (o.getD (Int.toNat 0) PV.top) && (PV.isInt IntKind.i64 (PV.child 0 (o.getD 0 PV.top)) && (PV.isInt IntKind.i64 (PV.child (0 + 1) (o.getD 0 PV.top)) && ((PV.child (0 + 1 + 1) (o.getD 0 PV.top)).isStr && true)))) && true then bif okZ false (apI (List.take (apY (List.take (apY [] (zi o.length)).length (apY [] (zi o.length))) (PV.child 0 (o.getD 0 PV.top)).int).length (apY (List.take (apY [] (zi o.length)).length (apY [] (zi o.length))) (PV.child 0 (o.getD 0 PV.top)).int)) (PV.child (0 + 1) (o.getD 0 PV.top)).int) && (PV.child (0 + 1 + 1) (o.getD 0 PV.top)).str.size.ble 65535 then Vo f (fun x0_0 x1_0 => k (Res.mk (.ro 5 false false (List.take x0_0 x1_0)) [] [])) f o_z o_f o ((apT (apI (List.take (apY (List.take (apY [] (zi o.length)).length (apY [] (zi o.length))) (PV.child 0 (o.getD 0 PV.top)).int).length (apY (List.take (apY [] (zi o.length)).length (apY [] (zi o.length))) (PV.child 0 (o.getD 0 PV.top)).int)) (PV.child (0 + 1) (o.getD 0 PV.top)).int) (PV.child (0 + 1 + 1) (o.getD 0 PV.top)).str).length) (IntKind.i64.wrap (0 + 1)) (apT (apI (List.take (apY (List.take (apY [] (zi o.length)).length (apY [] (zi o.length))) (PV.child 0 (o.getD 0 PV.top)).int).length (apY (List.take (apY [] (zi o.length)).length (apY [] (zi o.length))) (PV.child 0 (o.getD 0 PV.top)).int)) (PV.child (0 + 1) (o.getD 0 PV.top)).int) (PV.child (0 + 1 + 1) (o.getD 0 PV.top)).str) else none else none else none else none else none else none else k (Res.mk (.ro 5 false false (List.take (apY [] (zi o.length)).length (apY [] (zi o.length)))) [] []) else none
theorem e93 (f : Nat) (o_z o_f : Bool) (o : List PV) (k : Res -> Option Res) : JL tau F93 Try.f93 (Try.f93.body.get!) (Jox (JbT f)) [.ro] 0 [.ro 113 o_z o_f o] [] k = g93 f o_z o_f o k := by kernel_rfl
theorem JBg (f : Nat) : Je (Try.f93.body.get!) (Jox (JbT f)) = [.s V6 Yc N93 (JbT f)] := by kernel_rfl
theorem JBh (f : Nat) : ∀ q ∈ Je (Try.f93.body.get!) (Jox (JbT f)), q.Ok tau Try.prog 0 := by
 rw [JBg f]; simp only [List.forall_mem_cons, List.not_mem_nil, false_implies, implies_true, and_true]; exact Js8 f
theorem Jxb : Try.prog.funcs[93]? = some Try.f93 := by kernel_rfl
theorem Jxc : Try.f93.body = some (Try.f93.body.get!) := by kernel_rfl
theorem JBi : Enters Try.prog 93 := enters_of Jxb (by kernel_rfl) Jxc
def N98 : Nat := 34
def F98 : Fns := JH 105 JlE (JH 97 Jw0 (JH 53 JwZ (F0)))
theorem JlJ : Jy tau Try.prog F98 := (((JE).add JqZ JsT).add Jq0 JwQ).add JlF JqR
def Jc4 : Code := Qn (Try.f98.body.get!) [1, 1, 0, 1, 0, 0]
def Yd : Nm := [(0, .any), (3, .own), (4, .any)]
def Za : Nm := [(3, .any)]
def JfL : An := (.seq (.seq .leaf (.cond .leaf .leaf)) (.seq (.block none .leaf) .leaf))
def Joz (r0 : QV) : An := (.seq .leaf (.seq .leaf (.seq (.seq .leaf (.block none (.sum Yd N98 r0))) (.seq .leaf .leaf))))
def V8 (f : Nat) (rc : Bool -> Bool -> List PV -> Nat -> Int -> List PV -> Option Res) (k0 : Nat -> List PV -> Option Res) (v0 v1 : Bool) (v2 : List PV) (v3 : Nat) (v4 : Int) (v5 : List PV) : Option Res := bif decide (v4 < zi v2.length) then bif decide (0 <= v4) && decide (v4 < zi v2.length) && (PV.isSt 113 #[Field.mk "Kind" 3 0 false "" "" 0, Field.mk "N" 3 1 false "" "" 8, Field.mk "S" 9 2 false "" "" 16].size (v2.getD v4.toNat PV.top) && (PV.isInt IntKind.i64 (PV.child 0 (v2.getD v4.toNat PV.top)) && (PV.isInt IntKind.i64 (PV.child (0 + 1) (v2.getD v4.toNat PV.top)) && ((PV.child (0 + 1 + 1) (v2.getD v4.toNat PV.top)).isStr && true)))) && true then bif okL v3 v5 then bif decide (0 <= v4) && decide (v4 < zi v2.length) && (PV.isSt 113 #[Field.mk "Kind" 3 0 false "" "" 0, Field.mk "N" 3 1 false "" "" 8, Field.mk "S" 9 2 false "" "" 16].size (v2.getD v4.toNat PV.top) && (PV.isInt IntKind.i64 (PV.child 0 (v2.getD v4.toNat PV.top)) && (PV.isInt IntKind.i64 (PV.child (0 + 1) (v2.getD v4.toNat PV.top)) && ((PV.child (0 + 1 + 1) (v2.getD v4.toNat PV.top)).isStr && true)))) && true then bif okL (apY v5 (PV.child 0 (v2.getD v4.toNat PV.top)).int).length (apY v5 (PV.child 0 (v2.getD v4.toNat PV.top)).int) then bif decide (0 <= v4) && decide (v4 < zi v2.length) && (PV.isSt 113 #[Field.mk "Kind" 3 0 false "" "" 0, Field.mk "N" 3 1 false "" "" 8, Field.mk "S" 9 2 false "" "" 16].size (v2.getD v4.toNat PV.top) && (PV.isInt IntKind.i64 (PV.child 0 (v2.getD v4.toNat PV.top)) && (PV.isInt IntKind.i64 (PV.child (0 + 1) (v2.getD v4.toNat PV.top)) && ((PV.child (0 + 1 + 1) (v2.getD v4.toNat PV.top)).isStr && true)))) && true then bif okL (apI (apY v5 (PV.child 0 (v2.getD v4.toNat PV.top)).int) (PV.child (0 + 1) (v2.getD v4.toNat PV.top)).int).length (apI (apY v5 (PV.child 0 (v2.getD v4.toNat PV.top)).int) (PV.child (0 + 1) (v2.getD v4.toNat PV.top)).int) && (PV.child (0 + 1 + 1) (v2.getD v4.toNat PV.top)).str.size.ble 65535 then rc v0 v1 v2 ((apT (apI (apY v5 (PV.child 0 (v2.getD v4.toNat PV.top)).int) (PV.child (0 + 1) (v2.getD v4.toNat PV.top)).int) (PV.child (0 + 1 + 1) (v2.getD v4.toNat PV.top)).str).length) (IntKind.i64.wrap (v4 + 1)) (apT (apI (apY v5 (PV.child 0 (v2.getD v4.toNat PV.top)).int) (PV.child (0 + 1) (v2.getD v4.toNat PV.top)).int) (PV.child (0 + 1 + 1) (v2.getD v4.toNat PV.top)).str) else none else none else none else none else none else none else k0 v3 v5
def Vp (f : Nat) (k0 : Nat -> List PV -> Option Res) : Nat -> Bool -> Bool -> List PV -> Nat -> Int -> List PV -> Option Res
 | 0, _, _, _, _, _, _ => none
 | n + 1, v0, v1, v2, v3, v4, v5 => V8 f (Vp f k0 n) k0 v0 v1 v2 v3 v4 v5
theorem JoA (f : Nat) (k : Kont) (n : Nat) (v0 v1 : Bool) (v2 : List PV) (v3 : Nat) (v4 : Int) (v5 : List PV) : Jp tau 0 Yd (fun s k => ev tau F98 0 0 Jc4 (JfL ) s k) (n + 1) (Jc Yd N98 [.ro 113 v0 v1 v2, .ow 5 560 [] 0 v3 none, .sc (.int .i64 v4)] [(560, .vec false 5 false v5)]) (Jt tau 0 Za k) = V8 f (fun v0 v1 v2 v3 v4 v5 => Jp tau 0 Yd (fun s k => ev tau F98 0 0 Jc4 (JfL ) s k) n (Jc Yd N98 [.ro 113 v0 v1 v2, .ow 5 560 [] 0 v3 none, .sc (.int .i64 v4)] [(560, .vec false 5 false v5)]) (Jt tau 0 Za k)) (fun x0 x1 => k (Ex.exit 0) (Jc Za N98 [.ow 5 560 [] 0 x0 none] [(560, .vec false 5 false x1)])) v0 v1 v2 v3 v4 v5 := by kernel_rfl
theorem Ji6 (f : Nat) (k : Kont) : ∀ (n : Nat) (v0 v1 : Bool) (v2 : List PV) (v3 : Nat) (v4 : Int) (v5 : List PV), Jp tau 0 Yd (fun s k => ev tau F98 0 0 Jc4 (JfL ) s k) n (Jc Yd N98 [.ro 113 v0 v1 v2, .ow 5 560 [] 0 v3 none, .sc (.int .i64 v4)] [(560, .vec false 5 false v5)]) (Jt tau 0 Za k) = Vp f (fun x0 x1 => k (Ex.exit 0) (Jc Za N98 [.ow 5 560 [] 0 x0 none] [(560, .vec false 5 false x1)])) n v0 v1 v2 v3 v4 v5 | 0, _, _, _, _, _, _ => rfl | n + 1, v0, v1, v2, v3, v4, v5 => (JoA f k n v0 v1 v2 v3 v4 v5).trans (congrArg (fun r => V8 f r (fun x0 x1 => k (Ex.exit 0) (Jc Za N98 [.ow 5 560 [] 0 x0 none] [(560, .vec false 5 false x1)])) v0 v1 v2 v3 v4 v5) (by funext v0 v1 v2 v3 v4 v5; exact Ji6 f k n v0 v1 v2 v3 v4 v5))
def JbU (f : Nat) : List PV -> List (Nat × Ent) -> Kont -> Option Res
 | [.ro 113 v0 v1 v2, .ow 5 560 [] 0 v3 none,
 PV.sc
  (Value.int IntKind.i64
   v4)], [(560, .vec false 5 false v5)], k => Vp f (fun x0 x1 => k (Ex.exit 0) (Jc Za N98 [.ow 5 560 [] 0 x0 none] [(560, .vec false 5 false x1)])) f v0 v1 v2 v3 v4 v5
 | _, _, _ => none
theorem Js9 (f : Nat) : Je Jc4 JfL = [] := by kernel_rfl
theorem Jta (f : Nat) : (Item.l Jc4 Yd N98 (JbU f)).Ok tau Try.prog 0 := JJ Jq JlJ Js (x := JfL) (nm2 := Za) (Jl _ _ (by rw [Js9 f]; intro q hq; cases hq)) fun vs hp k res hr => by
 unfold JbU at hr
 split at hr
 · exact ⟨f, 0, (Ji6 f _ f _ _ _ _ _ _ ).trans hr⟩
 · cases hr
def g98 (f : Nat) (o_z o_f : Bool) (o : List PV) (k : Res -> Option Res) : Option Res := Vp f (fun x0_0 x1_0 => k (Res.mk (.ow 5 16 [] 0 x0_0 none) [] [.vec false 5 false x1_0])) f o_z o_f o ((apY [] (zi o.length)).length) (0) (apY [] (zi o.length))
theorem e98 (f : Nat) (o_z o_f : Bool) (o : List PV) (k : Res -> Option Res) : JL tau F98 Try.f98 (Try.f98.body.get!) (Joz (JbU f)) [] 0 [.ro 113 o_z o_f o] [] k = g98 f o_z o_f o k := by kernel_rfl
theorem JBj (f : Nat) : Je (Try.f98.body.get!) (Joz (JbU f)) = [.l Jc4 Yd N98 (JbU f)] := by kernel_rfl
theorem JBk (f : Nat) : ∀ q ∈ Je (Try.f98.body.get!) (Joz (JbU f)), q.Ok tau Try.prog 0 := by
 rw [JBj f]; simp only [List.forall_mem_cons, List.not_mem_nil, false_implies, implies_true, and_true]; exact Jta f
theorem Jxd : Try.prog.funcs[98]? = some Try.f98 := by kernel_rfl
theorem Jxe : Try.f98.body = some (Try.f98.body.get!) := by kernel_rfl
theorem Jxf : Enters Try.prog 98 := enters_of Jxd (by kernel_rfl) Jxe
-- FN delta.OpBytes | ref8.OpBytes
def Zb (c : CV) : List Int := [IntKind.u8.wrap c.kd] ++ (JS c.n ++ Qm c.s)
def Qc (l : List PV) : List Int := l.flatMap fun p => Zb (cv p)
def Jht (l : List PV) : List Int := [IntKind.u8.wrap (zi l.length)] ++ Qc l
def opB : List PV -> List Int := hid Jht
theorem G4 (l : List PV) : opB l = Jht l := by rw [opB, hid_eq]
theorem WG (c : CV) : (Zb c).length = c.s.size + 11 := by simp [Zb]; omega
theorem JlK (c : CV) : ∀ x ∈ Zb c, 0 <= x /\ x < 256 := by
 intro x hx
 simp only [Zb, List.mem_append, List.mem_singleton] at hx
 rcases hx with rfl | h | h
 · exact Ya _
 · exact Yb _ x h
 · exact JfJ _ x h
theorem Jtb (l : List PV) : ∀ x ∈ opB l, 0 <= x /\ x < 256 := by
 intro x hx
 rw [G4] at hx
 rcases List.mem_append.1 hx with h | h
 · rw [List.mem_singleton.1 h]; exact Ya _
 · obtain ⟨p, _, h⟩ := List.mem_flatMap.1 h
   exact JlK _ x h
def cBy : List PV -> Bool := hid fun l => l.all isCp && (l.all (fun p => decide ((cv p).s.size <= 65535)) && decide (l.length <= 1000))
theorem ZS {l : List PV} : cBy l = true ↔ l.all isCp = true /\ (∀ p ∈ l, (cv p).s.size <= 65535) /\ l.length <= 1000 := by
 rw [cBy, hid_eq]; simp only [Bool.and_eq_true, List.all_eq_true, decide_eq_true_eq]
theorem Vq (m : Nat) : ∀ l : List PV, (∀ p ∈ l, (cv p).s.size <= m) -> (Qc l).length <= l.length * (m + 11)
 | [], _ => by simp [Qc]
 | p :: l, h => by
  have h1 := h p List.mem_cons_self
  have h2 := Vq m l fun x hx => h x (List.mem_cons_of_mem _ hx)
  simp only [Qc, List.flatMap_cons, List.length_append, WG, List.length_cons, Nat.add_mul] at h2 ⊢
  omega
theorem Jep (L : List PV) (p : PV) : apT (apI (apY L (PV.child 0 p).int) (PV.child (0 + 1) p).int) (PV.child (0 + 1 + 1) p).str = L ++ pu .u8 (Zb (cv p)) := by
 rw [XA, Y8, Vm]
 show _ = L ++ pu .u8 ([IntKind.u8.wrap (PV.child 0 p).int] ++ (JS (PV.child (0 + 1) p).int ++ Qm (PV.child (0 + 1 + 1) p).str))
 simp only [JO, List.append_assoc]
theorem WH (L : List PV) (n : Int) : (apY L n).length = L.length + 1 := by rw [Vm]; simp
theorem ZT (L : List PV) (n : Int) : (apI L n).length = L.length + 8 := by rw [Y8]; simp
theorem Ws {l : List PV} (h : l.length <= 1000000000) : okL l.length l = true := by
 rw [Jem, Bool.and_eq_true, Nat.beq_eq, Nat.ble_eq]; exact ⟨rfl, h⟩
theorem Zc {l : List PV} (h : l.length <= 1000000000) : okZ false l = true := by rw [Vn]; exact Wz.2 ⟨fun h => (by cases h), h⟩
theorem Jq3 (l : List PV) (h1 : l.all isCp = true) (h3 : ∀ p ∈ l, (cv p).s.size <= 65535) (h2 : l.length <= 1000) (f : Nat) (k0 : Nat -> List PV -> Option Res) (z fl : Bool) : ∀ (d i n : Nat) (L : List PV), i + d = l.length -> d < n -> L.length <= 1 + i * 65546 ->
  Vo f k0 n z fl l L.length (i : Int) L = k0 (L ++ pu .u8 (Qc (l.drop i))).length (L ++ pu .u8 (Qc (l.drop i)))
 | 0, i, n + 1, L, hi, hn, hL => by
   rw [List.drop_of_length_le (by omega)]
   simp only [Vo, V7, Qc, List.flatMap_nil, Jg0, List.append_nil]
   exact Jj (by simp [zi]; omega)
 | d + 1, i, n + 1, L, hi, hn, hL => by
   have g1 : ((i : Int)).toNat = i := by omega
   have w1 : IntKind.i64.wrap ((i : Int) + 1) = ((i + 1 : Nat) : Int) := by rw [wrap_i64 (by omega) (by omega)]; omega
   have hro : (decide (0 <= (i : Int)) && decide ((i : Int) < zi l.length) && (PV.isSt 113 #[Field.mk "Kind" 3 0 false "" "" 0, Field.mk "N" 3 1 false "" "" 8, Field.mk "S" 9 2 false "" "" 16].size (l.getD i PV.top) && (PV.isInt IntKind.i64 (PV.child 0 (l.getD i PV.top)) && (PV.isInt IntKind.i64 (PV.child (0 + 1) (l.getD i PV.top)) && ((PV.child (0 + 1 + 1) (l.getD i PV.top)).isStr && true)))) && true) = true := by
    have hq : (PV.isSt 113 #[Field.mk "Kind" 3 0 false "" "" 0, Field.mk "N" 3 1 false "" "" 8, Field.mk "S" 9 2 false "" "" 16].size (l.getD i PV.top) && (PV.isInt IntKind.i64 (PV.child 0 (l.getD i PV.top)) && (PV.isInt IntKind.i64 (PV.child (0 + 1) (l.getD i PV.top)) && ((PV.child (0 + 1 + 1) (l.getD i PV.top)).isStr && true)))) = true := XM (WU h1 (by omega))
    rw [hq]; simp [zi]; omega
   have hd := Q9 (l := l) (i := i) (by omega)
   have hmem : l.getD i .top ∈ l := by rw [List.getD_eq_getElem?_getD, List.getElem?_eq_getElem (by omega)]; exact List.getElem_mem (by omega)
   have hsz := h3 _ hmem
   have hs2 : (PV.child (0 + 1 + 1) (l.getD i PV.top)).str.size.ble 65535 = true := Nat.ble_eq.symm ▸ hsz
   have hi2 : i * 65546 <= 999 * 65546 := Nat.mul_le_mul_right _ (by omega)
   simp only [Vo, V7, g1, w1, List.take_length]
   refine (Ja (by simp [zi]; omega)).trans ((Ja hro).trans ((Ja (Zc (by omega))).trans ((Ja hro).trans ((Ja (Zc (by rw [WH]; omega))).trans ((Ja hro).trans ((Ja (by rw [Zc (by rw [ZT, WH]; omega), hs2]; rfl)).trans ?_))))))
   rw [Jep]
   refine (Jq3 l h1 h3 h2 f k0 z fl d (i + 1) n _ (by omega) (by omega) (by rw [List.length_append, JD, WG]; omega)).trans ?_
   rw [hd]
   simp only [Qc, List.flatMap_cons, JO, List.append_assoc]
theorem Jq4 (l : List PV) (h1 : l.all isCp = true) (h3 : ∀ p ∈ l, (cv p).s.size <= 65535) (h2 : l.length <= 1000) (f : Nat) (k0 : Nat -> List PV -> Option Res) (z fl : Bool) : ∀ (d i n : Nat) (L : List PV), i + d = l.length -> d < n -> L.length <= 1 + i * 65546 ->
  Vp f k0 n z fl l L.length (i : Int) L = k0 (L ++ pu .u8 (Qc (l.drop i))).length (L ++ pu .u8 (Qc (l.drop i)))
 | 0, i, n + 1, L, hi, hn, hL => by
   rw [List.drop_of_length_le (by omega)]
   simp only [Vp, V8, Qc, List.flatMap_nil, Jg0, List.append_nil]
   exact Jj (by simp [zi]; omega)
 | d + 1, i, n + 1, L, hi, hn, hL => by
   have g1 : ((i : Int)).toNat = i := by omega
   have w1 : IntKind.i64.wrap ((i : Int) + 1) = ((i + 1 : Nat) : Int) := by rw [wrap_i64 (by omega) (by omega)]; omega
   have hro : (decide (0 <= (i : Int)) && decide ((i : Int) < zi l.length) && (PV.isSt 113 #[Field.mk "Kind" 3 0 false "" "" 0, Field.mk "N" 3 1 false "" "" 8, Field.mk "S" 9 2 false "" "" 16].size (l.getD i PV.top) && (PV.isInt IntKind.i64 (PV.child 0 (l.getD i PV.top)) && (PV.isInt IntKind.i64 (PV.child (0 + 1) (l.getD i PV.top)) && ((PV.child (0 + 1 + 1) (l.getD i PV.top)).isStr && true)))) && true) = true := by
    have hq : (PV.isSt 113 #[Field.mk "Kind" 3 0 false "" "" 0, Field.mk "N" 3 1 false "" "" 8, Field.mk "S" 9 2 false "" "" 16].size (l.getD i PV.top) && (PV.isInt IntKind.i64 (PV.child 0 (l.getD i PV.top)) && (PV.isInt IntKind.i64 (PV.child (0 + 1) (l.getD i PV.top)) && ((PV.child (0 + 1 + 1) (l.getD i PV.top)).isStr && true)))) = true := XM (WU h1 (by omega))
    rw [hq]; simp [zi]; omega
   have hd := Q9 (l := l) (i := i) (by omega)
   have hmem : l.getD i .top ∈ l := by rw [List.getD_eq_getElem?_getD, List.getElem?_eq_getElem (by omega)]; exact List.getElem_mem (by omega)
   have hsz := h3 _ hmem
   have hs2 : (PV.child (0 + 1 + 1) (l.getD i PV.top)).str.size.ble 65535 = true := Nat.ble_eq.symm ▸ hsz
   have hi2 : i * 65546 <= 999 * 65546 := Nat.mul_le_mul_right _ (by omega)
   simp only [Vp, V8, g1, w1, List.take_length]
   refine (Ja (by simp [zi]; omega)).trans ((Ja hro).trans ((Ja (Ws (by omega))).trans ((Ja hro).trans ((Ja (Ws (by rw [WH]; omega))).trans ((Ja hro).trans ((Ja (by rw [Ws (by rw [ZT, WH]; omega), hs2]; rfl)).trans ?_))))))
   rw [Jep]
   refine (Jq4 l h1 h3 h2 f k0 z fl d (i + 1) n _ (by omega) (by omega) (by rw [List.length_append, JD, WG]; omega)).trans ?_
   rw [hd]
   simp only [Qc, List.flatMap_cons, JO, List.append_assoc]
theorem JfM {l : List PV} : apY [] (zi l.length) = pu .u8 [IntKind.u8.wrap (zi l.length)] := by rw [Vm]; rfl
def Jhu : List PV -> List Ent -> (Res -> Option Res) -> Option Res
 | [.ro 113 z f l], [], k => bif cBy l then k ⟨.ro 5 false false (pu .u8 (opB l)), [], []⟩ else none
 | _, _, _ => none
def Jxg : Sig := { own := [], run := Jhu }
theorem Jtc (z f : Bool) (l : List PV) (h : cBy l = true) (k : Res -> Option Res) : g93 1010 z f l k = k ⟨.ro 5 false false (pu .u8 (opB l)), [], []⟩ := by
 obtain ⟨h1, h3, h2⟩ := ZS.1 h
 have hY := JfM (l := l)
 rw [G4]
 unfold g93
 simp only [List.take_length]
 refine (Ja (by rw [Vn]; rfl)).trans ?_
 cases l with
 | nil => exact (Jj (by simp [zi])).trans (by rw [hY]; rfl)
 | cons p r =>
  have hq : (PV.isSt 113 #[Field.mk "Kind" 3 0 false "" "" 0, Field.mk "N" 3 1 false "" "" 8, Field.mk "S" 9 2 false "" "" 16].size ((p :: r).getD 0 PV.top) && (PV.isInt IntKind.i64 (PV.child 0 ((p :: r).getD 0 PV.top)) && (PV.isInt IntKind.i64 (PV.child (0 + 1) ((p :: r).getD 0 PV.top)) && ((PV.child (0 + 1 + 1) ((p :: r).getD 0 PV.top)).isStr && true)))) = true := by
   have := XM (WU h1 (i := 0) (by simp))
   exact this
  have hro : (decide (0 < zi (p :: r).length) && (PV.isSt 113 #[Field.mk "Kind" 3 0 false "" "" 0, Field.mk "N" 3 1 false "" "" 8, Field.mk "S" 9 2 false "" "" 16].size ((p :: r).getD 0 PV.top) && (PV.isInt IntKind.i64 (PV.child 0 ((p :: r).getD 0 PV.top)) && (PV.isInt IntKind.i64 (PV.child (0 + 1) ((p :: r).getD 0 PV.top)) && ((PV.child (0 + 1 + 1) ((p :: r).getD 0 PV.top)).isStr && true)))) && true) = true := by
   rw [hq]; simp [zi]
  have hsz := h3 p List.mem_cons_self
  have hs2 : (PV.child (0 + 1 + 1) ((p :: r).getD 0 PV.top)).str.size.ble 65535 = true := Nat.ble_eq.symm ▸ hsz
  have l1 : (apY [] (zi (p :: r).length)).length = 1 := by rw [WH]; rfl
  refine (Ja (by simp [zi])).trans ((Ja hro).trans ((Ja (Zc (by rw [l1]; decide))).trans ((Ja hro).trans ((Ja (Zc (by rw [WH, l1]; decide))).trans ((Ja hro).trans ((Ja (by rw [Zc (by rw [ZT, WH, l1]; decide), hs2]; rfl)).trans ?_))))))
  rw [Jep]
  have w1 : IntKind.i64.wrap (0 + 1) = ((1 : Nat) : Int) := by decide
  rw [w1]
  refine (Jq3 (p :: r) h1 h3 h2 1010 _ z f r.length 1 1010 _ (by simp; omega) (by simp at h2; omega) (by rw [List.length_append, JD, WG, l1]; have : (cv ((p :: r).getD 0 PV.top)).s.size <= 65535 := hsz; omega)).trans ?_
  rw [List.take_length, hY]
  simp only [Jht, Qc, List.flatMap_cons, JO, List.append_assoc, List.drop_succ_cons, List.drop_zero, List.getD_cons_zero]
theorem Jxh : Jh tau Try.prog 93 Jxg := Jh.mk' fun xs es k res hl hr => by
 change Jhu xs es k = some res at hr
 unfold Jhu at hr
 split at hr
 · rename_i z f l
   obtain ⟨hc, hr⟩ := JI hr
   exact Qj Jq JlI Js Jxb Jxc (Jox (JbT 1010)) [.ro] 0 0 (JBh 1010) hl rfl ((e93 1010 z f l k).trans ((Jtc z f l hc k).trans hr))
 · cases hr
def Jhv : List PV -> List Ent -> (Res -> Option Res) -> Option Res
 | [.ro 113 z f l], [], k => bif cBy l then k ⟨.ow 5 16 [] 0 (opB l).length none, [], [.vec false 5 false (pu .u8 (opB l))]⟩ else none
 | _, _, _ => none
def Jtd : Sig := { own := [], run := Jhv }
theorem Jte (z f : Bool) (l : List PV) (h : cBy l = true) (k : Res -> Option Res) : g98 1010 z f l k = k ⟨.ow 5 16 [] 0 (opB l).length none, [], [.vec false 5 false (pu .u8 (opB l))]⟩ := by
 obtain ⟨h1, h3, h2⟩ := ZS.1 h
 have hY := JfM (l := l)
 rw [G4]
 unfold g98
 refine (Jq4 l h1 h3 h2 1010 _ z f l.length 0 1010 _ (by omega) (by omega) (by rw [WH]; simp)).trans ?_
 rw [List.drop_zero, hY, ← JO]
 rw [show [IntKind.u8.wrap (zi l.length)] ++ Qc l = Jht l from rfl, JD]
theorem Jq5 : Jh tau Try.prog 98 Jtd := Jh.mk' fun xs es k res hl hr => by
 change Jhv xs es k = some res at hr
 unfold Jhv at hr
 split at hr
 · rename_i z f l
   obtain ⟨hc, hr⟩ := JI hr
   exact Qj Jq JlJ Js Jxd Jxe (Joz (JbU 1010)) [] 0 0 (JBk 1010) hl rfl ((e98 1010 z f l k).trans ((Jte z f l hc k).trans hr))
 · cases hr
def F99 : Fns := JH 105 JlE (JH 98 Jtd (JH 97 Js6 (JH 53 Js5 (F0))))
theorem Jtf : Jy tau Try.prog F99 := ((((JE).add Jq1 JsT).add Jq2 Jw8).add Jq5 Jxf).add JlF JqR
def JoB : An := (.seq .leaf (.seq .leaf (.seq .leaf (.seq .leaf (.seq .leaf (.seq .leaf .leaf))))))
def g99 (f : Nat) (y0 y1 d_Id y2 : Int) (y3 : List PV) (y4 : Int) (y5 y6 : Bool) (d_Op : List PV) (y7 y8 : Int) (k : Res -> Option Res) : Option Res := bif okL (apI [] y0).length (apI [] y0) then bif okL (apI (apI [] y0) y1).length (apI (apI [] y0) y1) then bif okL (apI (apI (apI [] y0) y1) d_Id).length (apI (apI (apI [] y0) y1) d_Id) then bif Jf ((apI (apI (apI (apI [] y0) y1) d_Id) y2).length + (List.take 32 y3).length) 1 && true then bif okL ((apI (apI (apI (apI [] y0) y1) d_Id) y2).length + (List.take 32 y3).length) (List.take (apI (apI (apI (apI [] y0) y1) d_Id) y2).length (apI (apI (apI (apI [] y0) y1) d_Id) y2) ++ List.take 32 y3) then bif cBy d_Op then bif Jo IntKind.u8 (List.take (opB d_Op).length (pu IntKind.u8 (opB d_Op))) && true then bif okL (apY (List.take (apI (apI (apI (apI [] y0) y1) d_Id) y2).length (apI (apI (apI (apI [] y0) y1) d_Id) y2) ++ List.take 32 y3) y4).length (apY (List.take (apI (apI (apI (apI [] y0) y1) d_Id) y2).length (apI (apI (apI (apI [] y0) y1) d_Id) y2) ++ List.take 32 y3) y4) && (ByteArray.mk (Array.mk (Jm ((Ent.vec false 5 false (pu IntKind.u8 (opB d_Op))).nil, List.take (opB d_Op).length (List.drop 0 (pu IntKind.u8 (opB d_Op)))).snd))).size.ble 65535 then bif okL (apT (apY (List.take (apI (apI (apI (apI [] y0) y1) d_Id) y2).length (apI (apI (apI (apI [] y0) y1) d_Id) y2) ++ List.take 32 y3) y4) (ByteArray.mk (Array.mk (Jm ((Ent.vec false 5 false (pu IntKind.u8 (opB d_Op))).nil, List.take (opB d_Op).length (List.drop 0 (pu IntKind.u8 (opB d_Op)))).snd)))).length (apT (apY (List.take (apI (apI (apI (apI [] y0) y1) d_Id) y2).length (apI (apI (apI (apI [] y0) y1) d_Id) y2) ++ List.take 32 y3) y4) (ByteArray.mk (Array.mk (Jm ((Ent.vec false 5 false (pu IntKind.u8 (opB d_Op))).nil, List.take (opB d_Op).length (List.drop 0 (pu IntKind.u8 (opB d_Op)))).snd)))) then bif okL (apI (apT (apY (List.take (apI (apI (apI (apI [] y0) y1) d_Id) y2).length (apI (apI (apI (apI [] y0) y1) d_Id) y2) ++ List.take 32 y3) y4) (ByteArray.mk (Array.mk (Jm ((Ent.vec false 5 false (pu IntKind.u8 (opB d_Op))).nil, List.take (opB d_Op).length (List.drop 0 (pu IntKind.u8 (opB d_Op)))).snd)))) y7).length (apI (apT (apY (List.take (apI (apI (apI (apI [] y0) y1) d_Id) y2).length (apI (apI (apI (apI [] y0) y1) d_Id) y2) ++ List.take 32 y3) y4) (ByteArray.mk (Array.mk (Jm ((Ent.vec false 5 false (pu IntKind.u8 (opB d_Op))).nil, List.take (opB d_Op).length (List.drop 0 (pu IntKind.u8 (opB d_Op)))).snd)))) y7) then k (Res.mk (.ow 5 16 [] 0 (apI (apI (apT (apY (List.take (apI (apI (apI (apI [] y0) y1) d_Id) y2).length (apI (apI (apI (apI [] y0) y1) d_Id) y2) ++ List.take 32 y3) y4) (ByteArray.mk (Array.mk (Jm ((Ent.vec false 5 false (pu IntKind.u8 (opB d_Op))).nil, List.take (opB d_Op).length (List.drop 0 (pu IntKind.u8 (opB d_Op)))).snd)))) y7) y8).length none) [] [.vec false 5 false (apI (apI (apT (apY (List.take (apI (apI (apI (apI [] y0) y1) d_Id) y2).length (apI (apI (apI (apI [] y0) y1) d_Id) y2) ++ List.take 32 y3) y4) (ByteArray.mk (Array.mk (Jm ((Ent.vec false 5 false (pu IntKind.u8 (opB d_Op))).nil, List.take (opB d_Op).length (List.drop 0 (pu IntKind.u8 (opB d_Op)))).snd)))) y7) y8)]) else none else none else none else none else none else none else none else none else none else none
theorem e99 (f : Nat) (y0 y1 d_Id y2 : Int) (y3 : List PV) (y4 : Int) (y5 y6 : Bool) (d_Op : List PV) (y7 y8 : Int) (k : Res -> Option Res) : JL tau F99 Try.f99 (Try.f99.body.get!) JoB [] 0 [.st 53 [.st 42 [.sc (.int .i64 y0), .sc (.int .i64 y1)], .sc (.int .i64 d_Id), .sc (.int .i64 y2), .ar 37 y3, .sc (.int .i64 y4), .ro 113 y5 y6 d_Op, .st 42 [.sc (.int .i64 y7), .sc (.int .i64 y8)]]] [] k = g99 f y0 y1 d_Id y2 y3 y4 y5 y6 d_Op y7 y8 k := by kernel_rfl
theorem JBl (f : Nat) : Je (Try.f99.body.get!) JoB = [] := by kernel_rfl
theorem JBm (f : Nat) : ∀ q ∈ Je (Try.f99.body.get!) JoB, q.Ok tau Try.prog 0 := by
 rw [JBl f]; intro q hq; cases hq
theorem Jxi : Try.prog.funcs[99]? = some Try.f99 := by kernel_rfl
theorem Jxj : Try.f99.body = some (Try.f99.body.get!) := by kernel_rfl
theorem JBn : Enters Try.prog 99 := enters_of Jxi (by kernel_rfl) Jxj
def F41 : Fns := JH 93 Jxg (JH 92 Js1 (JH 35 Jw9 (F0)))
theorem Jtg : Jy tau Try.prog F41 := (((JE).add Jxa JsM).add JqY Jwt).add Jxh JBi
def JoC : An := (.seq .leaf (.seq .leaf (.seq .leaf .leaf)))
def g41 (f : Nat) (y0 y1 : Bool) (y2 y3 : List PV) (e_At : Int) (y4 y5 : Bool) (e_Op y6 y7 : List PV) (k : Res -> Option Res) : Option Res := bif Jo IntKind.u8 y2 && true then bif okZ true [] && (ByteArray.mk (Array.mk (Jm (y0, y2).snd))).size.ble 65535 then bif Jf ((apT [] (ByteArray.mk (Array.mk (Jm (y0, y2).snd)))).length + (List.take 32 y3).length) 1 && true then bif okZ false (List.take ((apT [] (ByteArray.mk (Array.mk (Jm (y0, y2).snd)))).length + (List.take 32 y3).length) (List.take (apT [] (ByteArray.mk (Array.mk (Jm (y0, y2).snd)))).length (apT [] (ByteArray.mk (Array.mk (Jm (y0, y2).snd)))) ++ List.take 32 y3)) then bif cBy e_Op then bif Jo IntKind.u8 (pu IntKind.u8 (opB e_Op)) && true then bif okZ false (List.take (apI (List.take ((apT [] (ByteArray.mk (Array.mk (Jm (y0, y2).snd)))).length + (List.take 32 y3).length) (List.take (apT [] (ByteArray.mk (Array.mk (Jm (y0, y2).snd)))).length (apT [] (ByteArray.mk (Array.mk (Jm (y0, y2).snd)))) ++ List.take 32 y3)) e_At).length (apI (List.take ((apT [] (ByteArray.mk (Array.mk (Jm (y0, y2).snd)))).length + (List.take 32 y3).length) (List.take (apT [] (ByteArray.mk (Array.mk (Jm (y0, y2).snd)))).length (apT [] (ByteArray.mk (Array.mk (Jm (y0, y2).snd)))) ++ List.take 32 y3)) e_At)) && (ByteArray.mk (Array.mk (Jm (false, pu IntKind.u8 (opB e_Op)).snd))).size.ble 65535 then k (Res.mk (.ro 5 false false (List.take (apT (List.take (apI (List.take ((apT [] (ByteArray.mk (Array.mk (Jm (y0, y2).snd)))).length + (List.take 32 y3).length) (List.take (apT [] (ByteArray.mk (Array.mk (Jm (y0, y2).snd)))).length (apT [] (ByteArray.mk (Array.mk (Jm (y0, y2).snd)))) ++ List.take 32 y3)) e_At).length (apI (List.take ((apT [] (ByteArray.mk (Array.mk (Jm (y0, y2).snd)))).length + (List.take 32 y3).length) (List.take (apT [] (ByteArray.mk (Array.mk (Jm (y0, y2).snd)))).length (apT [] (ByteArray.mk (Array.mk (Jm (y0, y2).snd)))) ++ List.take 32 y3)) e_At)) (ByteArray.mk (Array.mk (Jm (false, pu IntKind.u8 (opB e_Op)).snd)))).length (apT (List.take (apI (List.take ((apT [] (ByteArray.mk (Array.mk (Jm (y0, y2).snd)))).length + (List.take 32 y3).length) (List.take (apT [] (ByteArray.mk (Array.mk (Jm (y0, y2).snd)))).length (apT [] (ByteArray.mk (Array.mk (Jm (y0, y2).snd)))) ++ List.take 32 y3)) e_At).length (apI (List.take ((apT [] (ByteArray.mk (Array.mk (Jm (y0, y2).snd)))).length + (List.take 32 y3).length) (List.take (apT [] (ByteArray.mk (Array.mk (Jm (y0, y2).snd)))).length (apT [] (ByteArray.mk (Array.mk (Jm (y0, y2).snd)))) ++ List.take 32 y3)) e_At)) (ByteArray.mk (Array.mk (Jm (false, pu IntKind.u8 (opB e_Op)).snd)))))) [] []) else none else none else none else none else none else none else none
theorem e41 (f : Nat) (y0 y1 : Bool) (y2 y3 : List PV) (e_At : Int) (y4 y5 : Bool) (e_Op y6 y7 : List PV) (k : Res -> Option Res) : JL tau F41 Try.f41 (Try.f41.body.get!) JoC [.ro] 0 [.st 51 [.st 47 [.ro 5 y0 y1 y2, .ar 37 y3], .sc (.int .i64 e_At), .ro 113 y4 y5 e_Op, .ar 37 y6, .ar 37 y7]] [] k = g41 f y0 y1 y2 y3 e_At y4 y5 e_Op y6 y7 k := by kernel_rfl
theorem JBo (f : Nat) : Je (Try.f41.body.get!) JoC = [] := by kernel_rfl
theorem JBp (f : Nat) : ∀ q ∈ Je (Try.f41.body.get!) JoC, q.Ok tau Try.prog 0 := by
 rw [JBo f]; intro q hq; cases hq
theorem Jxk : Try.prog.funcs[41]? = some Try.f41 := by kernel_rfl
theorem Jxl : Try.f41.body = some (Try.f41.body.get!) := by kernel_rfl
theorem JBq : Enters Try.prog 41 := enters_of Jxk (by kernel_rfl) Jxl
def F52 : Fns := JH 98 Jtd (JH 97 Js6 (JH 53 Js5 (F0)))
theorem Jth : Jy tau Try.prog F52 := (((JE).add Jq1 JsT).add Jq2 Jw8).add Jq5 Jxf
def JoD : An := (.seq .leaf (.seq .leaf (.seq .leaf .leaf)))
def g52 (f : Nat) (y0 y1 : Bool) (y2 y3 : List PV) (e_At : Int) (y4 y5 : Bool) (e_Op y6 y7 : List PV) (k : Res -> Option Res) : Option Res := bif Jo IntKind.u8 y2 && true then bif (ByteArray.mk (Array.mk (Jm (y0, y2).snd))).size.ble 65535 then bif Jf ((apT [] (ByteArray.mk (Array.mk (Jm (y0, y2).snd)))).length + (List.take 32 y3).length) 1 && true then bif okL ((apT [] (ByteArray.mk (Array.mk (Jm (y0, y2).snd)))).length + (List.take 32 y3).length) (List.take (apT [] (ByteArray.mk (Array.mk (Jm (y0, y2).snd)))).length (apT [] (ByteArray.mk (Array.mk (Jm (y0, y2).snd)))) ++ List.take 32 y3) then bif cBy e_Op then bif Jo IntKind.u8 (List.take (opB e_Op).length (pu IntKind.u8 (opB e_Op))) && true then bif okL (apI (List.take (apT [] (ByteArray.mk (Array.mk (Jm (y0, y2).snd)))).length (apT [] (ByteArray.mk (Array.mk (Jm (y0, y2).snd)))) ++ List.take 32 y3) e_At).length (apI (List.take (apT [] (ByteArray.mk (Array.mk (Jm (y0, y2).snd)))).length (apT [] (ByteArray.mk (Array.mk (Jm (y0, y2).snd)))) ++ List.take 32 y3) e_At) && (ByteArray.mk (Array.mk (Jm ((Ent.vec false 5 false (pu IntKind.u8 (opB e_Op))).nil, List.take (opB e_Op).length (List.drop 0 (pu IntKind.u8 (opB e_Op)))).snd))).size.ble 65535 then k (Res.mk (.ow 5 16 [] 0 (apT (apI (List.take (apT [] (ByteArray.mk (Array.mk (Jm (y0, y2).snd)))).length (apT [] (ByteArray.mk (Array.mk (Jm (y0, y2).snd)))) ++ List.take 32 y3) e_At) (ByteArray.mk (Array.mk (Jm ((Ent.vec false 5 false (pu IntKind.u8 (opB e_Op))).nil, List.take (opB e_Op).length (List.drop 0 (pu IntKind.u8 (opB e_Op)))).snd)))).length none) [] [.vec false 5 false (apT (apI (List.take (apT [] (ByteArray.mk (Array.mk (Jm (y0, y2).snd)))).length (apT [] (ByteArray.mk (Array.mk (Jm (y0, y2).snd)))) ++ List.take 32 y3) e_At) (ByteArray.mk (Array.mk (Jm ((Ent.vec false 5 false (pu IntKind.u8 (opB e_Op))).nil, List.take (opB e_Op).length (List.drop 0 (pu IntKind.u8 (opB e_Op)))).snd))))]) else none else none else none else none else none else none else none
theorem e52 (f : Nat) (y0 y1 : Bool) (y2 y3 : List PV) (e_At : Int) (y4 y5 : Bool) (e_Op y6 y7 : List PV) (k : Res -> Option Res) : JL tau F52 Try.f52 (Try.f52.body.get!) JoD [] 0 [.st 51 [.st 47 [.ro 5 y0 y1 y2, .ar 37 y3], .sc (.int .i64 e_At), .ro 113 y4 y5 e_Op, .ar 37 y6, .ar 37 y7]] [] k = g52 f y0 y1 y2 y3 e_At y4 y5 e_Op y6 y7 k := by kernel_rfl
theorem JBr (f : Nat) : Je (Try.f52.body.get!) JoD = [] := by kernel_rfl
theorem JBs (f : Nat) : ∀ q ∈ Je (Try.f52.body.get!) JoD, q.Ok tau Try.prog 0 := by
 rw [JBr f]; intro q hq; cases hq
theorem Jxm : Try.prog.funcs[52]? = some Try.f52 := by kernel_rfl
theorem Jxn : Try.f52.body = some (Try.f52.body.get!) := by kernel_rfl
theorem Jxo : Enters Try.prog 52 := enters_of Jxm (by kernel_rfl) Jxn
-- FN sign.Core | ref9.Core
def tx (l : List PV) : ByteArray := ByteArray.mk (Array.mk (Jm l))
theorem WI (l : List PV) : (tx l).size = l.length := Y4 l
structure EV where
 (b m : List PV) (at1 : Int) (o : List PV)
def Jeq (e : EV) : List Int := Qm (tx e.b) ++ (JA e.m ++ (JS e.at1 ++ Qm (tx (pu .u8 (opB e.o)))))
def Jr : EV -> List Int := hid Jeq
theorem JfN (e : EV) : Jr e = Jeq e := by rw [Jr, hid_eq]
def eOk : EV -> Bool := hid fun e => Jo .u8 e.b && (decide (e.b.length <= 65535) && (Jo .u8 e.m && (decide (e.m.length = 32) && (cBy e.o && decide ((opB e.o).length <= 65535)))))
theorem WJ {e : EV} : eOk e = true ↔ Jo .u8 e.b = true /\ e.b.length <= 65535 /\ Jo .u8 e.m = true /\ e.m.length = 32 /\ cBy e.o = true /\ (opB e.o).length <= 65535 := by
 rw [eOk, hid_eq]; simp only [Bool.and_eq_true, decide_eq_true_eq]
theorem WK {e : EV} (h : eOk e = true) : (Jr e).length = e.b.length + (opB e.o).length + 44 := by
 obtain ⟨h1, h2, h3, h4, h5, h6⟩ := WJ.1 h
 rw [JfN]
 simp only [Jeq, List.length_append, V4, QS, Wp, WI, JD, h4]; omega
theorem JbV {e : EV} (h : eOk e = true) : apT (apI (apT [] (tx e.b) ++ List.take 32 e.m) e.at1) (tx (pu .u8 (opB e.o))) = pu .u8 (Jr e) := by
 obtain ⟨h1, h2, h3, h4, h5, h6⟩ := WJ.1 h
 rw [JfN, XA, Y8, XA, List.take_of_length_le (by omega)]
 simp only [Jeq, JO, List.nil_append, List.append_assoc, ← Qk h3]
def Jhw : List PV -> List Ent -> (Res -> Option Res) -> Option Res
 | [.st 51 [.st 47 [.ro 5 bz bf b, .ar 37 m], .sc (.int .i64 at1), .ro 113 oz of o, .ar 37 h, .ar 37 mc]], [], k => bif eOk ⟨b, m, at1, o⟩ then k ⟨.ro 5 false false (pu .u8 (Jr ⟨b, m, at1, o⟩)), [], []⟩ else none
 | _, _, _ => none
def Jxp : Sig := { own := [], run := Jhw }
theorem Jti (bz bf : Bool) (b m : List PV) (at1 : Int) (oz of : Bool) (o h mc : List PV) (he : eOk ⟨b, m, at1, o⟩ = true) (k : Res -> Option Res) : g41 0 bz bf b m at1 oz of o h mc k = k ⟨.ro 5 false false (pu .u8 (Jr ⟨b, m, at1, o⟩)), [], []⟩ := by
 have hl := WK he
 have hp := JbV he
 obtain ⟨h1, h2, h3, h4, h5, h6⟩ := WJ.1 he
 simp only at hl hp h1 h2 h3 h4 h5 h6
 have ht : ∀ l : List PV, ByteArray.mk (Array.mk (Jm l)) = tx l := fun l => rfl
 have hm : List.take 32 m = m := List.take_of_length_le (by omega)
 have l1 : (apT [] (tx b)).length = b.length + 2 := by rw [XA]; simp [WI]
 have l2 : ∀ (L : List PV) (n : Int), (apI L n).length = L.length + 8 := ZT
 have htp : ∀ l : List Int, List.take l.length (pu .u8 l) = pu .u8 l := fun l => List.take_of_length_le (by simp)
 have hcat : ∀ n, n = (apT [] (tx b)).length + m.length -> List.take n (apT [] (tx b) ++ m) = apT [] (tx b) ++ m := fun n hn => List.take_of_length_le (by simp; omega)
 rw [hm] at hp
 unfold g41
 simp only [ht, hm, List.take_length, htp, List.drop_zero, hcat _ rfl, WI, JD]
 refine (Ja (by rw [h1]; rfl)).trans ((Ja (by rw [Vn]; show (true && _) = true; rw [Bool.true_and, Nat.ble_eq]; exact h2)).trans ((Ja (by simp only [Jf, Nat.mul_one, Bool.and_true, decide_eq_true_eq, l1]; omega)).trans ((Ja (by rw [Zc (by rw [List.length_append, l1]; omega)])).trans ((Ja h5).trans ((Ja (by rw [JP]; rfl)).trans ((Ja (by rw [Zc (by rw [l2, List.length_append, l1]; omega), Bool.true_and, Nat.ble_eq]; exact h6)).trans ?_))))))
 rw [hp]
 try rfl
theorem Jxq : Jh tau Try.prog 41 Jxp := Jh.mk' fun xs es k res hl hr => by
 change Jhw xs es k = some res at hr
 unfold Jhw at hr
 split at hr
 · rename_i bz bf b m at1 oz of o h mc
   obtain ⟨hc, hr⟩ := JI hr
   exact Qj Jq Jtg Js Jxk Jxl JoC [.ro] 0 0 (JBp 0) hl rfl ((e41 0 bz bf b m at1 oz of o h mc k).trans ((Jti bz bf b m at1 oz of o h mc hc k).trans hr))
 · cases hr
def Jhx : List PV -> List Ent -> (Res -> Option Res) -> Option Res
 | [.st 51 [.st 47 [.ro 5 bz bf b, .ar 37 m], .sc (.int .i64 at1), .ro 113 oz of o, .ar 37 h, .ar 37 mc]], [], k => bif eOk ⟨b, m, at1, o⟩ then k ⟨.ow 5 16 [] 0 (Jr ⟨b, m, at1, o⟩).length none, [], [.vec false 5 false (pu .u8 (Jr ⟨b, m, at1, o⟩))]⟩ else none
 | _, _, _ => none
def Jtj : Sig := { own := [], run := Jhx }
theorem Jtk (bz bf : Bool) (b m : List PV) (at1 : Int) (oz of : Bool) (o h mc : List PV) (he : eOk ⟨b, m, at1, o⟩ = true) (k : Res -> Option Res) : g52 0 bz bf b m at1 oz of o h mc k = k ⟨.ow 5 16 [] 0 (Jr ⟨b, m, at1, o⟩).length none, [], [.vec false 5 false (pu .u8 (Jr ⟨b, m, at1, o⟩))]⟩ := by
 have hl := WK he
 have hp := JbV he
 obtain ⟨h1, h2, h3, h4, h5, h6⟩ := WJ.1 he
 simp only at hl hp h1 h2 h3 h4 h5 h6
 have ht : ∀ l : List PV, ByteArray.mk (Array.mk (Jm l)) = tx l := fun l => rfl
 have hm : List.take 32 m = m := List.take_of_length_le (by omega)
 have l1 : (apT [] (tx b)).length = b.length + 2 := by rw [XA]; simp [WI]
 have l2 : ∀ (L : List PV) (n : Int), (apI L n).length = L.length + 8 := ZT
 have htp : ∀ l : List Int, List.take l.length (pu .u8 l) = pu .u8 l := fun l => List.take_of_length_le (by simp)
 have hcat : ∀ n, n = (apT [] (tx b)).length + m.length -> List.take n (apT [] (tx b) ++ m) = apT [] (tx b) ++ m := fun n hn => List.take_of_length_le (by simp; omega)
 rw [hm] at hp
 unfold g52
 simp only [ht, hm, List.take_length, htp, List.drop_zero, hcat _ rfl, WI, JD]
 refine (Ja (by rw [h1]; rfl)).trans ((Ja (by rw [Nat.ble_eq]; exact h2)).trans ((Ja (by simp only [Jf, Nat.mul_one, Bool.and_true, decide_eq_true_eq, l1]; omega)).trans ((Ja (by rw [show (apT [] (tx b)).length + m.length = (apT [] (tx b) ++ m).length from (List.length_append).symm, Ws (by rw [List.length_append, l1]; omega)])).trans ((Ja h5).trans ((Ja (by rw [JP]; rfl)).trans ((Ja (by rw [Ws (by rw [l2, List.length_append, l1]; omega), Bool.true_and, Nat.ble_eq]; exact h6)).trans ?_))))))
 rw [hp]
 rw [JD]
theorem Jq6 : Jh tau Try.prog 52 Jtj := Jh.mk' fun xs es k res hl hr => by
 change Jhx xs es k = some res at hr
 unfold Jhx at hr
 split at hr
 · rename_i bz bf b m at1 oz of o h mc
   obtain ⟨hc, hr⟩ := JI hr
   exact Qj Jq Jth Js Jxm Jxn JoD [] 0 0 (JBs 0) hl rfl ((e52 0 bz bf b m at1 oz of o h mc k).trans ((Jtk bz bf b m at1 oz of o h mc hc k).trans hr))
 · cases hr
-- FN delta.Bytes | ref8.Bytes
structure DV where
 (ad au id ve : Int) (h : List PV) (kd : Int) (o : List PV) (wd wu : Int)
def Jkk (d : DV) : List Int := JS d.ad ++ (JS d.au ++ (JS d.id ++ (JS d.ve ++ (JA d.h ++ ([IntKind.u8.wrap d.kd] ++ (Qm (tx (pu .u8 (opB d.o))) ++ (JS d.wd ++ JS d.wu)))))))
def dlB : DV -> List Int := hid Jkk
theorem Jer (d : DV) : dlB d = Jkk d := by rw [dlB, hid_eq]
def dOk : DV -> Bool := hid fun d => Jo .u8 d.h && (decide (d.h.length = 32) && (cBy d.o && decide ((opB d.o).length <= 65535)))
theorem Wg {d : DV} : dOk d = true ↔ Jo .u8 d.h = true /\ d.h.length = 32 /\ cBy d.o = true /\ (opB d.o).length <= 65535 := by
 rw [dOk, hid_eq]; simp only [Bool.and_eq_true, decide_eq_true_eq]
theorem Vr {d : DV} (h : dOk d = true) : (dlB d).length = (opB d.o).length + 83 := by
 obtain ⟨h1, h2, h3, h4⟩ := Wg.1 h
 rw [Jer]
 simp only [Jkk, List.length_append, V4, QS, Wp, WI, JD, h2, List.length_cons, List.length_nil]; omega
theorem JlL {d : DV} (h : dOk d = true) : apI (apI (apT (apY (apI (apI (apI (apI [] d.ad) d.au) d.id) d.ve ++ List.take 32 d.h) d.kd) (tx (pu .u8 (opB d.o)))) d.wd) d.wu = pu .u8 (dlB d) := by
 obtain ⟨h1, h2, h3, h4⟩ := Wg.1 h
 rw [Jer, List.take_of_length_le (by omega)]
 simp only [XA, Y8, Vm, Jkk, JO, List.nil_append, List.append_assoc, ← Qk h1]
def Jhy : List PV -> List Ent -> (Res -> Option Res) -> Option Res
 | [.st 53 [.st 42 [.sc (.int .i64 ad), .sc (.int .i64 au)], .sc (.int .i64 id1), .sc (.int .i64 ve), .ar 37 h, .sc (.int .i64 kd), .ro 113 oz of o, .st 42 [.sc (.int .i64 wd), .sc (.int .i64 wu)]]], [], k => bif dOk ⟨ad, au, id1, ve, h, kd, o, wd, wu⟩ then k ⟨.ow 5 16 [] 0 (dlB ⟨ad, au, id1, ve, h, kd, o, wd, wu⟩).length none, [], [.vec false 5 false (pu .u8 (dlB ⟨ad, au, id1, ve, h, kd, o, wd, wu⟩))]⟩ else none
 | _, _, _ => none
def Jxr : Sig := { own := [], run := Jhy }
theorem Jtl (ad au id1 ve : Int) (h : List PV) (kd : Int) (oz of : Bool) (o : List PV) (wd wu : Int) (he : dOk ⟨ad, au, id1, ve, h, kd, o, wd, wu⟩ = true) (k : Res -> Option Res) : g99 0 ad au id1 ve h kd oz of o wd wu k = k ⟨.ow 5 16 [] 0 (dlB ⟨ad, au, id1, ve, h, kd, o, wd, wu⟩).length none, [], [.vec false 5 false (pu .u8 (dlB ⟨ad, au, id1, ve, h, kd, o, wd, wu⟩))]⟩ := by
 have hl := Vr he
 have hp := JlL he
 obtain ⟨h1, h2, h3, h4⟩ := Wg.1 he
 simp only at hl hp h1 h2 h3 h4
 have ht : ∀ l : List PV, ByteArray.mk (Array.mk (Jm l)) = tx l := fun l => rfl
 have hm : List.take 32 h = h := List.take_of_length_le (by omega)
 have l1 : ∀ (L : List PV) (n : Int), (apY L n).length = L.length + 1 := WH
 have l2 : ∀ (L : List PV) (n : Int), (apI L n).length = L.length + 8 := ZT
 have l3 : ∀ (L : List PV), (apT L (tx (pu .u8 (opB o)))).length = L.length + ((opB o).length + 2) := fun L => by rw [XA]; simp [WI]
 have htp : ∀ l : List Int, List.take l.length (pu .u8 l) = pu .u8 l := fun l => List.take_of_length_le (by simp)
 have hcat : ∀ L : List PV, List.take (L.length + h.length) (L ++ h) = L ++ h := fun L => List.take_of_length_le (by simp)
 rw [hm] at hp
 unfold g99
 simp only [ht, hm, List.take_length, htp, List.drop_zero, hcat, WI, JD]
 refine (Ja (Ws (by simp only [l2, List.length_nil]; omega))).trans ((Ja (Ws (by simp only [l2, List.length_nil]; omega))).trans ((Ja (Ws (by simp only [l2, List.length_nil]; omega))).trans ?_))
 refine (Ja (by simp only [Jf, Nat.mul_one, Bool.and_true, decide_eq_true_eq, l2, List.length_nil]; omega)).trans ?_
 refine (Ja (by rw [show ∀ L : List PV, L.length + h.length = (L ++ h).length from fun L => (List.length_append).symm, Ws (by simp only [List.length_append, l2, List.length_nil]; omega)])).trans ((Ja h3).trans ((Ja (by rw [JP]; rfl)).trans ?_))
 refine (Ja (by rw [Ws (by simp only [l1, List.length_append, l2, List.length_nil]; omega), Bool.true_and, Nat.ble_eq]; exact h4)).trans ?_
 refine (Ja (Ws (by rw [l3]; simp only [l1, List.length_append, l2, List.length_nil]; omega))).trans ?_
 refine (Ja (Ws (by rw [l2, l3]; simp only [l1, List.length_append, l2, List.length_nil]; omega))).trans ?_
 rw [hp]
 rw [JD]
theorem Jxs : Jh tau Try.prog 99 Jxr := Jh.mk' fun xs es k res hl hr => by
 change Jhy xs es k = some res at hr
 unfold Jhy at hr
 split at hr
 · rename_i ad au id1 ve h kd oz of o wd wu
   obtain ⟨hc, hr⟩ := JI hr
   exact Qj Jq Jtf Js Jxi Jxj JoB [] 0 0 (JBm 0) hl rfl ((e99 0 ad au id1 ve h kd oz of o wd wu k).trans ((Jtl ad au id1 ve h kd oz of o wd wu hc k).trans hr))
 · cases hr
-- FN delta.Check | ref8.Check
def Jkl (d : DV) : Int :=
 bif inZ d.ad 2 && (inZ d.au 7 && (inZ d.id 1073741824 && inZ d.ve 1048576)) then
  (bif d.kd == 1 then (bif ckO d.o == 0 then (bif d.wd == 0 && d.wu == 0 then 0 else 1) else ckO d.o)
  else bif d.kd == 2 || d.kd == 3 then (bif d.o.isEmpty && (inZ d.wd 2 && inZ d.wu 7) then 0 else 1)
  else 3)
 else 1
def dCk : DV -> Int := hid Jkl
theorem Jes (d : DV) : dCk d = Jkl d := by rw [dCk, hid_eq]
theorem Xq (x m : Int) : inZ x m = (decide (x >= 0) && decide (x <= m)) := rfl
theorem JlM (l : List PV) : decide (zi l.length > 0) = !l.isEmpty := by
 cases l with
 | nil => rfl
 | cons p ps => exact decide_eq_true (by simp only [zi, List.length_cons]; omega)
theorem Jtm (ad au id1 ve : Int) (h : List PV) (kd : Int) (oz of : Bool) (o : List PV) (wd wu : Int) (hc : cOk o = true) (k : Res -> Option Res) : g85 0 ad au id1 ve h kd oz of o wd wu k = k ⟨.sc (.int .i64 (dCk ⟨ad, au, id1, ve, h, kd, o, wd, wu⟩)), [], []⟩ := by
 rw [Jes]
 unfold g85 Jkl
 simp only [hc, Xq, JlM, cond_true, bne]
 have h2 : (kd == 2) = true -> (kd == 1) = false := fun h => by
     have : kd = 2 := by simpa using h
     rw [this]; decide
 generalize o.isEmpty = e0
 generalize (kd == 1) = d1 at *
 generalize (kd == 2) = d2 at *
 generalize (kd == 3) = d3
 generalize (wd == 0) = w0
 generalize (wu == 0) = w1
 generalize hck : ckO o = ck
 cases decide (ad >= 0)
 · rfl
 cases decide (ad <= 2)
 · rfl
 cases decide (au >= 0)
 · rfl
 cases decide (au <= 7)
 · rfl
 cases decide (id1 >= 0)
 · rfl
 cases decide (id1 <= 1073741824)
 · rfl
 cases decide (ve >= 0)
 · rfl
 cases decide (ve <= 1048576)
 · rfl
 cases d1
 · cases d2
   · cases d3
     · rfl
     · cases e0 <;> cases decide (wd >= 0) <;> cases decide (wd <= 2) <;> cases decide (wu >= 0) <;> cases decide (wu <= 7) <;> rfl
   · cases e0 <;> cases decide (wd >= 0) <;> cases decide (wd <= 2) <;> cases decide (wu >= 0) <;> cases decide (wu <= 7) <;> rfl
 · cases ck == 0 <;> cases w0 <;> cases w1 <;> rfl
def Jhz : List PV -> List Ent -> (Res -> Option Res) -> Option Res
 | [.st 53 [.st 42 [.sc (.int .i64 ad), .sc (.int .i64 au)], .sc (.int .i64 id1), .sc (.int .i64 ve), .ar 37 h, .sc (.int .i64 kd), .ro 113 oz of o, .st 42 [.sc (.int .i64 wd), .sc (.int .i64 wu)]]], [], k => bif cOk o then k ⟨.sc (.int .i64 (dCk ⟨ad, au, id1, ve, h, kd, o, wd, wu⟩)), [], []⟩ else none
 | _, _, _ => none
def Jxt : Sig := { own := [], run := Jhz }
theorem Jxu : Jh tau Try.prog 85 Jxt := JAv.of fun xs es k res hr => by
 change Jhz xs es k = some res at hr
 unfold Jhz at hr
 split at hr
 · rename_i ad au id1 ve h kd oz of o wd wu
   obtain ⟨hc, hr⟩ := JI hr
   exact (Jtm ad au id1 ve h kd oz of o wd wu hc k).trans hr
 · cases hr
-- FN ref12.below | ref12.Has
structure AV where
 (d u : Int)
def JaU : PV -> Bool
 | .st t [.sc (.int .i64 _), .sc (.int .i64 _)] => t == 42
 | _ => false
def adP (a : AV) : PV := .st 42 [.sc (.int .i64 a.d), .sc (.int .i64 a.u)]
def av (p : PV) : AV := ⟨(p.child 0).int, (p.child 1).int⟩
theorem JlN {p : PV} : JaU p = true ↔ ∃ a, p = adP a := by
 constructor
 · intro h
   unfold JaU at h
   split at h
   · rename_i t d u
     obtain rfl : t = 42 := by simpa using h
     exact ⟨⟨d, u⟩, rfl⟩
   · cases h
 · rintro ⟨a, rfl⟩; rfl
theorem JlO (a : AV) : av (adP a) = a := rfl
def JhA (p : PV) : Bool := PV.isSt 42 #[Field.mk "D" 3 0 false "" "" 0, Field.mk "U" 3 1 false "" "" 8].size p && (PV.isInt IntKind.i64 (PV.child 0 p) && (PV.isInt IntKind.i64 (PV.child (0 + 1) p) && true))
theorem Jc5 {p : PV} (h : JaU p = true) : JhA p = true := by
 obtain ⟨a, rfl⟩ := JlN.1 h
 rfl
theorem Jc6 {l : List PV} (h : l.all JaU = true) {i : Nat} (hi : i < l.length) : JaU (l.getD i .top) = true := by
 rw [List.getD_eq_getElem?_getD, List.getElem?_eq_getElem hi]
 exact List.all_eq_true.1 h _ (List.getElem_mem hi)
def eqA (x y : AV) : Bool := x.d == y.d && (x.u == y.u && true)
theorem Qo {x y : AV} : eqA x y = true ↔ x = y := by
 obtain ⟨a, b⟩ := x; obtain ⟨c, d⟩ := y
 simp [eqA]
def ltA (x y : AV) : Bool := decide (x.d < y.d) || (x.d == y.d && decide (x.u < y.u))
theorem Xr {x y : AV} : ltA x y = true ↔ x.d < y.d ∨ (x.d = y.d /\ x.u < y.u) := by simp [ltA]
def srt : List PV -> Bool
 | [] => true
 | p :: ps => ps.all (fun q => ltA (av p) (av q)) && srt ps
def pOk : List PV -> Bool := hid fun l => l.all JaU && (srt l && decide (l.length <= 8))
theorem Q1 {l : List PV} : pOk l = true ↔ l.all JaU = true /\ srt l = true /\ l.length <= 8 := by
 rw [pOk, hid_eq]; simp only [Bool.and_eq_true, decide_eq_true_eq]
structure PH where
 (l : List PV) (a : AV)
def hasL (l : List PV) (a : AV) : Bool := l.any fun p => eqA (av p) a
def hasP : PH -> Bool := hid fun x => hasL x.l x.a
theorem hasP_eq (x : PH) : hasP x = hasL x.l x.a := by rw [hasP, hid_eq]
-- FN slices.Equal[[]api.Addr,api.Addr]
structure AA where
 (a b : List PV)
def G5 : List PV -> Bool := hid fun l => l.all JaU && decide (l.length <= 1000)
theorem V9 {l : List PV} : G5 l = true ↔ l.all JaU = true /\ l.length <= 1000 := by
 rw [G5, hid_eq, Bool.and_eq_true, decide_eq_true_eq]

def Jxv : Fns := F0
theorem JoE : Jy tau Try.prog Jxv := JE
def Ji7 : An := (.seq .leaf (.seq .leaf .leaf))
def Jxw (f : Nat) (k : Res -> Option Res) : Option Res := k (Res.mk (.ar 159 [.sc (.int .u32 1116352408), .sc (.int .u32 1899447441), .sc (.int .u32 3049323471), .sc (.int .u32 3921009573), .sc (.int .u32 961987163), .sc (.int .u32 1508970993), .sc (.int .u32 2453635748), .sc (.int .u32 2870763221), .sc (.int .u32 3624381080), .sc (.int .u32 310598401), .sc (.int .u32 607225278), .sc (.int .u32 1426881987), .sc (.int .u32 1925078388), .sc (.int .u32 2162078206), .sc (.int .u32 2614888103), .sc (.int .u32 3248222580), .sc (.int .u32 3835390401), .sc (.int .u32 4022224774), .sc (.int .u32 264347078), .sc (.int .u32 604807628), .sc (.int .u32 770255983), .sc (.int .u32 1249150122), .sc (.int .u32 1555081692), .sc (.int .u32 1996064986), .sc (.int .u32 2554220882), .sc (.int .u32 2821834349), .sc (.int .u32 2952996808), .sc (.int .u32 3210313671), .sc (.int .u32 3336571891), .sc (.int .u32 3584528711), .sc (.int .u32 113926993), .sc (.int .u32 338241895), .sc (.int .u32 666307205), .sc (.int .u32 773529912), .sc (.int .u32 1294757372), .sc (.int .u32 1396182291), .sc (.int .u32 1695183700), .sc (.int .u32 1986661051), .sc (.int .u32 2177026350), .sc (.int .u32 2456956037), .sc (.int .u32 2730485921), .sc (.int .u32 2820302411), .sc (.int .u32 3259730800), .sc (.int .u32 3345764771), .sc (.int .u32 3516065817), .sc (.int .u32 3600352804), .sc (.int .u32 4094571909), .sc (.int .u32 275423344), .sc (.int .u32 430227734), .sc (.int .u32 506948616), .sc (.int .u32 659060556), .sc (.int .u32 883997877), .sc (.int .u32 958139571), .sc (.int .u32 1322822218), .sc (.int .u32 1537002063), .sc (.int .u32 1747873779), .sc (.int .u32 1955562222), .sc (.int .u32 2024104815), .sc (.int .u32 2227730452), .sc (.int .u32 2361852424), .sc (.int .u32 2428436474), .sc (.int .u32 2756734187), .sc (.int .u32 3204031479), .sc (.int .u32 3329325298)]) [] [])
theorem JBt (f : Nat) (k : Res -> Option Res) : JL tau Jxv Try.f116 (Try.f116.body.get!) Ji7 [.ro] 0 [] [] k = Jxw f k := by kernel_rfl
theorem Jxx (f : Nat) : Je (Try.f116.body.get!) Ji7 = [] := by kernel_rfl
theorem Jxy (f : Nat) : ∀ q ∈ Je (Try.f116.body.get!) Ji7, q.Ok tau Try.prog 0 := by
 rw [Jxx f]; intro q hq; cases hq
theorem Jq7 : Try.prog.funcs[116]? = some Try.f116 := by kernel_rfl
theorem Jq8 : Try.f116.body = some (Try.f116.body.get!) := by kernel_rfl
theorem Jxz : Enters Try.prog 116 := enters_of Jq7 (by kernel_rfl) Jq8
def JhB : List PV -> List Ent -> (Res -> Option Res) -> Option Res
 | [], [], k => Jxw 0  k
 | _, _, _ => none
def JxA : Sig := { own := [], run := JhB }
theorem JxB : Jh tau Try.prog 116 JxA := JY Jq JoE Js Jq7 Jq8 Ji7 [.ro] 0 [] JhB (Jxy 0) fun xs es k res hr => by
 unfold JhB at hr
 split at hr
 · exact ⟨rfl, 0, (JBt 0  _).trans hr⟩
 · cases hr
def N80 : Nat := 113
def F80 : Fns := JH 116 JxA (JH 115 JqF (JH 117 Jlq F0))
theorem JhC : Jy tau Try.prog F80 := ((JE.add Jlr JqC).add Jsv Jv6).add JxB Jxz
def Jc7 : Code := Qn (Try.f80.body.get!) [1, 1, 1, 0, 1, 0, 0]
def Ye : Nm := [(2, .any), (4, .any), (5, .any), (6, .any), (7, .any), (18, .any)]
def Zd : Nm := [(2, .any), (4, .any), (7, .any)]
def JfO : An := (.seq .leaf (.seq (.cond .leaf .leaf) (.seq (.block none (.seq .leaf (.seq .leaf (.seq .leaf (.seq .leaf .leaf))))) .leaf)))
def Jc8 : Code := Qn (Try.f80.body.get!) [1, 1, 1, 1, 0, 1, 0, 0]
def Yf : Nm := [(2, .any), (4, .any), (7, .any), (100, .any)]
def Ze : Nm := [(4, .any), (7, .any)]
def JfP : An := (.seq .leaf (.seq (.cond .leaf .leaf) (.seq (.block none (.seq .leaf .leaf)) .leaf)))
def Jtn (r0 : QV) (r1 : QV) : An := (.seq .leaf (.seq .leaf (.seq .leaf (.seq (.seq .leaf (.block none (.sum Ye N80 r0))) (.seq (.seq .leaf (.block none (.sum Yf N80 r1))) (.seq .leaf .leaf))))))
def Ga (f : Nat) (rc : Int -> List PV -> List PV -> List PV -> List PV -> List PV -> Option Res) (k0 : List PV -> List PV -> List PV -> Option Res) (v0 : Int) (v1 v2 v3 v4 v5 : List PV) : Option Res := bif decide (v0 < 64) then bif PV.isInt IntKind.u32 (Jk (PV.ar 143 v5) [4]) && true then bif PV.isInt IntKind.u32 (Jk (PV.ar 143 v5) [0]) && true then bif PV.isInt IntKind.u32 (Jk (PV.ar 143 v5) [7]) && true then bif PV.isInt IntKind.u32 (Jk (PV.ar 143 v5) [5]) && true then bif PV.isInt IntKind.u32 (Jk (PV.ar 143 v5) [6]) && true then bif decide (0 <= v0) && decide (v0 < zi 64) && true then bif PV.isInt IntKind.u32 (Jk (PV.ar 159 v4) [v0.toNat]) && true then bif decide (0 <= v0) && decide (v0 < zi 64) && true then bif PV.isInt IntKind.u32 (Jk (PV.ar 159 v3) [v0.toNat]) && true then bif PV.isInt IntKind.u32 (Jk (PV.ar 143 v5) [1]) && true then bif PV.isInt IntKind.u32 (Jk (PV.ar 143 v5) [2]) && true then bif PV.isInt IntKind.u32 (Jk (PV.ar 143 v5) [1]) && true then bif PV.isInt IntKind.u32 (Jk (PV.ar 143 v5) [2]) && true then bif PV.isInt IntKind.u32 (Jk (PV.ar 143 v5) [0]) && true then bif PV.isInt IntKind.u32 (Jk (PV.ar 143 v5) [1]) && true then bif PV.isInt IntKind.u32 (Jk (PV.ar 143 v5) [2]) && true then bif PV.isInt IntKind.u32 (Jk (PV.ar 143 v5) [3]) && true then bif PV.isInt IntKind.u32 (Jk (PV.ar 143 v5) [4]) && true then bif PV.isInt IntKind.u32 (Jk (PV.ar 143 v5) [5]) && true then bif PV.isInt IntKind.u32 (Jk (PV.ar 143 v5) [6]) && true then rc (IntKind.i64.wrap (v0 + 1)) v1 v2 v3 v4 ([.sc (.int .u32 (IntKind.u32.wrap (IntKind.u32.wrap (IntKind.u32.wrap (IntKind.u32.wrap (IntKind.u32.wrap ((Jk (PV.ar 143 v5) [7]).int + JF BinOp.xor IntKind.u32 (JF BinOp.xor IntKind.u32 (rr (Jk (PV.ar 143 v5) [4]).int 6) (rr (Jk (PV.ar 143 v5) [4]).int 11)) (rr (Jk (PV.ar 143 v5) [4]).int 25)) + JF BinOp.xor IntKind.u32 (JF BinOp.and IntKind.u32 (Jk (PV.ar 143 v5) [4]).int (Jk (PV.ar 143 v5) [5]).int) (JF BinOp.and IntKind.u32 (JF BinOp.xor IntKind.u32 (Int.ofNat (2 ^ IntKind.u32.bits - Nat.succ 0)) (Jk (PV.ar 143 v5) [4]).int) (Jk (PV.ar 143 v5) [6]).int)) + (Jk (PV.ar 159 v4) [v0.toNat]).int) + (Jk (PV.ar 159 v3) [v0.toNat]).int) + IntKind.u32.wrap (JF BinOp.xor IntKind.u32 (JF BinOp.xor IntKind.u32 (rr (Jk (PV.ar 143 v5) [0]).int 2) (rr (Jk (PV.ar 143 v5) [0]).int 13)) (rr (Jk (PV.ar 143 v5) [0]).int 22) + JF BinOp.xor IntKind.u32 (JF BinOp.xor IntKind.u32 (JF BinOp.and IntKind.u32 (Jk (PV.ar 143 v5) [0]).int (Jk (PV.ar 143 v5) [1]).int) (JF BinOp.and IntKind.u32 (Jk (PV.ar 143 v5) [0]).int (Jk (PV.ar 143 v5) [2]).int)) (JF BinOp.and IntKind.u32 (Jk (PV.ar 143 v5) [1]).int (Jk (PV.ar 143 v5) [2]).int))))), .sc (.int .u32 (Jk (PV.ar 143 v5) [0]).int), .sc (.int .u32 (Jk (PV.ar 143 v5) [1]).int), .sc (.int .u32 (Jk (PV.ar 143 v5) [2]).int), .sc (.int .u32 (IntKind.u32.wrap ((Jk (PV.ar 143 v5) [3]).int + IntKind.u32.wrap (IntKind.u32.wrap (IntKind.u32.wrap (IntKind.u32.wrap ((Jk (PV.ar 143 v5) [7]).int + JF BinOp.xor IntKind.u32 (JF BinOp.xor IntKind.u32 (rr (Jk (PV.ar 143 v5) [4]).int 6) (rr (Jk (PV.ar 143 v5) [4]).int 11)) (rr (Jk (PV.ar 143 v5) [4]).int 25)) + JF BinOp.xor IntKind.u32 (JF BinOp.and IntKind.u32 (Jk (PV.ar 143 v5) [4]).int (Jk (PV.ar 143 v5) [5]).int) (JF BinOp.and IntKind.u32 (JF BinOp.xor IntKind.u32 (Int.ofNat (2 ^ IntKind.u32.bits - Nat.succ 0)) (Jk (PV.ar 143 v5) [4]).int) (Jk (PV.ar 143 v5) [6]).int)) + (Jk (PV.ar 159 v4) [v0.toNat]).int) + (Jk (PV.ar 159 v3) [v0.toNat]).int)))), .sc (.int .u32 (Jk (PV.ar 143 v5) [4]).int), .sc (.int .u32 (Jk (PV.ar 143 v5) [5]).int), .sc (.int .u32 (Jk (PV.ar 143 v5) [6]).int)]) else none else none else none else none else none else none else none else none else none else none else none else none else none else none else none else none else none else none else none else none else k0 v1 v2 v5
def Zf (f : Nat) (k0 : List PV -> List PV -> List PV -> Option Res) : Nat -> Int -> List PV -> List PV -> List PV -> List PV -> List PV -> Option Res
 | 0, _, _, _, _, _, _ => none
 | n + 1, v0, v1, v2, v3, v4, v5 => Ga f (Zf f k0 n) k0 v0 v1 v2 v3 v4 v5
theorem JoF (f : Nat) (k : Kont) (n : Nat) (v0 : Int) (v1 v2 v3 v4 v5 : List PV) : Jp tau 0 Ye (fun s k => ev tau F80 0 0 Jc7 (JfO ) s k) (n + 1) (Jc Ye N80 [.ptr 1824 [], .ptr 1825 [], .ptr 1826 [], .ptr 1827 [], .ptr 1828 [], .sc (.int .i64 v0)] [(1824, .box false 143 (PV.ar 143 v1)), (1825, .box false 143 (PV.ar 143 v2)), (1826, .box false 159 (PV.ar 159 v3)), (1827, .box false 159 (PV.ar 159 v4)), (1828, .box false 143 (PV.ar 143 v5))]) (Jt tau 0 Zd k) = Ga f (fun v0 v1 v2 v3 v4 v5 => Jp tau 0 Ye (fun s k => ev tau F80 0 0 Jc7 (JfO ) s k) n (Jc Ye N80 [.ptr 1824 [], .ptr 1825 [], .ptr 1826 [], .ptr 1827 [], .ptr 1828 [], .sc (.int .i64 v0)] [(1824, .box false 143 (PV.ar 143 v1)), (1825, .box false 143 (PV.ar 143 v2)), (1826, .box false 159 (PV.ar 159 v3)), (1827, .box false 159 (PV.ar 159 v4)), (1828, .box false 143 (PV.ar 143 v5))]) (Jt tau 0 Zd k)) (fun x0 x1 x2 => k (Ex.exit 0) (Jc Zd N80 [.ptr 1824 [], .ptr 1825 [], .ptr 1826 []] [(1824, .box false 143 (PV.ar 143 x0)), (1825, .box false 143 (PV.ar 143 x1)), (1826, .box false 143 (PV.ar 143 x2))])) v0 v1 v2 v3 v4 v5 := by kernel_rfl
theorem Ji8 (f : Nat) (k : Kont) : ∀ (n : Nat) (v0 : Int) (v1 v2 v3 v4 v5 : List PV), Jp tau 0 Ye (fun s k => ev tau F80 0 0 Jc7 (JfO ) s k) n (Jc Ye N80 [.ptr 1824 [], .ptr 1825 [], .ptr 1826 [], .ptr 1827 [], .ptr 1828 [], .sc (.int .i64 v0)] [(1824, .box false 143 (PV.ar 143 v1)), (1825, .box false 143 (PV.ar 143 v2)), (1826, .box false 159 (PV.ar 159 v3)), (1827, .box false 159 (PV.ar 159 v4)), (1828, .box false 143 (PV.ar 143 v5))]) (Jt tau 0 Zd k) = Zf f (fun x0 x1 x2 => k (Ex.exit 0) (Jc Zd N80 [.ptr 1824 [], .ptr 1825 [], .ptr 1826 []] [(1824, .box false 143 (PV.ar 143 x0)), (1825, .box false 143 (PV.ar 143 x1)), (1826, .box false 143 (PV.ar 143 x2))])) n v0 v1 v2 v3 v4 v5 | 0, _, _, _, _, _, _ => rfl | n + 1, v0, v1, v2, v3, v4, v5 => (JoF f k n v0 v1 v2 v3 v4 v5).trans (congrArg (fun r => Ga f r (fun x0 x1 x2 => k (Ex.exit 0) (Jc Zd N80 [.ptr 1824 [], .ptr 1825 [], .ptr 1826 []] [(1824, .box false 143 (PV.ar 143 x0)), (1825, .box false 143 (PV.ar 143 x1)), (1826, .box false 143 (PV.ar 143 x2))])) v0 v1 v2 v3 v4 v5) (by funext v0 v1 v2 v3 v4 v5; exact Ji8 f k n v0 v1 v2 v3 v4 v5))
def Jc9 (f : Nat) : List PV -> List (Nat × Ent) -> Kont -> Option Res
 | [.ptr 1824 [], .ptr 1825 [], .ptr 1826 [], .ptr 1827 [], .ptr 1828 [],
 PV.sc
  (Value.int IntKind.i64
   v0)], [(1824, .box false 143 (PV.ar 143 v1)), (1825, .box false 143 (PV.ar 143 v2)), (1826, .box false 159 (PV.ar 159 v3)), (1827, .box false 159 (PV.ar 159 v4)),
 (1828,
  Ent.box false 143
   (PV.ar 143
    v5))], k => Zf f (fun x0 x1 x2 => k (Ex.exit
 0) (Jc Zd N80 [.ptr 1824 [], .ptr 1825 [],
 PV.ptr 1826 []] [(1824, .box false 143 (PV.ar 143 x0)), (1825, .box false 143 (PV.ar 143 x1)), (1826, .box false 143 (PV.ar 143 x2))])) f v0 v1 v2 v3 v4 v5
 | _, _, _ => none
theorem Jto (f : Nat) : Je Jc7 JfO = [] := by kernel_rfl
theorem JxC (f : Nat) : (Item.l Jc7 Ye N80 (Jc9 f)).Ok tau Try.prog 0 := JJ Jq JhC Js (x := JfO) (nm2 := Zd) (Jl _ _ (by rw [Jto f]; intro q hq; cases hq)) fun vs hp k res hr => by
 unfold Jc9 at hr
 split at hr
 · exact ⟨f, 0, (Ji8 f _ f _ _ _ _ _ _ ).trans hr⟩
 · cases hr
def Gb (f : Nat) (rc : Int -> List PV -> List PV -> List PV -> Option Res) (k0 : List PV -> List PV -> Option Res) (v0 : Int) (v1 v2 v3 : List PV) : Option Res := bif decide (v0 < 8) then bif decide (0 <= v0) && decide (v0 < zi 8) && true then bif PV.isInt IntKind.u32 (Jk (PV.ar 143 v3) [v0.toNat]) && true then bif decide (0 <= v0) && decide (v0 < zi 8) && true then bif PV.isInt IntKind.u32 (Jk (PV.ar 143 v1) [v0.toNat]) && true then bif decide (0 <= v0) && decide (v0 < zi 8) && true then rc (IntKind.i64.wrap (v0 + 1)) v1 v2 (v3.set v0.toNat (.sc (.int .u32 (IntKind.u32.wrap ((Jk (PV.ar 143 v3) [v0.toNat]).int + (Jk (PV.ar 143 v1) [v0.toNat]).int))))) else none else none else none else none else none else k0 v2 v3
def Zg (f : Nat) (k0 : List PV -> List PV -> Option Res) : Nat -> Int -> List PV -> List PV -> List PV -> Option Res
 | 0, _, _, _, _ => none
 | n + 1, v0, v1, v2, v3 => Gb f (Zg f k0 n) k0 v0 v1 v2 v3
theorem JoG (f : Nat) (k : Kont) (n : Nat) (v0 : Int) (v1 v2 v3 : List PV) : Jp tau 0 Yf (fun s k => ev tau F80 0 0 Jc8 (JfP ) s k) (n + 1) (Jc Yf N80 [.ptr 1824 [], .ptr 1825 [], .ptr 1826 [], .sc (.int .i64 v0)] [(1824, .box false 143 (PV.ar 143 v1)), (1825, .box false 143 (PV.ar 143 v2)), (1826, .box false 143 (PV.ar 143 v3))]) (Jt tau 0 Ze k) = Gb f (fun v0 v1 v2 v3 => Jp tau 0 Yf (fun s k => ev tau F80 0 0 Jc8 (JfP ) s k) n (Jc Yf N80 [.ptr 1824 [], .ptr 1825 [], .ptr 1826 [], .sc (.int .i64 v0)] [(1824, .box false 143 (PV.ar 143 v1)), (1825, .box false 143 (PV.ar 143 v2)), (1826, .box false 143 (PV.ar 143 v3))]) (Jt tau 0 Ze k)) (fun x0 x1 => k (Ex.exit 2) (Jc Ze N80 [.ptr 1824 [], .ptr 1825 []] [(1824, .box false 143 (PV.ar 143 x0)), (1825, .box false 143 (PV.ar 143 x1))])) v0 v1 v2 v3 := by kernel_rfl
theorem Ji9 (f : Nat) (k : Kont) : ∀ (n : Nat) (v0 : Int) (v1 v2 v3 : List PV), Jp tau 0 Yf (fun s k => ev tau F80 0 0 Jc8 (JfP ) s k) n (Jc Yf N80 [.ptr 1824 [], .ptr 1825 [], .ptr 1826 [], .sc (.int .i64 v0)] [(1824, .box false 143 (PV.ar 143 v1)), (1825, .box false 143 (PV.ar 143 v2)), (1826, .box false 143 (PV.ar 143 v3))]) (Jt tau 0 Ze k) = Zg f (fun x0 x1 => k (Ex.exit 2) (Jc Ze N80 [.ptr 1824 [], .ptr 1825 []] [(1824, .box false 143 (PV.ar 143 x0)), (1825, .box false 143 (PV.ar 143 x1))])) n v0 v1 v2 v3 | 0, _, _, _, _ => rfl | n + 1, v0, v1, v2, v3 => (JoG f k n v0 v1 v2 v3).trans (congrArg (fun r => Gb f r (fun x0 x1 => k (Ex.exit 2) (Jc Ze N80 [.ptr 1824 [], .ptr 1825 []] [(1824, .box false 143 (PV.ar 143 x0)), (1825, .box false 143 (PV.ar 143 x1))])) v0 v1 v2 v3) (by funext v0 v1 v2 v3; exact Ji9 f k n v0 v1 v2 v3))
def Jda (f : Nat) : List PV -> List (Nat × Ent) -> Kont -> Option Res
 | [.ptr 1824 [], .ptr 1825 [], .ptr 1826 [],
 PV.sc
  (Value.int IntKind.i64
   v0)], [(1824, .box false 143 (PV.ar 143 v1)), (1825, .box false 143 (PV.ar 143 v2)),
 (1826,
  Ent.box false 143
   (PV.ar 143
    v3))], k => Zg f (fun x0 x1 => k (Ex.exit
 2) (Jc Ze N80 [.ptr 1824 [], .ptr 1825 []] [(1824, .box false 143 (PV.ar 143 x0)), (1825, .box false 143 (PV.ar 143 x1))])) f v0 v1 v2 v3
 | _, _, _ => none
theorem Jtp (f : Nat) : Je Jc8 JfP = [] := by kernel_rfl
theorem JxD (f : Nat) : (Item.l Jc8 Yf N80 (Jda f)).Ok tau Try.prog 0 := JJ Jq JhC Js (x := JfP) (nm2 := Ze) (Jl _ _ (by rw [Jtp f]; intro q hq; cases hq)) fun vs hp k res hr => by
 unfold Jda at hr
 split at hr
 · exact ⟨f, 0, (Ji9 f _ f _ _ _ _ ).trans hr⟩
 · cases hr
def g80 (f : Nat) (s : List PV) (nl fl : Bool) (b : List PV) (k : Res -> Option Res) : Option Res := bif Jo IntKind.u8 b && decide (b.length = 64) then Zf f (fun x0_0 x1_0 x2_0 => Zg f (fun x0_1 x1_1 => k (Res.mk (.ar 143 x1_1) [] [])) f (0) x0_0 x1_0 x2_0) f (0) s ([.sc (.int .u32 0), .sc (.int .u32 0), .sc (.int .u32 0), .sc (.int .u32 0), .sc (.int .u32 0), .sc (.int .u32 0), .sc (.int .u32 0), .sc (.int .u32 0)]) (pu IntKind.u32 (Qb (JA b))) ([.sc (.int .u32 1116352408), .sc (.int .u32 1899447441), .sc (.int .u32 3049323471), .sc (.int .u32 3921009573), .sc (.int .u32 961987163), .sc (.int .u32 1508970993), .sc (.int .u32 2453635748), .sc (.int .u32 2870763221), .sc (.int .u32 3624381080), .sc (.int .u32 310598401), .sc (.int .u32 607225278), .sc (.int .u32 1426881987), .sc (.int .u32 1925078388), .sc (.int .u32 2162078206), .sc (.int .u32 2614888103), .sc (.int .u32 3248222580), .sc (.int .u32 3835390401), .sc (.int .u32 4022224774), .sc (.int .u32 264347078), .sc (.int .u32 604807628), .sc (.int .u32 770255983), .sc (.int .u32 1249150122), .sc (.int .u32 1555081692), .sc (.int .u32 1996064986), .sc (.int .u32 2554220882), .sc (.int .u32 2821834349), .sc (.int .u32 2952996808), .sc (.int .u32 3210313671), .sc (.int .u32 3336571891), .sc (.int .u32 3584528711), .sc (.int .u32 113926993), .sc (.int .u32 338241895), .sc (.int .u32 666307205), .sc (.int .u32 773529912), .sc (.int .u32 1294757372), .sc (.int .u32 1396182291), .sc (.int .u32 1695183700), .sc (.int .u32 1986661051), .sc (.int .u32 2177026350), .sc (.int .u32 2456956037), .sc (.int .u32 2730485921), .sc (.int .u32 2820302411), .sc (.int .u32 3259730800), .sc (.int .u32 3345764771), .sc (.int .u32 3516065817), .sc (.int .u32 3600352804), .sc (.int .u32 4094571909), .sc (.int .u32 275423344), .sc (.int .u32 430227734), .sc (.int .u32 506948616), .sc (.int .u32 659060556), .sc (.int .u32 883997877), .sc (.int .u32 958139571), .sc (.int .u32 1322822218), .sc (.int .u32 1537002063), .sc (.int .u32 1747873779), .sc (.int .u32 1955562222), .sc (.int .u32 2024104815), .sc (.int .u32 2227730452), .sc (.int .u32 2361852424), .sc (.int .u32 2428436474), .sc (.int .u32 2756734187), .sc (.int .u32 3204031479), .sc (.int .u32 3329325298)]) s else none
theorem e80 (f : Nat) (s : List PV) (nl fl : Bool) (b : List PV) (k : Res -> Option Res) : JL tau F80 Try.f80 (Try.f80.body.get!) (Jtn (Jc9 f) (Jda f)) [] 0 [.ar 143 s, .ro 5 nl fl b] [] k = g80 f s nl fl b k := by kernel_rfl
theorem JBu (f : Nat) : Je (Try.f80.body.get!) (Jtn (Jc9 f) (Jda f)) = [.l Jc7 Ye N80 (Jc9 f), .l Jc8 Yf N80 (Jda f)] := by kernel_rfl
theorem JBv (f : Nat) : ∀ q ∈ Je (Try.f80.body.get!) (Jtn (Jc9 f) (Jda f)), q.Ok tau Try.prog 0 := by
 rw [JBu f]; simp only [List.forall_mem_cons, List.not_mem_nil, false_implies, implies_true, and_true]; exact ⟨JxC f, JxD f⟩
theorem JxE : Try.prog.funcs[80]? = some Try.f80 := by kernel_rfl
theorem JxF : Try.f80.body = some (Try.f80.body.get!) := by kernel_rfl
theorem JBw : Enters Try.prog 80 := enters_of JxE (by kernel_rfl) JxF
-- FN (sha.state).add
theorem Zh {R : List Int} (h : R.length = 8) (j : Nat) (hj : j < 8) : (pu .u32 R).getD j .top = .sc (.int .u32 (R.getD j 0)) := YW (by omega)
theorem Jq9 (W s : List Int) (hW : W.length = 64) (hs : s.length = 8) (f : Nat) (k0 : List PV -> List PV -> List PV -> Option Res) (a b : List PV) : ∀ (d i n : Nat), i + d = 64 -> d < n ->
  Zf f k0 n (i : Int) a b (pu .u32 W) (pu .u32 kks) (pu .u32 (G1 W s i)) = k0 a b (pu .u32 (G1 W s 64))
 | 0, i, n + 1, h, hn => by
   obtain rfl : i = 64 := by omega
   simp only [Zf, Ga]
   exact Jj (by decide)
 | d + 1, i, n + 1, h, hn => by
   have hl := Xp W s hs i
   have h1 : IntKind.i64.wrap ((i : Int) + 1) = ((i + 1 : Nat) : Int) := by rw [wrap_i64 (by omega) (by omega)]; omega
   have hk : (pu .u32 kks).getD i .top = .sc (.int .u32 (kks.getD i 0)) := YW (by show i < 64; omega)
   have hw : (pu .u32 W).getD i .top = .sc (.int .u32 (W.getD i 0)) := YW (by omega)
   have c1 : decide ((i : Int) < 64) = true := by simp; omega
   have c2 : decide (0 <= (i : Int)) = true := by simp
   have c3 : decide ((i : Int) < zi 64) = true := by simp; omega
   simp only [Zf, Ga, Xi, Int.toNat_natCast, h1, hk, hw, c1, c2, c3, Zh hl 0 (by omega), Zh hl 1 (by omega), Zh hl 2 (by omega), Zh hl 3 (by omega), Zh hl 4 (by omega), Zh hl 5 (by omega), Zh hl 6 (by omega), Zh hl 7 (by omega), PV.isInt, PV.int, decide_true, Bool.and_true, cond_true]
   exact Jq9 W s hW hs f k0 a b d (i + 1) n (by omega) (by omega)
theorem Jra (t s : List Int) (ht : t.length = 8) (hs : s.length = 8) (f : Nat) (k0 : List PV -> List PV -> Option Res) (a : List PV) : ∀ (d i n : Nat), i + d = 8 -> d < n ->
  Zg f k0 n (i : Int) (pu .u32 s) a (pu .u32 (Qv (fun j => ww (t.getD j 0 + s.getD j 0)) t i)) = k0 a (pu .u32 (Qv (fun j => ww (t.getD j 0 + s.getD j 0)) t 8))
 | 0, i, n + 1, h, hn => by
   obtain rfl : i = 8 := by omega
   simp only [Zg, Gb]
   exact Jj (by decide)
 | d + 1, i, n + 1, h, hn => by
   have hl : (Qv (fun j => ww (t.getD j 0 + s.getD j 0)) t i).length = 8 := by rw [V0 _ _ _ (by omega), ht]
   have h1 : IntKind.i64.wrap ((i : Int) + 1) = ((i + 1 : Nat) : Int) := by rw [wrap_i64 (by omega) (by omega)]; omega
   have c1 : decide ((i : Int) < 8) = true := by simp; omega
   have c2 : decide (0 <= (i : Int)) = true := by simp
   have c3 : decide ((i : Int) < zi 8) = true := by simp; omega
   have g1 : ((i : Int)).toNat = i := by omega
   simp only [Zg, Gb, Xi, g1, h1, c1, c2, c3, Zh hl i (by omega), Zh hs i (by omega), JcX _ t i (by omega), PV.isInt, PV.int, decide_true, Bool.and_true, cond_true, W5]
   have := Jra t s ht hs f k0 a d (i + 1) n (by omega) (by omega)
   rw [← Qs _ t i (by omega)] at this
   exact this
theorem Jtq (s bs : List Int) (hs : s.length = 8) (hb : bs.length = 64) (nl fl : Bool) (k : Res -> Option Res) : g80 100 (pu .u32 s) nl fl (pu .u8 bs) k = k ⟨.ar 143 (pu .u32 (Jhg s bs)), [], []⟩ := by
 have hW : (Qb bs).length = 64 := J8 bs 48
 have hc : (Jo .u8 (pu .u8 bs) && decide ((pu .u8 bs).length = 64)) = true := by simp [hb]
 refine (Ja hc).trans ?_
 rw [Q0]
 have h0 : ∀ k0 a b, Zf 100 k0 100 0 a b (pu .u32 (Qb bs)) (pu .u32 kks) (pu .u32 s) = k0 a b (pu .u32 (G1 (Qb bs) s 64)) := fun k0 a b => Jq9 (Qb bs) s hW hs 100 k0 a b 64 0 100 (by omega) (by omega)
 have ht := Xp (Qb bs) s hs 64
 have h1 : ∀ k0 a, Zg 100 k0 100 0 (pu .u32 s) a (pu .u32 (G1 (Qb bs) s 64)) = k0 a (pu .u32 (Jhg s bs)) := by
  intro k0 a
  have := Jra (G1 (Qb bs) s 64) s ht hs 100 k0 a 8 0 100 (by omega) (by omega)
  rw [QN] at this
  refine this.trans ?_
  have h2 := Wa (fun j => ww ((G1 (Qb bs) s 64).getD j 0 + s.getD j 0)) (G1 (Qb bs) s 64)
  rw [ht] at h2; rw [h2]; rfl
 exact (h0 _ _ _).trans (h1 _ _)
def JhD : List PV -> List Ent -> (Res -> Option Res) -> Option Res
 | [.ar 143 s, .ro 5 nl fl b], [], k => bif (Jo .u32 s && decide (s.length = 8)) && (Jo .u8 b && decide (b.length = 64)) then k ⟨.ar 143 (pu .u32 (Jhg (JA s) (JA b))), [], []⟩ else none
 | _, _, _ => none
def JxG : Sig := { own := [], run := JhD }
theorem JxH : Jh tau Try.prog 80 JxG := JY Jq JhC Js JxE JxF _ [] 0 [] JhD (JBv 100) fun xs es k res hr => by
 unfold JhD at hr
 split at hr
 · obtain ⟨hc, hr⟩ := JI hr
   simp only [Bool.and_eq_true, decide_eq_true_eq] at hc
   refine ⟨rfl, 0, (e80 100 _ _ _ _ _).trans ?_⟩
   rw [Qk hc.2.1, Qk hc.1.1, Jtq _ _ (by simpa using hc.1.2) (by simpa using hc.2.2)]
   exact hr
 · cases hr
def N78 : Nat := 33
def F78 : Fns := F0
theorem JhE : Jy tau Try.prog F78 := JE
def JbW : Code := Qn (Try.f78.body.get!) [1, 0, 1, 1, 1, 1, 0, 1, 0, 0]
def XB : Nm := [(0, .any), (3, .any), (19, .any)]
def Zi : Nm := [(0, .any)]
def JfQ : An := (.seq .leaf (.seq (.cond .leaf .leaf) (.seq (.block none (.seq .leaf .leaf)) .leaf)))
def Gc : Code := Qn (Try.f78.body.get!) [1, 0]
def Yg : Nm := [(0, .any), (3, .any)]
def Zj : Nm := [(2, .any)]
def Jdb (r1 : QV) : An := (.seq .leaf (.seq .leaf (.seq .leaf (.seq (.seq .leaf (.cond (.seq .leaf .leaf) .leaf)) (.seq (.seq .leaf (.block none (.sum XB N78 r1))) (.seq .leaf .leaf))))))
def Jtr (r0 : JkY) (r1 : QV) : An := (.seq .leaf (.ssum Yg N78 (Jdb r1) r0))
def Gd (f : Nat) (rc : Nat -> Int -> Int -> Bool -> List PV -> Option Res) (k0 : Nat -> Bool -> List PV -> Option Res) (v0 : Nat) (v1 v2 : Int) (v3 : Bool) (v4 : List PV) : Option Res := bif decide (v2 < 8) then bif decide (0 <= IntKind.i64.wrap (56 - IntKind.i64.wrap (8 * v2))) && true then bif Jf (v0 + 1) 1 && true then rc (v0 + 1) v1 (IntKind.i64.wrap (v2 + 1)) (v3 && false) (List.take v0 v4 ++ [.sc (.int .u8 (IntKind.u8.wrap (Jz IntKind.u64 v1 (IntKind.i64.wrap (56 - IntKind.i64.wrap (8 * v2))))))]) else none else none else k0 v0 v3 v4
def XC (f : Nat) (k0 : Nat -> Bool -> List PV -> Option Res) : Nat -> Nat -> Int -> Int -> Bool -> List PV -> Option Res
 | 0, _, _, _, _, _ => none
 | n + 1, v0, v1, v2, v3, v4 => Gd f (XC f k0 n) k0 v0 v1 v2 v3 v4
theorem JoH (f : Nat) (k : Kont) (n v0 : Nat) (v1 v2 : Int) (v3 : Bool) (v4 : List PV) : Jp tau 1 XB (fun s k => ev tau F78 1 0 JbW (JfQ ) s k) (n + 1) (Jc XB N78 [.ow 5 545 [] 0 v0 none, .sc (.int .u64 v1), .sc (.int .i64 v2)] [(0, .dead), (545, .vec false 5 v3 v4)]) (Jt tau 1 Zi k) = Gd f (fun v0 v1 v2 v3 v4 => Jp tau 1 XB (fun s k => ev tau F78 1 0 JbW (JfQ ) s k) n (Jc XB N78 [.ow 5 545 [] 0 v0 none, .sc (.int .u64 v1), .sc (.int .i64 v2)] [(0, .dead), (545, .vec false 5 v3 v4)]) (Jt tau 1 Zi k)) (fun x0 x1 x2 => k (Ex.exit 0) (Jc Zi N78 [.ow 5 545 [] 0 x0 none] [(0, .dead), (545, .vec false 5 x1 x2)])) v0 v1 v2 v3 v4 := by kernel_rfl
theorem Jja (f : Nat) (k : Kont) : ∀ (n v0 : Nat) (v1 v2 : Int) (v3 : Bool) (v4 : List PV), Jp tau 1 XB (fun s k => ev tau F78 1 0 JbW (JfQ ) s k) n (Jc XB N78 [.ow 5 545 [] 0 v0 none, .sc (.int .u64 v1), .sc (.int .i64 v2)] [(0, .dead), (545, .vec false 5 v3 v4)]) (Jt tau 1 Zi k) = XC f (fun x0 x1 x2 => k (Ex.exit 0) (Jc Zi N78 [.ow 5 545 [] 0 x0 none] [(0, .dead), (545, .vec false 5 x1 x2)])) n v0 v1 v2 v3 v4 | 0, _, _, _, _, _ => rfl | n + 1, v0, v1, v2, v3, v4 => (JoH f k n v0 v1 v2 v3 v4).trans (congrArg (fun r => Gd f r (fun x0 x1 x2 => k (Ex.exit 0) (Jc Zi N78 [.ow 5 545 [] 0 x0 none] [(0, .dead), (545, .vec false 5 x1 x2)])) v0 v1 v2 v3 v4) (by funext v0 v1 v2 v3 v4; exact Jja f k n v0 v1 v2 v3 v4))
def YI (f : Nat) : List PV -> List (Nat × Ent) -> Kont -> Option Res
 | [.ow 5 545 [] 0 v0 none, .sc (.int .u64 v1),
 PV.sc
  (Value.int IntKind.i64
   v2)], [(0, .dead),
 (545, .vec false 5 v3 v4)], k => XC f (fun x0 x1 x2 => k (Ex.exit 0) (Jc Zi N78 [.ow 5 545 [] 0 x0 none] [(0, .dead), (545, .vec false 5 x1 x2)])) f v0 v1 v2 v3 v4
 | _, _, _ => none
theorem Jts (f : Nat) : Je JbW JfQ = [] := by kernel_rfl
theorem JlP (f : Nat) : (Item.l JbW XB N78 (YI f)).Ok tau Try.prog 1 := JJ Jq JhE Js (x := JfQ) (nm2 := Zi) (Jl _ _ (by rw [Jts f]; intro q hq; cases hq)) fun vs hp k res hr => by
 unfold YI at hr
 split at hr
 · exact ⟨f, 0, (Jja f _ f _ _ _ _ _ ).trans hr⟩
 · cases hr
def Ge (f : Nat) (rc : Nat -> Int -> Bool -> List PV -> Option Res) (k0 : Nat -> Bool -> List PV -> Option Res) (v0 : Nat) (v1 : Int) (v2 : Bool) (v3 : List PV) : Option Res := bif (zi v0).tmod 64 != 56 then bif Jf (v0 + 1) 1 && true then rc (v0 + 1) v1 (v2 && false) (List.take v0 v3 ++ [.sc (.int .u8 0)]) else none else XC f (fun x0_0 x1_0 x2_0 => k0 x0_0 x1_0 x2_0) f v0 v1 (0) v2 v3
def Vs (f : Nat) (k0 : Nat -> Bool -> List PV -> Option Res) : Nat -> Nat -> Int -> Bool -> List PV -> Option Res
 | 0, _, _, _, _ => none
 | n + 1, v0, v1, v2, v3 => Ge f (Vs f k0 n) k0 v0 v1 v2 v3
theorem JoI (f : Nat) (k : Kont) (n v0 : Nat) (v1 : Int) (v2 : Bool) (v3 : List PV) : J7 tau 1 Yg (hasLabel Gc) (fun l s k => JV tau F78 1 0 Gc (Jdb (YI f)) l s k) (n + 1) 0 (Jc Yg N78 [.ow 5 545 [] 0 v0 none, .sc (.int .u64 v1)] [(0, .dead), (545, .vec false 5 v2 v3)]) (Jt tau 1 Zj k) = Ge f (fun v0 v1 v2 v3 => J7 tau 1 Yg (hasLabel Gc) (fun l s k => JV tau F78 1 0 Gc (Jdb (YI f)) l s k) n 0 (Jc Yg N78 [.ow 5 545 [] 0 v0 none, .sc (.int .u64 v1)] [(0, .dead), (545, .vec false 5 v2 v3)]) (Jt tau 1 Zj k)) (fun x0 x1 x2 => k Ex.ret (Jc Zj N78 [.ow 5 545 [] 0 x0 none] [(0, .dead), (545, .vec false 5 x1 x2)])) v0 v1 v2 v3 := by kernel_rfl
theorem Jjb (f : Nat) (k : Kont) : ∀ (n v0 : Nat) (v1 : Int) (v2 : Bool) (v3 : List PV), J7 tau 1 Yg (hasLabel Gc) (fun l s k => JV tau F78 1 0 Gc (Jdb (YI f)) l s k) n 0 (Jc Yg N78 [.ow 5 545 [] 0 v0 none, .sc (.int .u64 v1)] [(0, .dead), (545, .vec false 5 v2 v3)]) (Jt tau 1 Zj k) = Vs f (fun x0 x1 x2 => k Ex.ret (Jc Zj N78 [.ow 5 545 [] 0 x0 none] [(0, .dead), (545, .vec false 5 x1 x2)])) n v0 v1 v2 v3 | 0, _, _, _, _ => rfl | n + 1, v0, v1, v2, v3 => (JoI f k n v0 v1 v2 v3).trans (congrArg (fun r => Ge f r (fun x0 x1 x2 => k Ex.ret (Jc Zj N78 [.ow 5 545 [] 0 x0 none] [(0, .dead), (545, .vec false 5 x1 x2)])) v0 v1 v2 v3) (by funext v0 v1 v2 v3; exact Jjb f k n v0 v1 v2 v3))
def Jdc (f : Nat) : Nat -> List PV -> List (Nat × Ent) -> Kont -> Option Res
 | 0, [.ow 5 545 [] 0 v0 none,
 PV.sc
  (Value.int IntKind.u64
   v1)], [(0, .dead),
 (545, .vec false 5 v2 v3)], k => Vs f (fun x0 x1 x2 => k Ex.ret (Jc Zj N78 [.ow 5 545 [] 0 x0 none] [(0, .dead), (545, .vec false 5 x1 x2)])) f v0 v1 v2 v3
 | _, _, _, _ => none
theorem Jtt (f : Nat) : Je Gc (Jdb (YI f)) = [.l JbW XB N78 (YI f)] := by kernel_rfl
theorem Jtu (f : Nat) : (Item.s Gc Yg N78 (Jdc f)).Ok tau Try.prog 1 := W4 Jq JhE Js (x := (Jdb (YI f))) (nm2 := Zj) (Jl _ _ (by rw [Jtt f]; simp only [List.forall_mem_cons, List.not_mem_nil, false_implies, implies_true, and_true]; exact JlP f)) fun l vs hp k res hr => by
 unfold Jdc at hr
 split at hr
 · exact ⟨f, 0, (Jjb f _ f _ _ _ _ ).trans hr⟩
 · cases hr
def g78 (f : Nat) (nl : Bool) (l : List PV) (n : Nat) (k : Res -> Option Res) : Option Res := bif Jf (n + 1) 1 && true then bif (zi (n + 1)).tmod 64 != 56 then bif Jf (n + 1 + 1) 1 && true then Vs f (fun x0_1 x1_1 x2_1 => k (Res.mk (.ow 5 16 [] 0 x0_1 none) [.dead] [.vec false 5 x1_1 x2_1])) f (n + 1 + 1) (IntKind.u64.wrap (IntKind.u64.wrap (zi n) * 8)) (nl && false && false) (List.take (n + 1) (List.take n l ++ [.sc (.int .u8 128)]) ++ [.sc (.int .u8 0)]) else none else XC f (fun x0_2 x1_2 x2_2 => k (Res.mk (.ow 5 16 [] 0 x0_2 none) [.dead] [.vec false 5 x1_2 x2_2])) f (n + 1) (IntKind.u64.wrap (IntKind.u64.wrap (zi n) * 8)) (0) (nl && false) (List.take n l ++ [.sc (.int .u8 128)]) else none
theorem e78 (f : Nat) (nl : Bool) (l : List PV) (n : Nat) (k : Res -> Option Res) : JL tau F78 Try.f78 (Try.f78.body.get!) (Jtr (Jdc f) (YI f)) [] 0 [.ow 5 0 [] 0 n none] [.vec false 5 nl l] k = g78 f nl l n k := by kernel_rfl
theorem JBx (f : Nat) : Je (Try.f78.body.get!) (Jtr (Jdc f) (YI f)) = [.s Gc Yg N78 (Jdc f), .l JbW XB N78 (YI f)] := by kernel_rfl
theorem JBy (f : Nat) : ∀ q ∈ Je (Try.f78.body.get!) (Jtr (Jdc f) (YI f)), q.Ok tau Try.prog 1 := by
 rw [JBx f]; simp only [List.forall_mem_cons, List.not_mem_nil, false_implies, implies_true, and_true]; exact ⟨Jtu f, JlP f⟩
theorem JxI : Try.prog.funcs[78]? = some Try.f78 := by kernel_rfl
theorem JxJ : Try.f78.body = some (Try.f78.body.get!) := by kernel_rfl
theorem JBz : Enters Try.prog 78 := enters_of JxI (by kernel_rfl) JxJ
-- FN sha.padded
def Jtv (n : Int) (i : Nat) : Int := IntKind.u8.wrap (Jz .u64 n (56 - 8 * (i : Int)))
theorem Jrb (f : Nat) (N : Int) (k0 : Nat -> Bool -> List PV -> Option Res) (L : List Int) (hL : L.length <= 140737488355300) : ∀ (d i n : Nat) (z : Bool), i + d = 8 -> d < n -> (d = 0 -> z = false) ->
  XC f k0 n (L.length + i) N (i : Int) z (pu .u8 (L ++ (List.range i).map (Jtv N))) = k0 (L.length + 8) false (pu .u8 (L ++ (List.range 8).map (Jtv N)))
 | 0, i, n + 1, z, h, hn, hz => by
   obtain rfl : i = 8 := by omega
   simp only [XC, Gd]
   rw [hz rfl]
   exact Jj (by decide)
 | d + 1, i, n + 1, z, h, hn, hz => by
   have h1 : IntKind.i64.wrap ((i : Int) + 1) = ((i + 1 : Nat) : Int) := by rw [wrap_i64 (by omega) (by omega)]; omega
   have h8 : IntKind.i64.wrap (8 * (i : Int)) = 8 * (i : Int) := wrap_i64 (by omega) (by omega)
   have h9 : IntKind.i64.wrap (56 - 8 * (i : Int)) = 56 - 8 * (i : Int) := wrap_i64 (by omega) (by omega)
   have c1 : decide ((i : Int) < 8) = true := by simp; omega
   have c2 : decide (0 <= 56 - 8 * (i : Int)) = true := by simp; omega
   have c3 : Jf (L.length + i + 1) 1 = true := by simp [Jf]; omega
   have hlen : (L ++ (List.range i).map (Jtv N)).length = L.length + i := by simp
   simp only [XC, Gd, h1, h8, h9, c1, c2, c3, Bool.and_true, cond_true, Xh, Bool.and_false]
   rw [List.take_of_length_le (by omega)]
   have := Jrb f N k0 L hL d (i + 1) n false (by omega) (by omega) (fun _ => rfl)
   rw [List.range_succ, List.map_append, ← List.append_assoc, JO] at this
   exact this
theorem Jrc (f : Nat) (N : Int) (k0 : Nat -> Bool -> List PV -> Option Res) (hf : 9 <= f) : ∀ (d n : Nat) (L : List Int) (z : Bool), zs L.length = d -> d < n -> L.length + d <= 140737488355200 ->
  Vs f k0 n L.length N z (pu .u8 L) = XC f k0 f (L.length + d) N 0 (z && decide (d = 0)) (pu .u8 (L ++ List.replicate d 0))
 | 0, n + 1, L, z, hd, hn, hL => by
   simp only [Vs, Ge, JbM]
   refine (Jj (by simp [zs] at hd ⊢; omega)).trans ?_
   simp
 | d + 1, n + 1, L, z, hd, hn, hL => by
   have hlt : d + 1 < 64 := by rw [← hd]; unfold zs; omega
   have c3 : Jf (L.length + 1) 1 = true := by simp [Jf]; omega
   simp only [Vs, Ge, JbM, c3, Bool.and_true, cond_true, Xh, Bool.and_false]
   refine (Ja (by simp [zs] at hd ⊢; omega)).trans ?_
   rw [List.take_of_length_le (Nat.le_refl _)]
   have := Jrc f N k0 hf d n (L ++ [0]) false (by simp [zs] at hd ⊢; omega) (by omega) (by simp; omega)
   simp only [List.length_append, List.length_cons, List.length_nil, Nat.zero_add, JO] at this
   refine this.trans ?_
   rw [show L.length + 1 + d = L.length + (d + 1) from by omega, List.replicate_succ]
   simp
theorem Jtw (nl : Bool) (bs : List Int) (hb : bs.length <= 140737488355000) (k : Res -> Option Res) : g78 100 nl (pu .u8 bs) bs.length k = k ⟨.ow 5 16 [] 0 (QB bs).length none, [.dead], [.vec false 5 false (pu .u8 (QB bs))]⟩ := by
 have c1 : (Jf (bs.length + 1) 1 && true) = true := by simp [Jf]; omega
 have c2 : (Jf (bs.length + 1 + 1) 1 && true) = true := by simp [Jf]; omega
 have hlen : (QB bs).length = bs.length + 1 + zs (bs.length + 1) + 8 := by simp [QB, Job]; omega
 have hz : zs (bs.length + 1) < 64 := by unfold zs; omega
 refine (Ja c1).trans ?_
 rw [JbM, Xh, List.take_of_length_le (Nat.le_refl _)]
 have fin : ∀ z, XC 100 (fun x0_2 x1_2 x2_2 => k (Res.mk (PV.ow 5 16 [] 0 x0_2 none) [Ent.dead] [Ent.vec false 5 x1_2 x2_2])) 100 (bs.length + 1 + zs (bs.length + 1)) (IntKind.u64.wrap (IntKind.u64.wrap (zi bs.length) * 8)) 0 z (pu .u8 (bs ++ [128] ++ List.replicate (zs (bs.length + 1)) 0)) = k ⟨.ow 5 16 [] 0 (QB bs).length none, [.dead], [.vec false 5 false (pu .u8 (QB bs))]⟩ := by
  intro z
  have := Jrb 100 (IntKind.u64.wrap (IntKind.u64.wrap (zi bs.length) * 8)) (fun x0_2 x1_2 x2_2 => k (Res.mk (PV.ow 5 16 [] 0 x0_2 none) [Ent.dead] [Ent.vec false 5 x1_2 x2_2])) (bs ++ [128] ++ List.replicate (zs (bs.length + 1)) 0) (by simp; omega) 8 0 100 z (by omega) (by omega) (by omega)
  have hl2 : (bs ++ [128] ++ List.replicate (zs (bs.length + 1)) 0).length = bs.length + 1 + zs (bs.length + 1) := by simp; omega
  rw [hl2] at this
  simp only [List.range_zero, List.map_nil, List.append_nil, Nat.add_zero] at this
  rw [hlen]
  exact this
 cases hc : (((((bs.length + 1) % 64 : Nat) : Int)) != 56) with
 | true =>
  refine (Ja rfl).trans ((Ja c2).trans ?_)
  have hc' : ((bs.length + 1) % 64 : Nat) ≠ 56 := by simp at hc; omega
  have hz1 : zs (bs.length + 1 + 1) + 1 = zs (bs.length + 1) := by unfold zs; omega
  have := Jrc 100 (IntKind.u64.wrap (IntKind.u64.wrap (zi bs.length) * 8)) (fun x0_1 x1_1 x2_1 => k (Res.mk (PV.ow 5 16 [] 0 x0_1 none) [Ent.dead] [Ent.vec false 5 x1_1 x2_1])) (by omega) (zs (bs.length + 1 + 1)) 100 (bs ++ [128] ++ [0]) (nl && false && false) (by simp) (by unfold zs; omega) (by simp; omega)
  have h0 : pu .u8 (bs ++ [128] ++ [0]) = List.take (bs.length + 1) (pu .u8 bs ++ [PV.sc (Value.int IntKind.u8 128)]) ++ [PV.sc (Value.int IntKind.u8 0)] := by
   rw [List.take_of_length_le (by simp)]; simp
  rw [h0] at this
  simp only [List.length_append, List.length_cons, List.length_nil, Nat.zero_add] at this
  refine this.trans ?_
  have h3 : bs ++ [128] ++ [0] ++ List.replicate (zs (bs.length + 1 + 1)) 0 = bs ++ [128] ++ List.replicate (zs (bs.length + 1)) 0 := by
   rw [← hz1, List.replicate_succ]; simp
  rw [h3, show bs.length + 1 + 1 + zs (bs.length + 1 + 1) = bs.length + 1 + zs (bs.length + 1) from by omega]
  exact fin _
 | false =>
  refine (Jj rfl).trans ?_
  have hc' : ((bs.length + 1) % 64 : Nat) = 56 := by simp at hc; omega
  have hz0 : zs (bs.length + 1) = 0 := by unfold zs; omega
  have := fin (nl && false)
  rw [hz0] at this
  simpa using this
def JhF : List PV -> List Ent -> (Res -> Option Res) -> Option Res
 | [.ow 5 0 [] 0 n none], [.vec false 5 nl l], k => bif Jo .u8 l && (decide (n = l.length) && decide (l.length <= 140737488355000)) then k ⟨.ow 5 16 [] 0 (QB (JA l)).length none, [.dead], [.vec false 5 false (pu .u8 (QB (JA l)))]⟩ else none
 | _, _, _ => none
def JxK : Sig := { own := [true], run := JhF }
theorem JxL : Jh tau Try.prog 78 JxK := JY Jq JhE Js JxI JxJ _ [] 1 [true] JhF (JBy 100) fun xs es k res hr => by
 unfold JhF at hr
 split at hr
 · obtain ⟨hc, hr⟩ := JI hr
   simp only [Bool.and_eq_true, decide_eq_true_eq] at hc
   refine ⟨rfl, 0, (e78 100 _ _ _ _).trans ?_⟩
   rw [hc.2.1, Qk hc.1, JD, Jtw _ _ (by simpa using hc.2.2)]
   exact hr
 · cases hr
def F77 : Fns := F0
theorem Jtx : Jy tau Try.prog F77 := JE
def JoJ : An := (.seq .leaf (.seq .leaf .leaf))
def g77 (f : Nat) (k : Res -> Option Res) : Option Res := k (Res.mk (.ar 143 [.sc (.int .u32 1779033703), .sc (.int .u32 3144134277), .sc (.int .u32 1013904242), .sc (.int .u32 2773480762), .sc (.int .u32 1359893119), .sc (.int .u32 2600822924), .sc (.int .u32 528734635), .sc (.int .u32 1541459225)]) [] [])
theorem e77 (f : Nat) (k : Res -> Option Res) : JL tau F77 Try.f77 (Try.f77.body.get!) JoJ [.ro] 0 [] [] k = g77 f k := by kernel_rfl
theorem JBA (f : Nat) : Je (Try.f77.body.get!) JoJ = [] := by kernel_rfl
theorem JBB (f : Nat) : ∀ q ∈ Je (Try.f77.body.get!) JoJ, q.Ok tau Try.prog 0 := by
 rw [JBA f]; intro q hq; cases hq
theorem JxM : Try.prog.funcs[77]? = some Try.f77 := by kernel_rfl
theorem JxN : Try.f77.body = some (Try.f77.body.get!) := by kernel_rfl
theorem JBC : Enters Try.prog 77 := enters_of JxM (by kernel_rfl) JxN
def JlQ : List PV -> List Ent -> (Res -> Option Res) -> Option Res
 | [], [], k => g77 0  k
 | _, _, _ => none
def s77 : Sig := { own := [], run := JlQ }
theorem JBD : Jh tau Try.prog 77 s77 := JY Jq Jtx Js JxM JxN JoJ [.ro] 0 [] JlQ (JBB 0) fun xs es k res hr => by
 unfold JlQ at hr
 split at hr
 · exact ⟨rfl, 0, (e77 0  _).trans hr⟩
 · cases hr
def N36 : Nat := 37
def F36 : Fns := JH 77 s77 (JH 78 JxK (JH 79 Joh (JH 80 JxG F0)))
theorem JhG : Jy tau Try.prog F36 := (((JE.add JxH JBw).add Jlz JsC).add JxL JBz).add JBD JBC
def Jdd : Code := Qn (Try.f36.body.get!) [1, 1, 0, 1, 0, 0]
def Yh : Nm := [(2, .any), (3, .any), (4, .ro)]
def Zk : Nm := [(2, .any), (3, .any)]
def JfR : An := (.seq (.seq .leaf (.cond .leaf .leaf)) (.seq (.block none .leaf) .leaf))
def Jde : Code := Qn (Try.f36.body.get!) [1, 1, 1, 1, 0, 1, 0, 0]
def Yi : Nm := [(2, .any), (3, .any), (5, .any), (20, .any)]
def Zl : Nm := [(2, .any), (5, .any)]
def JfS : An := (.seq .leaf (.seq (.cond .leaf .leaf) (.seq (.block none (.seq .leaf .leaf)) .leaf)))
def JoK (r0 : QV) (r1 : QV) : An := (.seq .leaf (.seq .leaf (.seq (.seq .leaf (.block none (.sum Yh N36 r0))) (.seq .leaf (.seq (.seq .leaf (.block none (.sum Yi N36 r1))) (.seq .leaf .leaf))))))
def Gf (f : Nat) (rc : List PV -> List PV -> List PV -> Option Res) (k0 : List PV -> List PV -> Option Res) (v0 v1 v2 : List PV) : Option Res := bif decide (zi v0.length > 0) then bif decide (64 <= v0.length) && true then bif Jo IntKind.u32 v2 && decide (v2.length = 8) && (Jo IntKind.u8 (List.take 64 v0) && decide ((List.take 64 v0).length = 64)) then bif decide (64 <= v0.length) && decide (v0.length <= v0.length) && true then rc (List.drop 64 (List.take v0.length v0)) v1 (pu IntKind.u32 (Jhg (JA v2) (JA (List.take 64 v0)))) else none else none else none else k0 v1 v2
def Zm (f : Nat) (k0 : List PV -> List PV -> Option Res) : Nat -> List PV -> List PV -> List PV -> Option Res
 | 0, _, _, _ => none
 | n + 1, v0, v1, v2 => Gf f (Zm f k0 n) k0 v0 v1 v2
theorem JoL (f : Nat) (k : Kont) (n : Nat) (v0 v1 v2 : List PV) : Jp tau 0 Yh (fun s k => ev tau F36 0 0 Jdd (JfR ) s k) (n + 1) (Jc Yh N36 [.ptr 608 [], .ptr 609 [], .ro 5 false false v0] [(608, .box false 37 (PV.ar 37 v1)), (609, .box false 143 (PV.ar 143 v2))]) (Jt tau 0 Zk k) = Gf f (fun v0 v1 v2 => Jp tau 0 Yh (fun s k => ev tau F36 0 0 Jdd (JfR ) s k) n (Jc Yh N36 [.ptr 608 [], .ptr 609 [], .ro 5 false false v0] [(608, .box false 37 (PV.ar 37 v1)), (609, .box false 143 (PV.ar 143 v2))]) (Jt tau 0 Zk k)) (fun x0 x1 => k (Ex.exit 0) (Jc Zk N36 [.ptr 608 [], .ptr 609 []] [(608, .box false 37 (PV.ar 37 x0)), (609, .box false 143 (PV.ar 143 x1))])) v0 v1 v2 := by kernel_rfl
theorem Jjc (f : Nat) (k : Kont) : ∀ (n : Nat) (v0 v1 v2 : List PV), Jp tau 0 Yh (fun s k => ev tau F36 0 0 Jdd (JfR ) s k) n (Jc Yh N36 [.ptr 608 [], .ptr 609 [], .ro 5 false false v0] [(608, .box false 37 (PV.ar 37 v1)), (609, .box false 143 (PV.ar 143 v2))]) (Jt tau 0 Zk k) = Zm f (fun x0 x1 => k (Ex.exit 0) (Jc Zk N36 [.ptr 608 [], .ptr 609 []] [(608, .box false 37 (PV.ar 37 x0)), (609, .box false 143 (PV.ar 143 x1))])) n v0 v1 v2 | 0, _, _, _ => rfl | n + 1, v0, v1, v2 => (JoL f k n v0 v1 v2).trans (congrArg (fun r => Gf f r (fun x0 x1 => k (Ex.exit 0) (Jc Zk N36 [.ptr 608 [], .ptr 609 []] [(608, .box false 37 (PV.ar 37 x0)), (609, .box false 143 (PV.ar 143 x1))])) v0 v1 v2) (by funext v0 v1 v2; exact Jjc f k n v0 v1 v2))
def JbX (f : Nat) : List PV -> List (Nat × Ent) -> Kont -> Option Res
 | [.ptr 608 [], .ptr 609 [],
 PV.ro 5 false false
  v0], [(608, .box false 37 (PV.ar 37 v1)),
 (609,
  Ent.box false 143
   (PV.ar 143
    v2))], k => Zm f (fun x0 x1 => k (Ex.exit 0) (Jc Zk N36 [.ptr 608 [], .ptr 609 []] [(608, .box false 37 (PV.ar 37 x0)), (609, .box false 143 (PV.ar 143 x1))])) f v0 v1 v2
 | _, _, _ => none
theorem Jty (f : Nat) : Je Jdd JfR = [] := by kernel_rfl
theorem JxO (f : Nat) : (Item.l Jdd Yh N36 (JbX f)).Ok tau Try.prog 0 := JJ Jq JhG Js (x := JfR) (nm2 := Zk) (Jl _ _ (by rw [Jty f]; intro q hq; cases hq)) fun vs hp k res hr => by
 unfold JbX at hr
 split at hr
 · exact ⟨f, 0, (Jjc f _ f _ _ _ ).trans hr⟩
 · cases hr
def Gg (f : Nat) (rc : Int -> List PV -> List PV -> List PV -> Option Res) (k0 : List PV -> List PV -> Option Res) (v0 : Int) (v1 v2 v3 : List PV) : Option Res := bif decide (v0 < 32) then bif decide (0 <= IntKind.i64.wrap (v0.tdiv 4)) && decide (IntKind.i64.wrap (v0.tdiv 4) < zi 8) && true then bif PV.isInt IntKind.u32 (Jk (PV.ar 143 v2) [(IntKind.i64.wrap (v0.tdiv 4)).toNat]) && true then bif decide (0 <= IntKind.i64.wrap (24 - IntKind.i64.wrap (8 * v0.tmod 4))) && true then bif decide (0 <= v0) && decide (v0 < zi 32) && true then rc (IntKind.i64.wrap (v0 + 1)) v1 v2 (v3.set v0.toNat (.sc (.int .u8 (IntKind.u8.wrap (Jz IntKind.u32 (Jk (PV.ar 143 v2) [(IntKind.i64.wrap (v0.tdiv 4)).toNat]).int (IntKind.i64.wrap (24 - IntKind.i64.wrap (8 * v0.tmod 4)))))))) else none else none else none else none else k0 v1 v3
def Zn (f : Nat) (k0 : List PV -> List PV -> Option Res) : Nat -> Int -> List PV -> List PV -> List PV -> Option Res
 | 0, _, _, _, _ => none
 | n + 1, v0, v1, v2, v3 => Gg f (Zn f k0 n) k0 v0 v1 v2 v3
theorem JoM (f : Nat) (k : Kont) (n : Nat) (v0 : Int) (v1 v2 v3 : List PV) : Jp tau 0 Yi (fun s k => ev tau F36 0 0 Jde (JfS ) s k) (n + 1) (Jc Yi N36 [.ptr 608 [], .ptr 609 [], .ptr 610 [], .sc (.int .i64 v0)] [(608, .box false 37 (PV.ar 37 v1)), (609, .box false 143 (PV.ar 143 v2)), (610, .box false 37 (PV.ar 37 v3))]) (Jt tau 0 Zl k) = Gg f (fun v0 v1 v2 v3 => Jp tau 0 Yi (fun s k => ev tau F36 0 0 Jde (JfS ) s k) n (Jc Yi N36 [.ptr 608 [], .ptr 609 [], .ptr 610 [], .sc (.int .i64 v0)] [(608, .box false 37 (PV.ar 37 v1)), (609, .box false 143 (PV.ar 143 v2)), (610, .box false 37 (PV.ar 37 v3))]) (Jt tau 0 Zl k)) (fun x0 x1 => k (Ex.exit 2) (Jc Zl N36 [.ptr 608 [], .ptr 609 []] [(608, .box false 37 (PV.ar 37 x0)), (609, .box false 37 (PV.ar 37 x1))])) v0 v1 v2 v3 := by kernel_rfl
theorem Jjd (f : Nat) (k : Kont) : ∀ (n : Nat) (v0 : Int) (v1 v2 v3 : List PV), Jp tau 0 Yi (fun s k => ev tau F36 0 0 Jde (JfS ) s k) n (Jc Yi N36 [.ptr 608 [], .ptr 609 [], .ptr 610 [], .sc (.int .i64 v0)] [(608, .box false 37 (PV.ar 37 v1)), (609, .box false 143 (PV.ar 143 v2)), (610, .box false 37 (PV.ar 37 v3))]) (Jt tau 0 Zl k) = Zn f (fun x0 x1 => k (Ex.exit 2) (Jc Zl N36 [.ptr 608 [], .ptr 609 []] [(608, .box false 37 (PV.ar 37 x0)), (609, .box false 37 (PV.ar 37 x1))])) n v0 v1 v2 v3 | 0, _, _, _, _ => rfl | n + 1, v0, v1, v2, v3 => (JoM f k n v0 v1 v2 v3).trans (congrArg (fun r => Gg f r (fun x0 x1 => k (Ex.exit 2) (Jc Zl N36 [.ptr 608 [], .ptr 609 []] [(608, .box false 37 (PV.ar 37 x0)), (609, .box false 37 (PV.ar 37 x1))])) v0 v1 v2 v3) (by funext v0 v1 v2 v3; exact Jjd f k n v0 v1 v2 v3))
def JbY (f : Nat) : List PV -> List (Nat × Ent) -> Kont -> Option Res
 | [.ptr 608 [], .ptr 609 [], .ptr 610 [],
 PV.sc
  (Value.int IntKind.i64
   v0)], [(608, .box false 37 (PV.ar 37 v1)), (609, .box false 143 (PV.ar 143 v2)),
 (610,
  Ent.box false 37
   (PV.ar 37
    v3))], k => Zn f (fun x0 x1 => k (Ex.exit 2) (Jc Zl N36 [.ptr 608 [], .ptr 609 []] [(608, .box false 37 (PV.ar 37 x0)), (609, .box false 37 (PV.ar 37 x1))])) f v0 v1 v2 v3
 | _, _, _ => none
theorem Jtz (f : Nat) : Je Jde JfS = [] := by kernel_rfl
theorem JxP (f : Nat) : (Item.l Jde Yi N36 (JbY f)).Ok tau Try.prog 0 := JJ Jq JhG Js (x := JfS) (nm2 := Zl) (Jl _ _ (by rw [Jtz f]; intro q hq; cases hq)) fun vs hp k res hr => by
 unfold JbY at hr
 split at hr
 · exact ⟨f, 0, (Jjd f _ f _ _ _ _ ).trans hr⟩
 · cases hr
def g36 (f : Nat) (nl fl : Bool) (l : List PV) (k : Res -> Option Res) : Option Res := bif l.all (PV.isRo 5) && (decide ((Jv l).length <= 140737488355328) && decide (l.length <= 140737488355328)) then bif Jo IntKind.u8 (Jv l) && (decide ((Jv l).length = (Jv l).length) && decide ((Jv l).length <= 140737488355000)) then Zm f (fun x0_0 x1_0 => Zn f (fun x0_1 x1_1 => k (Res.mk (.ar 37 x1_1) [] [])) f (0) x0_0 x1_0 ([.sc (.int .u8 0), .sc (.int .u8 0), .sc (.int .u8 0), .sc (.int .u8 0), .sc (.int .u8 0), .sc (.int .u8 0), .sc (.int .u8 0), .sc (.int .u8 0), .sc (.int .u8 0), .sc (.int .u8 0), .sc (.int .u8 0), .sc (.int .u8 0), .sc (.int .u8 0), .sc (.int .u8 0), .sc (.int .u8 0), .sc (.int .u8 0), .sc (.int .u8 0), .sc (.int .u8 0), .sc (.int .u8 0), .sc (.int .u8 0), .sc (.int .u8 0), .sc (.int .u8 0), .sc (.int .u8 0), .sc (.int .u8 0), .sc (.int .u8 0), .sc (.int .u8 0), .sc (.int .u8 0), .sc (.int .u8 0), .sc (.int .u8 0), .sc (.int .u8 0), .sc (.int .u8 0), .sc (.int .u8 0)])) f (List.take (QB (JA (Jv l))).length (pu IntKind.u8 (QB (JA (Jv l))))) ([.sc (.int .u8 0), .sc (.int .u8 0), .sc (.int .u8 0), .sc (.int .u8 0), .sc (.int .u8 0), .sc (.int .u8 0), .sc (.int .u8 0), .sc (.int .u8 0), .sc (.int .u8 0), .sc (.int .u8 0), .sc (.int .u8 0), .sc (.int .u8 0), .sc (.int .u8 0), .sc (.int .u8 0), .sc (.int .u8 0), .sc (.int .u8 0), .sc (.int .u8 0), .sc (.int .u8 0), .sc (.int .u8 0), .sc (.int .u8 0), .sc (.int .u8 0), .sc (.int .u8 0), .sc (.int .u8 0), .sc (.int .u8 0), .sc (.int .u8 0), .sc (.int .u8 0), .sc (.int .u8 0), .sc (.int .u8 0), .sc (.int .u8 0), .sc (.int .u8 0), .sc (.int .u8 0), .sc (.int .u8 0)]) ([.sc (.int .u32 1779033703), .sc (.int .u32 3144134277), .sc (.int .u32 1013904242), .sc (.int .u32 2773480762), .sc (.int .u32 1359893119), .sc (.int .u32 2600822924), .sc (.int .u32 528734635), .sc (.int .u32 1541459225)]) else none else none
theorem e36 (f : Nat) (nl fl : Bool) (l : List PV) (k : Res -> Option Res) : JL tau F36 Try.f36 (Try.f36.body.get!) (JoK (JbX f) (JbY f)) [] 0 [.ro 29 nl fl l] [] k = g36 f nl fl l k := by kernel_rfl
theorem JBE (f : Nat) : Je (Try.f36.body.get!) (JoK (JbX f) (JbY f)) = [.l Jdd Yh N36 (JbX f), .l Jde Yi N36 (JbY f)] := by kernel_rfl
theorem JBF (f : Nat) : ∀ q ∈ Je (Try.f36.body.get!) (JoK (JbX f) (JbY f)), q.Ok tau Try.prog 0 := by
 rw [JBE f]; simp only [List.forall_mem_cons, List.not_mem_nil, false_implies, implies_true, and_true]; exact ⟨JxO f, JxP f⟩
theorem JxQ : Try.prog.funcs[36]? = some Try.f36 := by kernel_rfl
theorem JxR : Try.f36.body = some (Try.f36.body.get!) := by kernel_rfl
theorem JxS : Enters Try.prog 36 := enters_of JxQ (by kernel_rfl) JxR
-- FN sha.Sum
theorem Jdf : iv.length = 8 := rfl
theorem Jrd (P : List Int) (m : Nat) (hP : P.length = 64 * m) (f : Nat) (k0 : List PV -> List PV -> Option Res) (a : List PV) : ∀ (d i n : Nat), i + d = m -> d < n ->
  Zm f k0 n (pu .u8 (P.drop (64 * i))) a (pu .u32 (W8 iv P i)) = k0 a (pu .u32 (W8 iv P m))
 | 0, i, n + 1, h, hn => by
   obtain rfl : i = m := by omega
   have hl : (P.drop (64 * i)).length = 0 := by rw [List.length_drop]; omega
   simp only [Zm, Gf, JD, hl]
   exact Jj (by decide)
 | d + 1, i, n + 1, h, hn => by
   have hl : 64 <= (P.drop (64 * i)).length := by rw [List.length_drop]; omega
   have hf := WC iv P Jdf i
   simp only [Zm, Gf, JD, Xh, JP, hf, Q0]
   refine (Ja (by simp; omega)).trans ?_
   refine (Ja (by simp at hl ⊢; omega)).trans ?_
   refine (Ja (by simp at hl ⊢; omega)).trans ?_
   refine (Ja (by simp at hl ⊢; omega)).trans ?_
   rw [List.take_of_length_le (Nat.le_refl _), JiC, List.drop_drop]
   have := Jrd P m hP f k0 a d (i + 1) n (by omega) (by omega)
   rw [show 64 * i + 64 = 64 * (i + 1) from by omega]
   exact this
theorem Jre (s : List Int) (hs : s.length = 8) (f : Nat) (k0 : List PV -> List PV -> Option Res) (a : List PV) (t : List Int) (ht : t.length = 32) : ∀ (d i n : Nat), i + d = 32 -> d < n ->
  Zn f k0 n (i : Int) a (pu .u32 s) (pu .u8 (Qv (YJ s) t i)) = k0 a (pu .u8 (Jlx s))
 | 0, i, n + 1, h, hn => by
   obtain rfl : i = 32 := by omega
   simp only [Zn, Gg]
   refine (Jj (by decide)).trans ?_
   have := Wa (YJ s) t
   rw [ht] at this; rw [this]; rfl
 | d + 1, i, n + 1, h, hn => by
   have e1 : ((i : Int)).tdiv 4 = ((i / 4 : Nat) : Int) := by rw [Int.tdiv_eq_ediv_of_nonneg (by omega)]; omega
   have e2 : ((i : Int)).tmod 4 = ((i % 4 : Nat) : Int) := by rw [Int.tmod_eq_emod_of_nonneg (by omega)]; omega
   have h1 : IntKind.i64.wrap ((i : Int) + 1) = ((i + 1 : Nat) : Int) := by rw [wrap_i64 (by omega) (by omega)]; omega
   have h2 : IntKind.i64.wrap ((i / 4 : Nat) : Int) = ((i / 4 : Nat) : Int) := wrap_i64 (by omega) (by omega)
   have h3 : IntKind.i64.wrap (8 * ((i % 4 : Nat) : Int)) = 8 * ((i % 4 : Nat) : Int) := wrap_i64 (by omega) (by omega)
   have h4 : IntKind.i64.wrap (24 - 8 * ((i % 4 : Nat) : Int)) = 24 - 8 * ((i % 4 : Nat) : Int) := wrap_i64 (by omega) (by omega)
   have g1 : ((i : Int)).toNat = i := by omega
   have g2 : (((i / 4 : Nat) : Int)).toNat = i / 4 := by omega
   have c0 : decide ((i : Int) < 32) = true := by simp; omega
   have c1 : (decide (0 <= ((i / 4 : Nat) : Int)) && decide (((i / 4 : Nat) : Int) < zi 8) && true) = true := by simp; omega
   have c2 : (decide (0 <= 24 - 8 * ((i % 4 : Nat) : Int)) && true) = true := by simp; omega
   have c3 : (decide (0 <= (i : Int)) && decide ((i : Int) < zi 32) && true) = true := by simp; omega
   simp only [Zn, Gg, e1, e2, h1, h2, h3, h4, g1, g2, Xi, c0, c1, c2, c3, Zh hs (i / 4) (by omega), PV.isInt, PV.int, decide_true, Bool.and_true, cond_true, W5]
   have := Jre s hs f k0 a t ht d (i + 1) n (by omega) (by omega)
   rw [← Qs (YJ s) t i (by omega)] at this
   exact this
theorem JtA (nl fl : Bool) (l : List PV) (k : Res -> Option Res) (hl : l.all (PV.isRo 5) = true) (hn : l.length <= 140737488355328) (hi : Jo .u8 (Jv l) = true) (hs : (Jv l).length <= 140737488355000) :
  g36 ((QB (JA (Jv l))).length / 64 + 100) nl fl l k = k ⟨.ar 37 (pu .u8 (JU (JA (Jv l)))), [], []⟩ := by
 refine (Ja (by simp only [hl, Bool.true_and, Bool.and_eq_true, decide_eq_true_eq]; omega)).trans ?_
 refine (Ja (by simp only [hi, Bool.true_and, Bool.and_eq_true, decide_eq_true_eq, true_and]; exact hs)).trans ?_
 rw [Xh, List.take_of_length_le (Nat.le_refl _)]
 generalize hP : QB (JA (Jv l)) = P
 have hlen : P.length = 64 * (P.length / 64) := by rw [← hP]; exact Jay _
 have h0 : ∀ k0 a, Zm (P.length / 64 + 100) k0 (P.length / 64 + 100) (pu .u8 P) a (pu .u32 iv) = k0 a (pu .u32 (W8 iv P (P.length / 64))) := fun k0 a => Jrd P (P.length / 64) hlen _ k0 a (P.length / 64) 0 _ (by omega) (by omega)
 have h1 : ∀ k0 a s, s.length = 8 -> Zn (P.length / 64 + 100) k0 (P.length / 64 + 100) 0 a (pu .u32 s) (pu .u8 (List.replicate 32 0)) = k0 a (pu .u8 (Jlx s)) := by
  intro k0 a s hs
  have := Jre s hs (P.length / 64 + 100) k0 a (List.replicate 32 0) (by simp) 32 0 (P.length / 64 + 100) (by omega) (by omega)
  rw [QN] at this
  exact this
 refine (h0 _ _).trans ((h1 _ _ _ (WC iv P Jdf _)).trans ?_)
 rw [Ja3, JiQ, hP]
def JhH : List PV -> List Ent -> (Res -> Option Res) -> Option Res
 | [.ro 29 nl fl l], [], k => bif (l.all (PV.isRo 5) && decide (l.length <= 140737488355328)) && (Jo .u8 (Jv l) && decide ((Jv l).length <= 140737488355000)) then k ⟨.ar 37 (pu .u8 (JU (JA (Jv l)))), [], []⟩ else none
 | _, _, _ => none
def JtB : Sig := { own := [], run := JhH }
theorem Jrf : Jh tau Try.prog 36 JtB := Jd4 Jq JhG Js JxQ JxR (fun n => JoK (JbX n) (JbY n)) [] 0 [] JhH (fun n => JBF n) fun xs es k res hr => by
 unfold JhH at hr
 split at hr
 · rename_i nl fl l
   obtain ⟨hc, hr⟩ := JI hr
   simp only [Bool.and_eq_true, decide_eq_true_eq] at hc
   refine ⟨rfl, (QB (JA (Jv l))).length / 64 + 100, 0, (e36 _ _ _ _ _).trans ?_⟩
   rw [JtA nl fl l k hc.1.1 hc.1.2 hc.2.1 hc.2.2]; exact hr
 · cases hr
def F13 : Fns := JH 36 JtB (JH 35 JwS (F0))
theorem JtC : Jy tau Try.prog F13 := ((JE).add JqV JsM).add Jrf JxS
def JtD : Nm := [(2, .any), (3, .any), (4, .any), (5, .any), (22, .any), (23, .any), (24, .any)]
def QU : An := (.seq .leaf (.seq (.cond .leaf .leaf) (.seq (.block none (.seq .leaf .leaf)) .leaf)))
def JoN : An := (.seq .leaf (.seq .leaf (.seq (.seq .leaf (.block none (.loop JtD QU))) (.seq .leaf .leaf))))
def g13 (f : Nat) (y0 id_N y1 y2 : Int) (k : Res -> Option Res) : Option Res := bif (fTo FloatKind.f64 (fOf FloatKind.f64 y0)).isSome && decide (Int.negSucc 9223372036854775807 <= (fTo FloatKind.f64 (fOf FloatKind.f64 y0)).getD 0) && decide ((fTo FloatKind.f64 (fOf FloatKind.f64 y0)).getD 0 <= Int.ofNat (2 ^ (IntKind.i64.bits - 1) - Nat.succ 0)) && true then bif (fTo FloatKind.f64 (fOf FloatKind.f64 id_N)).isSome && decide (Int.negSucc 9223372036854775807 <= (fTo FloatKind.f64 (fOf FloatKind.f64 id_N)).getD 0) && decide ((fTo FloatKind.f64 (fOf FloatKind.f64 id_N)).getD 0 <= Int.ofNat (2 ^ (IntKind.i64.bits - 1) - Nat.succ 0)) && true then bif slB false (pu IntKind.u8 (JS ((fTo FloatKind.f64 (fOf FloatKind.f64 y0)).getD 0))) then bif (fTo FloatKind.f64 (fOf FloatKind.f64 y1)).isSome && decide (Int.negSucc 9223372036854775807 <= (fTo FloatKind.f64 (fOf FloatKind.f64 y1)).getD 0) && decide ((fTo FloatKind.f64 (fOf FloatKind.f64 y1)).getD 0 <= Int.ofNat (2 ^ (IntKind.i64.bits - 1) - Nat.succ 0)) && true then bif slB false (pu IntKind.u8 (JS ((fTo FloatKind.f64 (fOf FloatKind.f64 y0)).getD 0)) ++ pu IntKind.u8 (JS ((fTo FloatKind.f64 (fOf FloatKind.f64 id_N)).getD 0))) then bif (fTo FloatKind.f64 (fOf FloatKind.f64 y2)).isSome && decide (Int.negSucc 9223372036854775807 <= (fTo FloatKind.f64 (fOf FloatKind.f64 y2)).getD 0) && decide ((fTo FloatKind.f64 (fOf FloatKind.f64 y2)).getD 0 <= Int.ofNat (2 ^ (IntKind.i64.bits - 1) - Nat.succ 0)) && true then bif slB false (pu IntKind.u8 (JS ((fTo FloatKind.f64 (fOf FloatKind.f64 y0)).getD 0)) ++ pu IntKind.u8 (JS ((fTo FloatKind.f64 (fOf FloatKind.f64 id_N)).getD 0)) ++ pu IntKind.u8 (JS ((fTo FloatKind.f64 (fOf FloatKind.f64 y1)).getD 0))) then bif Jo IntKind.u8 (Jv [.ro 5 false false (pu IntKind.u8 (JS ((fTo FloatKind.f64 (fOf FloatKind.f64 y0)).getD 0)) ++ pu IntKind.u8 (JS ((fTo FloatKind.f64 (fOf FloatKind.f64 id_N)).getD 0)) ++ pu IntKind.u8 (JS ((fTo FloatKind.f64 (fOf FloatKind.f64 y1)).getD 0)) ++ pu IntKind.u8 (JS ((fTo FloatKind.f64 (fOf FloatKind.f64 y2)).getD 0)))]) && decide ((Jv [.ro 5 false false (pu IntKind.u8 (JS ((fTo FloatKind.f64 (fOf FloatKind.f64 y0)).getD 0)) ++ pu IntKind.u8 (JS ((fTo FloatKind.f64 (fOf FloatKind.f64 id_N)).getD 0)) ++ pu IntKind.u8 (JS ((fTo FloatKind.f64 (fOf FloatKind.f64 y1)).getD 0)) ++ pu IntKind.u8 (JS ((fTo FloatKind.f64 (fOf FloatKind.f64 y2)).getD 0)))]).length <= 140737488355000) then k (Res.mk (.st 39 [.st 34 [.sc (.int .i64 y0), .sc (.int .i64 id_N)], .sc (.string (ByteArray.mk #[])), .ro 42 false false [.st 42 [.sc (.int .i64 y1), .sc (.int .i64 y2)]], .sc (.int .i64 0), .ar 37 (pu IntKind.u8 (JU (JA (Jv [.ro 5 false false (pu IntKind.u8 (JS ((fTo FloatKind.f64 (fOf FloatKind.f64 y0)).getD 0)) ++ pu IntKind.u8 (JS ((fTo FloatKind.f64 (fOf FloatKind.f64 id_N)).getD 0)) ++ pu IntKind.u8 (JS ((fTo FloatKind.f64 (fOf FloatKind.f64 y1)).getD 0)) ++ pu IntKind.u8 (JS ((fTo FloatKind.f64 (fOf FloatKind.f64 y2)).getD 0)))]))))]) [] []) else none else none else none else none else none else none else none else none
theorem e13 (f : Nat) (y0 id_N y1 y2 : Int) (k : Res -> Option Res) : JL tau F13 Try.f13 (Try.f13.body.get!) JoN [.ro] 4 [.st 34 [.sc (.int .i64 y0), .sc (.int .i64 id_N)], .st 42 [.sc (.int .i64 y1), .sc (.int .i64 y2)]] [] k = g13 f y0 id_N y1 y2 k := by kernel_rfl
theorem JBG (f : Nat) : Je (Try.f13.body.get!) JoN = [] := by kernel_rfl
theorem JBH (f : Nat) : ∀ q ∈ Je (Try.f13.body.get!) JoN, q.Ok tau Try.prog 0 := by
 rw [JBG f]; intro q hq; cases hq
theorem JxT : Try.prog.funcs[13]? = some Try.f13 := by kernel_rfl
theorem JxU : Try.f13.body = some (Try.f13.body.get!) := by kernel_rfl
theorem JxV : Enters Try.prog 13 := enters_of JxT (by kernel_rfl) JxU
-- FN wavelet.New
theorem JoO : (List.range 128).all (fun i => fTo .f64 (fOf .f64 (i : Int)) == some (i : Int)) = true := by kernel_rfl
theorem ZU {x : Int} (h0 : 0 <= x) (h1 : x < 128) : fTo .f64 (fOf .f64 x) = some x := by
 have := List.all_eq_true.1 JoO x.toNat (List.mem_range.2 (by omega))
 rw [show ((x.toNat : Nat) : Int) = x from by omega] at this
 simpa using this
structure Nw4 where
 (a b c d : Int)
def Zo : Nw4 -> Bool := hid fun x => (decide (0 <= x.a) && decide (x.a < 128)) && (decide (0 <= x.b) && decide (x.b < 128)) && (decide (0 <= x.c) && decide (x.c < 128)) && (decide (0 <= x.d) && decide (x.d < 128))
def JlR (x : Nw4) : List Int := JS x.a ++ JS x.b ++ JS x.c ++ JS x.d
def J3 : Nw4 -> List Int := hid fun x => JU (JlR x)
theorem Jet (x : Nw4) : J3 x = JU (JlR x) := by rw [J3, hid_eq]
def wnP (h n d u : Int) (s : List Int) : PV := .st 39 [.st 34 [.sc (.int .i64 h), .sc (.int .i64 n)], .sc (.string (ByteArray.mk #[])), .ro 42 false false [.st 42 [.sc (.int .i64 d), .sc (.int .i64 u)]], .sc (.int .i64 0), .ar 37 (pu .u8 s)]
theorem JtE (h n d u : Int) (hs : Zo ⟨h, n, d, u⟩ = true) (k : Res -> Option Res) : g13 0 h n d u k = k ⟨wnP h n d u (J3 ⟨h, n, d, u⟩), [], []⟩ := by
 rw [Zo, hid_eq] at hs
 simp only [Bool.and_eq_true, decide_eq_true_eq] at hs
 have c : ∀ x : Int, 0 <= x -> x < 128 -> (decide (Int.negSucc 9223372036854775807 <= x) && decide (x <= Int.ofNat (2 ^ (IntKind.i64.bits - 1) - Nat.succ 0))) = true := by
   intro x h0 h1
   have e1 : Int.ofNat (2 ^ (IntKind.i64.bits - 1) - Nat.succ 0) = 9223372036854775807 := by decide
   rw [e1]; simp; omega
 have c1 : ∀ x : Int, 0 <= x -> x < 128 -> decide (Int.negSucc 9223372036854775807 <= x) = true := fun x h0 h1 => by have := c x h0 h1; simp only [Bool.and_eq_true] at this; exact this.1
 have c2 : ∀ x : Int, 0 <= x -> x < 128 -> decide (x <= Int.ofNat (2 ^ (IntKind.i64.bits - 1) - Nat.succ 0)) = true := fun x h0 h1 => by have := c x h0 h1; simp only [Bool.and_eq_true] at this; exact this.2
 rw [Jet]
 unfold g13
 simp only [ZU hs.1.1.1.1 hs.1.1.1.2, ZU hs.1.1.2.1 hs.1.1.2.2, ZU hs.1.2.1 hs.1.2.2, ZU hs.2.1 hs.2.2, Option.isSome_some, Option.getD_some, c1 _ hs.1.1.1.1 hs.1.1.1.2, c1 _ hs.1.1.2.1 hs.1.1.2.2, c1 _ hs.1.2.1 hs.1.2.2, c1 _ hs.2.1 hs.2.2, c2 _ hs.1.1.1.1 hs.1.1.1.2, c2 _ hs.1.1.2.1 hs.1.1.2.2, c2 _ hs.1.2.1 hs.1.2.2, c2 _ hs.2.1 hs.2.2,
   Q0, JP, JD, WV, V3, PV.els, List.append_nil, List.nil_append, List.length_append, Wp, Bool.and_true, Bool.true_and, cond_true, Nat.reduceAdd, Nat.reduceLeDiff, decide_true]
 have sl : ∀ l : List PV, l.length <= 1000 -> slB false l = true := fun l h => Wz.2 ⟨fun h => (by cases h), by omega⟩
 refine (Ja (sl _ (by simp))).trans ((Ja (sl _ (by simp))).trans ((Ja (sl _ (by simp))).trans ((Ja ?_).trans ?_)))
 · simp only [Wf, JP]; rfl
 simp only [← JO, Q0]
 rfl
def JhI : List PV -> List Ent -> (Res -> Option Res) -> Option Res
 | [.st 34 [.sc (.int .i64 h), .sc (.int .i64 n)], .st 42 [.sc (.int .i64 d), .sc (.int .i64 u)]], [], k => bif Zo ⟨h, n, d, u⟩ then k ⟨.st 39 [.st 34 [.sc (.int .i64 h), .sc (.int .i64 n)], .sc (.string (ByteArray.mk #[])), .ro 42 false false [.st 42 [.sc (.int .i64 d), .sc (.int .i64 u)]], .sc (.int .i64 0), .ar 37 (pu .u8 (J3 ⟨h, n, d, u⟩))], [], []⟩ else none
 | _, _, _ => none
def JtF : Sig := { own := [], run := JhI }
theorem Jrg : Jh tau Try.prog 13 JtF := Jh.mk' fun xs es k res hl hr => by
 change JhI xs es k = some res at hr
 unfold JhI at hr
 split at hr
 · rename_i h n d u
   obtain ⟨hc, hr2⟩ := JI hr
   exact Qj Jq JtC Js JxT JxU JoN [.ro] 0 4 (JBH 0) hl rfl ((e13 0 h n d u k).trans ((JtE h n d u hc k).trans hr2))
 · cases hr
def F9 : Fns := JH 13 JtF (F0)
theorem JxW : Jy tau Try.prog F9 := (JE).add Jrg JxV
def an9 : An := (.seq .leaf (.seq .leaf (.seq .leaf .leaf)))
def g9 (f : Nat) (k : Res -> Option Res) : Option Res := bif Zo (Nw4.mk 1 0 1 2) then k (Res.mk (.sc (.bool true)) [] []) else none
theorem e9 (f : Nat) (k : Res -> Option Res) : JL tau F9 Try.f9 (Try.f9.body.get!) an9 [.ro] 0 [] [] k = g9 f k := by kernel_rfl
theorem it9 (f : Nat) : Je (Try.f9.body.get!) an9 = [] := by kernel_rfl
theorem ia9 (f : Nat) : ∀ q ∈ Je (Try.f9.body.get!) an9, q.Ok tau Try.prog 0 := by
 rw [it9 f]; intro q hq; cases hq
theorem fo9 : Try.prog.funcs[9]? = some Try.f9 := by kernel_rfl
theorem bo9 : Try.f9.body = some (Try.f9.body.get!) := by kernel_rfl
theorem en9 : Enters Try.prog 9 := enters_of fo9 (by kernel_rfl) bo9
def JtG : List PV -> List Ent -> (Res -> Option Res) -> Option Res
 | [], [], k => g9 0  k
 | _, _, _ => none
def s9 : Sig := { own := [], run := JtG }
theorem ok9 : Jh tau Try.prog 9 s9 := JY Jq JxW Js fo9 bo9 an9 [.ro] 0 [] JtG (ia9 0) fun xs es k res hr => by
 unfold JtG at hr
 split at hr
 · exact ⟨rfl, 0, (e9 0  _).trans hr⟩
 · cases hr
def F65 : Fns := JH 76 JvM (F0)
theorem JtH : Jy tau Try.prog F65 := (JE).add JvN JAJ
def JoP : An := (.seq .leaf (.seq .leaf .leaf))
def g65 (f : Nat) (b_z b_f : Bool) (b : List PV) (k : Res -> Option Res) : Option Res := bif slB b_z b then k (Res.mk (.ptr 16 []) [] [.box false 166 (PV.st 166 [.ro 5 b_z b_z b, .sc (.int .i64 0)])]) else none
theorem e65 (f : Nat) (b_z b_f : Bool) (b : List PV) (k : Res -> Option Res) : JL tau F65 Try.f65 (Try.f65.body.get!) JoP [.any] 0 [.ro 5 b_z b_f b] [] k = g65 f b_z b_f b k := by kernel_rfl
theorem JBI (f : Nat) : Je (Try.f65.body.get!) JoP = [] := by kernel_rfl
theorem JBJ (f : Nat) : ∀ q ∈ Je (Try.f65.body.get!) JoP, q.Ok tau Try.prog 0 := by
 rw [JBI f]; intro q hq; cases hq
theorem JxX : Try.prog.funcs[65]? = some Try.f65 := by kernel_rfl
theorem JxY : Try.f65.body = some (Try.f65.body.get!) := by kernel_rfl
theorem JxZ : Enters Try.prog 65 := enters_of JxX (by kernel_rfl) JxY
def JlS : List PV -> List Ent -> (Res -> Option Res) -> Option Res
 | [.ro 5 b_z b_f b], [], k => g65 0 b_z b_f b k
 | _, _, _ => none
def s65 : Sig := { own := [], run := JlS }
theorem Jx0 : Jh tau Try.prog 65 s65 := JY Jq JtH Js JxX JxY JoP [.any] 0 [] JlS (JBJ 0) fun xs es k res hr => by
 unfold JlS at hr
 split at hr
 · exact ⟨rfl, 0, (e65 0 _ _ _  _).trans hr⟩
 · cases hr
def F67 : Fns := F0
theorem JtI : Jy tau Try.prog F67 := JE
def JoQ : An := (.seq .leaf (.seq (.seq .leaf (.cond (.seq .leaf .leaf) .leaf)) (.seq .leaf .leaf)))
def g67 (f : Nat) (y0 y1 : Bool) (r_b : List PV) (r_e : Int) (k : Res -> Option Res) : Option Res := bif r_e == 0 then bif decide (zi r_b.length > 0) then k (Res.mk (.sc (.int .i64 9)) [.box false 166 (PV.st 166 [.ro 5 y0 y1 r_b, .sc (.int .i64 r_e)])] []) else k (Res.mk (.sc (.int .i64 r_e)) [.box false 166 (PV.st 166 [.ro 5 y0 y1 r_b, .sc (.int .i64 r_e)])] []) else k (Res.mk (.sc (.int .i64 r_e)) [.box false 166 (PV.st 166 [.ro 5 y0 y1 r_b, .sc (.int .i64 r_e)])] [])
theorem e67 (f : Nat) (y0 y1 : Bool) (r_b : List PV) (r_e : Int) (k : Res -> Option Res) : JL tau F67 Try.f67 (Try.f67.body.get!) JoQ [.ro] 0 [.ptr 0 []] [.box false 166 (.st 166 [.ro 5 y0 y1 r_b, .sc (.int .i64 r_e)])] k = g67 f y0 y1 r_b r_e k := by kernel_rfl
theorem JBK (f : Nat) : Je (Try.f67.body.get!) JoQ = [] := by kernel_rfl
theorem JBL (f : Nat) : ∀ q ∈ Je (Try.f67.body.get!) JoQ, q.Ok tau Try.prog 1 := by
 rw [JBK f]; intro q hq; cases hq
theorem Jx1 : Try.prog.funcs[67]? = some Try.f67 := by kernel_rfl
theorem Jx2 : Try.f67.body = some (Try.f67.body.get!) := by kernel_rfl
theorem Jx3 : Enters Try.prog 67 := enters_of Jx1 (by kernel_rfl) Jx2
def JlT : List PV -> List Ent -> (Res -> Option Res) -> Option Res
 | [.ptr 0 []], [.box false 166 (.st 166 [.ro 5 y0 y1 r_b, .sc (.int .i64 r_e)])], k => g67 0 y0 y1 r_b r_e k
 | _, _, _ => none
def s67 : Sig := { own := [], run := JlT }
theorem Jx4 : Jh tau Try.prog 67 s67 := JY Jq JtI Js Jx1 Jx2 JoQ [.ro] 1 [] JlT (JBL 0) fun xs es k res hr => by
 unfold JlT at hr
 split at hr
 · exact ⟨rfl, 0, (e67 0 _ _ _ _  _).trans hr⟩
 · cases hr
def Jx5 : Fns := F0
theorem JoR : Jy tau Try.prog Jx5 := JE
def Jje : An := (.seq .leaf (.seq (.seq .leaf (.cond (.seq .leaf .leaf) .leaf)) (.seq .leaf .leaf)))
def Jx6 (f : Nat) (s_z s_f : Bool) (s : List PV) (k : Res -> Option Res) : Option Res := bif s_z then k (Res.mk (.ro 113 true true []) [] []) else bif Jf (0 + s.length) 32 && true then k (Res.mk (.ro 113 false false (List.take (0 + s.length) s)) [] []) else none
theorem JBM (f : Nat) (s_z s_f : Bool) (s : List PV) (k : Res -> Option Res) : JL tau Jx5 Try.f120 (Try.f120.body.get!) Jje [.ro] 0 [.ro 113 s_z s_f s] [] k = Jx6 f s_z s_f s k := by kernel_rfl
theorem Jx7 (f : Nat) : Je (Try.f120.body.get!) Jje = [] := by kernel_rfl
theorem Jx8 (f : Nat) : ∀ q ∈ Je (Try.f120.body.get!) Jje, q.Ok tau Try.prog 0 := by
 rw [Jx7 f]; intro q hq; cases hq
theorem Jrh : Try.prog.funcs[120]? = some Try.f120 := by kernel_rfl
theorem Jri : Try.f120.body = some (Try.f120.body.get!) := by kernel_rfl
theorem Jx9 : Enters Try.prog 120 := enters_of Jrh (by kernel_rfl) Jri
def JhJ : List PV -> List Ent -> (Res -> Option Res) -> Option Res
 | [.ro 113 s_z s_f s], [], k => Jx6 0 s_z s_f s k
 | _, _, _ => none
def Jya : Sig := { own := [], run := JhJ }
theorem Jyb : Jh tau Try.prog 120 Jya := JY Jq JoR Js Jrh Jri Jje [.ro] 0 [] JhJ (Jx8 0) fun xs es k res hr => by
 unfold JhJ at hr
 split at hr
 · exact ⟨rfl, 0, (JBM 0 _ _ _  _).trans hr⟩
 · cases hr
def N84 : Nat := 50
def F84 : Fns := JH 120 Jya (JH 107 Jsj (JH 88 JnJ (JH 83 Jsr (JH 82 s82 (JH 81 s81 (JH 67 s67 (JH 65 s65 (F0))))))))
theorem JlU : Jy tau Try.prog F84 := ((((((((JE).add Jx0 JxZ).add Jx4 Jx3).add JvC JvB).add JvG JvF).add Jqx JvJ).add Jk3 Jse).add Jqr Jqq).add Jyb Jx9
def Jdg : Code := Qn (Try.f84.body.get!) [1, 1, 1, 1, 1, 1, 0, 1, 0, 0]
def Yj : Nm := [(4, .any), (5, .any), (6, .any), (7, .any), (9, .own), (25, .any), (26, .any)]
def Zp : Nm := [(4, .any), (9, .any)]
def JfT : An := (.seq .leaf (.seq (.cond .leaf .leaf) (.seq (.block none .leaf) .leaf)))
def JoS (r0 : QV) : An := (.seq .leaf (.seq .leaf (.seq .leaf (.seq .leaf (.seq (.seq .leaf (.cond (.seq .leaf .leaf) .leaf)) (.seq .leaf (.seq (.seq .leaf (.block none (.sum Yj N84 r0))) (.seq .leaf (.seq (.seq .leaf (.cond .leaf .leaf)) (.seq (.seq .leaf (.cond (.seq .leaf .leaf) .leaf)) (.seq .leaf .leaf)))))))))))
def Gh (f : Nat) (rc : Nat -> Int -> Int -> Bool -> Bool -> List PV -> Int -> Bool -> List PV -> Option Res) (k0 : Nat -> Bool -> Bool -> List PV -> Int -> Bool -> List PV -> Option Res) (v0 : Nat) (v1 v2 : Int) (v3 v4 : Bool) (v5 : List PV) (v6 : Int) (v7 : Bool) (v8 : List PV) : Option Res := bif decide (v2 < v1) then bif (!v3 || v4) && true && byB v5 then bif (!v3 || v4) && true && byB (Jb 1 (RS.mk v5 v6)).b then bif (!v3 || v4) && byB (Jb 8 (Jb 1 (RS.mk v5 v6))).b then bif Jf (v0 + 1) 32 && true then rc (v0 + 1) v1 (IntKind.i64.wrap (v2 + 1)) v3 v4 ((J2 (Jb 8 (Jb 1 (RS.mk v5 v6)))).b) ((J2 (Jb 8 (Jb 1 (RS.mk v5 v6)))).e) (v7 && false) (List.take v0 v8 ++ [.st 113 [.sc (.int .i64 (JB 1 (RS.mk v5 v6))), .sc (.int .i64 (JB 8 (Jb 1 (RS.mk v5 v6)))), .sc (.string (JT (Jb 8 (Jb 1 (RS.mk v5 v6)))))]]) else none else none else none else none else k0 v0 v3 v4 v5 v6 v7 v8
def XD (f : Nat) (k0 : Nat -> Bool -> Bool -> List PV -> Int -> Bool -> List PV -> Option Res) : Nat -> Nat -> Int -> Int -> Bool -> Bool -> List PV -> Int -> Bool -> List PV -> Option Res
 | 0, _, _, _, _, _, _, _, _, _ => none
 | n + 1, v0, v1, v2, v3, v4, v5, v6, v7, v8 => Gh f (XD f k0 n) k0 v0 v1 v2 v3 v4 v5 v6 v7 v8
theorem JoT (f : Nat) (k : Kont) (n v0 : Nat) (v1 v2 : Int) (v3 v4 : Bool) (v5 : List PV) (v6 : Int) (v7 : Bool) (v8 : List PV) : Jp tau 0 Yj (fun s k => ev tau F84 0 0 Jdg (JfT ) s k) (n + 1) (Jc Yj N84 [.ptr 816 [], PV.fn (Fn.func 82) [.ptr 816 []] [], PV.fn (Fn.func 81) [.ptr 816 []] [], PV.fn (Fn.func 83) [.ptr 816 []] [], .ow 113 817 [] 0 v0 none, .sc (.int .i64 v1), .sc (.int .i64 v2)] [(816, .box false 166 (PV.st 166 [.ro 5 v3 v4 v5, .sc (.int .i64 v6)])), (817, .vec false 113 v7 v8)]) (Jt tau 0 Zp k) = Gh f (fun v0 v1 v2 v3 v4 v5 v6 v7 v8 => Jp tau 0 Yj (fun s k => ev tau F84 0 0 Jdg (JfT ) s k) n (Jc Yj N84 [.ptr 816 [], PV.fn (Fn.func 82) [.ptr 816 []] [], PV.fn (Fn.func 81) [.ptr 816 []] [], PV.fn (Fn.func 83) [.ptr 816 []] [], .ow 113 817 [] 0 v0 none, .sc (.int .i64 v1), .sc (.int .i64 v2)] [(816, .box false 166 (PV.st 166 [.ro 5 v3 v4 v5, .sc (.int .i64 v6)])), (817, .vec false 113 v7 v8)]) (Jt tau 0 Zp k)) (fun x0 x1 x2 x3 x4 x5 x6 => k (Ex.exit 0) (Jc Zp N84 [.ptr 816 [], .ow 113 817 [] 0 x0 none] [(816, .box false 166 (PV.st 166 [.ro 5 x1 x2 x3, .sc (.int .i64 x4)])), (817, .vec false 113 x5 x6)])) v0 v1 v2 v3 v4 v5 v6 v7 v8 := by kernel_rfl
theorem Jjf (f : Nat) (k : Kont) : ∀ (n v0 : Nat) (v1 v2 : Int) (v3 v4 : Bool) (v5 : List PV) (v6 : Int) (v7 : Bool) (v8 : List PV), Jp tau 0 Yj (fun s k => ev tau F84 0 0 Jdg (JfT ) s k) n (Jc Yj N84 [.ptr 816 [], PV.fn (Fn.func 82) [.ptr 816 []] [], PV.fn (Fn.func 81) [.ptr 816 []] [], PV.fn (Fn.func 83) [.ptr 816 []] [], .ow 113 817 [] 0 v0 none, .sc (.int .i64 v1), .sc (.int .i64 v2)] [(816, .box false 166 (PV.st 166 [.ro 5 v3 v4 v5, .sc (.int .i64 v6)])), (817, .vec false 113 v7 v8)]) (Jt tau 0 Zp k) = XD f (fun x0 x1 x2 x3 x4 x5 x6 => k (Ex.exit 0) (Jc Zp N84 [.ptr 816 [], .ow 113 817 [] 0 x0 none] [(816, .box false 166 (PV.st 166 [.ro 5 x1 x2 x3, .sc (.int .i64 x4)])), (817, .vec false 113 x5 x6)])) n v0 v1 v2 v3 v4 v5 v6 v7 v8 | 0, _, _, _, _, _, _, _, _, _ => rfl | n + 1, v0, v1, v2, v3, v4, v5, v6, v7, v8 => (JoT f k n v0 v1 v2 v3 v4 v5 v6 v7 v8).trans (congrArg (fun r => Gh f r (fun x0 x1 x2 x3 x4 x5 x6 => k (Ex.exit 0) (Jc Zp N84 [.ptr 816 [], .ow 113 817 [] 0 x0 none] [(816, .box false 166 (PV.st 166 [.ro 5 x1 x2 x3, .sc (.int .i64 x4)])), (817, .vec false 113 x5 x6)])) v0 v1 v2 v3 v4 v5 v6 v7 v8) (by funext v0 v1 v2 v3 v4 v5 v6 v7 v8; exact Jjf f k n v0 v1 v2 v3 v4 v5 v6 v7 v8))
def JbZ (f : Nat) : List PV -> List (Nat × Ent) -> Kont -> Option Res
 | [.ptr 816 [], PV.fn (Fn.func 82) [.ptr 816 []] [], PV.fn (Fn.func 81) [.ptr 816 []] [], PV.fn (Fn.func 83) [.ptr 816 []] [], .ow 113 817 [] 0 v0 none, .sc (.int .i64 v1),
 PV.sc
  (Value.int IntKind.i64
   v2)], [(816, .box false 166 (PV.st 166 [.ro 5 v3 v4 v5, .sc (.int .i64 v6)])),
 (817,
  Ent.vec false 113 v7
   v8)], k => XD f (fun x0 x1 x2 x3 x4 x5 x6 => k (Ex.exit
 0) (Jc Zp N84 [.ptr 816 [],
 PV.ow 113 817 [] 0 x0 none] [(816, .box false 166 (PV.st 166 [.ro 5 x1 x2 x3, .sc (.int .i64 x4)])), (817, .vec false 113 x5 x6)])) f v0 v1 v2 v3 v4 v5 v6 v7 v8
 | _, _, _ => none
theorem JtJ (f : Nat) : Je Jdg JfT = [] := by kernel_rfl
theorem JtK (f : Nat) : (Item.l Jdg Yj N84 (JbZ f)).Ok tau Try.prog 0 := JJ Jq JlU Js (x := JfT) (nm2 := Zp) (Jl _ _ (by rw [JtJ f]; intro q hq; cases hq)) fun vs hp k res hr => by
 unfold JbZ at hr
 split at hr
 · exact ⟨f, 0, (Jjf f _ f _ _ _ _ _ _ _ _ _ ).trans hr⟩
 · cases hr
def g84 (f : Nat) (b_z b_f : Bool) (b : List PV) (k : Res -> Option Res) : Option Res := bif slB b_z b then bif (!b_z || b_z) && true && byB b then bif decide (JB 1 (RS.mk b 0) > 40) then bif (Jb 1 (RS.mk b 0)).e == 0 then XD f (fun x0_0 x1_0 x2_0 x3_0 x4_0 x5_0 QE => bif x4_0 == 0 then bif decide (zi x3_0.length > 0) then k (Res.mk (.tup [.ro 113 true true [], .sc (.int .i64 9)]) [] []) else bif x4_0 == 0 then bif cOk (List.take x0_0 QE) then bif ckO (List.take x0_0 QE) != 0 then k (Res.mk (.tup [.ro 113 true true [], .sc (.int .i64 (ckO (List.take x0_0 QE)))]) [] []) else bif (Ent.vec false 113 x5_0 QE).nil then k (Res.mk (.tup [.ro 113 true true [], .sc (.int .i64 0)]) [] []) else bif Jf (0 + (List.take x0_0 QE).length) 32 && true then k (Res.mk (.tup [.ro 113 false false (List.take (0 + (List.take x0_0 QE).length) (List.take x0_0 QE)), .sc (.int .i64 0)]) [] []) else none else none else bif x4_0 != 0 then k (Res.mk (.tup [.ro 113 true true [], .sc (.int .i64 x4_0)]) [] []) else bif (Ent.vec false 113 x5_0 QE).nil then k (Res.mk (.tup [.ro 113 true true [], .sc (.int .i64 0)]) [] []) else bif Jf (0 + (List.take x0_0 QE).length) 32 && true then k (Res.mk (.tup [.ro 113 false false (List.take (0 + (List.take x0_0 QE).length) (List.take x0_0 QE)), .sc (.int .i64 0)]) [] []) else none else bif x4_0 == 0 then bif cOk (List.take x0_0 QE) then bif ckO (List.take x0_0 QE) != 0 then k (Res.mk (.tup [.ro 113 true true [], .sc (.int .i64 (ckO (List.take x0_0 QE)))]) [] []) else bif (Ent.vec false 113 x5_0 QE).nil then k (Res.mk (.tup [.ro 113 true true [], .sc (.int .i64 0)]) [] []) else bif Jf (0 + (List.take x0_0 QE).length) 32 && true then k (Res.mk (.tup [.ro 113 false false (List.take (0 + (List.take x0_0 QE).length) (List.take x0_0 QE)), .sc (.int .i64 0)]) [] []) else none else none else bif x4_0 != 0 then k (Res.mk (.tup [.ro 113 true true [], .sc (.int .i64 x4_0)]) [] []) else bif (Ent.vec false 113 x5_0 QE).nil then k (Res.mk (.tup [.ro 113 true true [], .sc (.int .i64 0)]) [] []) else bif Jf (0 + (List.take x0_0 QE).length) 32 && true then k (Res.mk (.tup [.ro 113 false false (List.take (0 + (List.take x0_0 QE).length) (List.take x0_0 QE)), .sc (.int .i64 0)]) [] []) else none) f (0) (0) (0) b_z b_z ((Jb 1 (RS.mk b 0)).b) (4) true ([]) else XD f (fun x0_1 x1_1 x2_1 x3_1 x4_1 x5_1 x6_1 => bif x4_1 == 0 then bif decide (zi x3_1.length > 0) then k (Res.mk (.tup [.ro 113 true true [], .sc (.int .i64 9)]) [] []) else bif x4_1 == 0 then bif cOk (List.take x0_1 x6_1) then bif ckO (List.take x0_1 x6_1) != 0 then k (Res.mk (.tup [.ro 113 true true [], .sc (.int .i64 (ckO (List.take x0_1 x6_1)))]) [] []) else bif (Ent.vec false 113 x5_1 x6_1).nil then k (Res.mk (.tup [.ro 113 true true [], .sc (.int .i64 0)]) [] []) else bif Jf (0 + (List.take x0_1 x6_1).length) 32 && true then k (Res.mk (.tup [.ro 113 false false (List.take (0 + (List.take x0_1 x6_1).length) (List.take x0_1 x6_1)), .sc (.int .i64 0)]) [] []) else none else none else bif x4_1 != 0 then k (Res.mk (.tup [.ro 113 true true [], .sc (.int .i64 x4_1)]) [] []) else bif (Ent.vec false 113 x5_1 x6_1).nil then k (Res.mk (.tup [.ro 113 true true [], .sc (.int .i64 0)]) [] []) else bif Jf (0 + (List.take x0_1 x6_1).length) 32 && true then k (Res.mk (.tup [.ro 113 false false (List.take (0 + (List.take x0_1 x6_1).length) (List.take x0_1 x6_1)), .sc (.int .i64 0)]) [] []) else none else bif x4_1 == 0 then bif cOk (List.take x0_1 x6_1) then bif ckO (List.take x0_1 x6_1) != 0 then k (Res.mk (.tup [.ro 113 true true [], .sc (.int .i64 (ckO (List.take x0_1 x6_1)))]) [] []) else bif (Ent.vec false 113 x5_1 x6_1).nil then k (Res.mk (.tup [.ro 113 true true [], .sc (.int .i64 0)]) [] []) else bif Jf (0 + (List.take x0_1 x6_1).length) 32 && true then k (Res.mk (.tup [.ro 113 false false (List.take (0 + (List.take x0_1 x6_1).length) (List.take x0_1 x6_1)), .sc (.int .i64 0)]) [] []) else none else none else bif x4_1 != 0 then k (Res.mk (.tup [.ro 113 true true [], .sc (.int .i64 x4_1)]) [] []) else bif (Ent.vec false 113 x5_1 x6_1).nil then k (Res.mk (.tup [.ro 113 true true [], .sc (.int .i64 0)]) [] []) else bif Jf (0 + (List.take x0_1 x6_1).length) 32 && true then k (Res.mk (.tup [.ro 113 false false (List.take (0 + (List.take x0_1 x6_1).length) (List.take x0_1 x6_1)), .sc (.int .i64 0)]) [] []) else none) f (0) (0) (0) b_z b_z ((Jb 1 (RS.mk b 0)).b) ((Jb 1 (RS.mk b 0)).e) true ([]) else XD f (fun x0_2 x1_2 x2_2 x3_2 x4_2 x5_2 x6_2 => bif x4_2 == 0 then bif decide (zi x3_2.length > 0) then k (Res.mk (.tup [.ro 113 true true [], .sc (.int .i64 9)]) [] []) else bif x4_2 == 0 then bif cOk (List.take x0_2 x6_2) then bif ckO (List.take x0_2 x6_2) != 0 then k (Res.mk (.tup [.ro 113 true true [], .sc (.int .i64 (ckO (List.take x0_2 x6_2)))]) [] []) else bif (Ent.vec false 113 x5_2 x6_2).nil then k (Res.mk (.tup [.ro 113 true true [], .sc (.int .i64 0)]) [] []) else bif Jf (0 + (List.take x0_2 x6_2).length) 32 && true then k (Res.mk (.tup [.ro 113 false false (List.take (0 + (List.take x0_2 x6_2).length) (List.take x0_2 x6_2)), .sc (.int .i64 0)]) [] []) else none else none else bif x4_2 != 0 then k (Res.mk (.tup [.ro 113 true true [], .sc (.int .i64 x4_2)]) [] []) else bif (Ent.vec false 113 x5_2 x6_2).nil then k (Res.mk (.tup [.ro 113 true true [], .sc (.int .i64 0)]) [] []) else bif Jf (0 + (List.take x0_2 x6_2).length) 32 && true then k (Res.mk (.tup [.ro 113 false false (List.take (0 + (List.take x0_2 x6_2).length) (List.take x0_2 x6_2)), .sc (.int .i64 0)]) [] []) else none else bif x4_2 == 0 then bif cOk (List.take x0_2 x6_2) then bif ckO (List.take x0_2 x6_2) != 0 then k (Res.mk (.tup [.ro 113 true true [], .sc (.int .i64 (ckO (List.take x0_2 x6_2)))]) [] []) else bif (Ent.vec false 113 x5_2 x6_2).nil then k (Res.mk (.tup [.ro 113 true true [], .sc (.int .i64 0)]) [] []) else bif Jf (0 + (List.take x0_2 x6_2).length) 32 && true then k (Res.mk (.tup [.ro 113 false false (List.take (0 + (List.take x0_2 x6_2).length) (List.take x0_2 x6_2)), .sc (.int .i64 0)]) [] []) else none else none else bif x4_2 != 0 then k (Res.mk (.tup [.ro 113 true true [], .sc (.int .i64 x4_2)]) [] []) else bif (Ent.vec false 113 x5_2 x6_2).nil then k (Res.mk (.tup [.ro 113 true true [], .sc (.int .i64 0)]) [] []) else bif Jf (0 + (List.take x0_2 x6_2).length) 32 && true then k (Res.mk (.tup [.ro 113 false false (List.take (0 + (List.take x0_2 x6_2).length) (List.take x0_2 x6_2)), .sc (.int .i64 0)]) [] []) else none) f (0) (JB 1 (RS.mk b 0)) (0) b_z b_z ((Jb 1 (RS.mk b 0)).b) ((Jb 1 (RS.mk b 0)).e) true ([]) else none else none
theorem e84 (f : Nat) (b_z b_f : Bool) (b : List PV) (k : Res -> Option Res) : JL tau F84 Try.f84 (Try.f84.body.get!) (JoS (JbZ f)) [.ro, .ro] 0 [.ro 5 b_z b_f b] [] k = g84 f b_z b_f b k := by kernel_rfl
theorem JBN (f : Nat) : Je (Try.f84.body.get!) (JoS (JbZ f)) = [.l Jdg Yj N84 (JbZ f)] := by kernel_rfl
theorem JBO (f : Nat) : ∀ q ∈ Je (Try.f84.body.get!) (JoS (JbZ f)), q.Ok tau Try.prog 0 := by
 rw [JBN f]; simp only [List.forall_mem_cons, List.not_mem_nil, false_implies, implies_true, and_true]; exact JtK f
theorem Jyc : Try.prog.funcs[84]? = some Try.f84 := by kernel_rfl
theorem Jyd : Try.f84.body = some (Try.f84.body.get!) := by kernel_rfl
theorem JBP : Enters Try.prog 84 := enters_of Jyc (by kernel_rfl) Jyd




-- FN delta.OpParse | ref8.OpParse
def cpN (s : RS) : RS := J2 (Jb 8 (Jb 1 s))
def cpV (s : RS) : PV := .st 113 [.sc (.int .i64 (JB 1 s)), .sc (.int .i64 (JB 8 (Jb 1 s))), .sc (.string (JT (Jb 8 (Jb 1 s))))]
def cpR : Nat -> RS -> RS
 | 0, s => s
 | n + 1, s => cpR n (cpN s)
def cpL : Nat -> RS -> List PV
 | 0, _ => []
 | n + 1, s => cpV s :: cpL n (cpN s)
theorem Vt : ∀ (n : Nat) (s : RS), (cpL n s).length = n
 | 0, _ => rfl
 | n + 1, s => by rw [cpL, List.length_cons, Vt n]
theorem JlV : ∀ (n : Nat) (s : RS), (cpL n s).all isCp = true
 | 0, _ => rfl
 | n + 1, s => by rw [cpL, List.all_cons, JlV n, Bool.and_true]; exact JbH.2 ⟨_, _, _, rfl⟩
theorem JoU {s : RS} (h : byB s.b = true) : byB (cpN s).b = true := JiT (Qq (Qq h 1) 8)
def opN (b : List PV) : Nat := bif decide (JB 1 ⟨b, 0⟩ > 40) then 0 else (JB 1 ⟨b, 0⟩).toNat
def opS (b : List PV) : RS := bif decide (JB 1 ⟨b, 0⟩ > 40) then JcZ 4 (Jb 1 ⟨b, 0⟩) else Jb 1 ⟨b, 0⟩
def Gi (b : List PV) : Int := bif (cpR (opN b) (opS b)).e == 0 then (bif decide ((cpR (opN b) (opS b)).b.length > 0) then 9 else ckO (cpL (opN b) (opS b))) else (cpR (opN b) (opS b)).e
def opE : List PV -> Int := hid Gi
def opL : List PV -> List PV := hid fun b => bif Gi b == 0 then cpL (opN b) (opS b) else []
theorem JhK (b : List PV) : opE b = Gi b := by rw [opE, hid_eq]
theorem Jeu (b : List PV) : opL b = bif Gi b == 0 then cpL (opN b) (opS b) else [] := by rw [opL, hid_eq]
def Zq (e : Int) : PV := .tup [.ro 113 true true [], .sc (.int .i64 e)]
def opP (b : List PV) : PV := .tup [.ro 113 (opL b).isEmpty (opL b).isEmpty (opL b), .sc (.int .i64 (opE b))]
theorem Jev {b : List PV} {e : Int} (h : Gi b = e) (h0 : (e == 0) = false) : opP b = Zq e := by
 simp only [opP, Zq, Jeu, JhK, h, h0, cond_false, List.isEmpty_nil]
theorem JtL {b : List PV} (h : Gi b = 0) : opP b = .tup [.ro 113 (cpL (opN b) (opS b)).isEmpty (cpL (opN b) (opS b)).isEmpty (cpL (opN b) (opS b)), .sc (.int .i64 0)] := by
 simp only [opP, Jeu, JhK, h, beq_self_eq_true, cond_true]
theorem JlW {b : List PV} (h : byB b = true) : opN b <= 40 := by
 unfold opN
 have h0 : 0 <= JB 1 ⟨b, 0⟩ := by rw [Xj]; exact (X5 (s := ⟨b, 0⟩) h (n := 1) (by omega)).1
 cases hc : decide (JB 1 ⟨b, 0⟩ > 40) with
 | true => exact Nat.zero_le _
 | false =>
  have : ¬ JB 1 ⟨b, 0⟩ > 40 := by simpa using hc
  rw [cond_false]; omega
theorem JoV {b : List PV} (h : byB b = true) : byB (opS b).b = true := by
 have := Qq (s := ⟨b, 0⟩) h 1
 unfold opS JcZ
 cases decide (JB 1 ⟨b, 0⟩ > 40) <;> exact this
theorem Jjg {n : Nat} (h : n <= 40) (s : RS) : cOk (cpL n s) = true := Ww.2 ⟨JlV n s, by rw [Vt]; omega⟩
theorem Jrj (f : Nat) (k0 : Nat -> Bool -> Bool -> List PV -> Int -> Bool -> List PV -> Option Res) (z fl : Bool) (hz : (!z || fl) = true) (N : Nat) (hN : N <= 40) : ∀ (d i n : Nat) (s : RS) (nl : Bool) (L : List PV), i + d = N -> d < n -> byB s.b = true -> L.length = i ->
  XD f k0 n L.length (N : Int) (i : Int) z fl s.b s.e nl L = k0 (L ++ cpL d s).length z fl (cpR d s).b (cpR d s).e (nl && (cpL d s).isEmpty) (L ++ cpL d s)
 | 0, i, n + 1, s, nl, L, h, hn, hb, hL => by
   obtain rfl : i = N := by omega
   simp only [XD, Gh, cpR, cpL, List.append_nil, List.isEmpty_nil, Bool.and_true]
   exact Jj (by simp)
 | d + 1, i, n + 1, s, nl, L, h, hn, hb, hL => by
   have w : IntKind.i64.wrap ((i : Int) + 1) = ((i + 1 : Nat) : Int) := by rw [wrap_i64 (by omega) (by omega)]; omega
   have hm : RS.mk s.b s.e = s := rfl
   have hn1 : J2 (Jb 8 (Jb 1 s)) = cpN s := rfl
   have hv1 : PV.st 113 [.sc (.int .i64 (JB 1 s)), .sc (.int .i64 (JB 8 (Jb 1 s))), .sc (.string (JT (Jb 8 (Jb 1 s))))] = cpV s := rfl
   simp only [XD, Gh, w, hm, hn1, hv1, List.take_length]
   refine (Ja (by simp; omega)).trans ((Ja (by rw [hb, hz]; rfl)).trans ((Ja (by rw [Qq hb 1, hz]; rfl)).trans ((Ja (by rw [Qq (Qq hb 1) 8, hz]; rfl)).trans ((Ja (by simp [Jf]; omega)).trans ?_))))
   have := Jrj f k0 z fl hz N hN d (i + 1) n (cpN s) (nl && false) (L ++ [cpV s]) (by omega) (by omega) (JoU hb) (by simp [hL])
   rw [List.length_append] at this
   refine Eq.trans this ?_
   simp only [cpR, cpL, Bool.and_false, Bool.false_and, List.isEmpty_cons, List.append_assoc, List.cons_append, List.nil_append]
theorem JtM (z f : Bool) (b : List PV) (hz : slB z b = true) (hb : byB b = true) (k : Res -> Option Res) :
  g84 50 z f b k = k ⟨opP b, [], []⟩ := by
 have hE : Gi b = Gi b := rfl
 conv at hE => rhs; unfold Gi
 have hN := JlW hb
 have hS := JoV hb
 have key : ∀ (N : Nat) (s : RS) (K : Nat -> Bool -> Bool -> List PV -> Int -> Bool -> List PV -> Option Res), opN b = N -> opS b = s ->
   (∀ (e : Int) (x1 x2 : Bool), Gi b = (bif (cpR N s).e == 0 then (bif decide ((cpR N s).b.length > 0) then 9 else ckO (cpL N s)) else (cpR N s).e) -> K (cpL N s).length x1 x2 (cpR N s).b (cpR N s).e (true && (cpL N s).isEmpty) ([] ++ cpL N s) = k ⟨opP b, [], []⟩) ->
   XD 50 K 50 0 (N : Int) 0 z z s.b s.e true [] = k ⟨opP b, [], []⟩ := by
  intro N s K h1 h2 h3
  subst h1; subst h2
  refine (Jrj 50 K z z (by cases z <;> rfl) (opN b) hN (opN b) 0 50 (opS b) true [] (by omega) (by omega) hS rfl).trans ?_
  exact h3 0 z z hE
 have fin : ∀ (N : Nat) (s : RS), opN b = N -> opS b = s -> Gi b = (bif (cpR N s).e == 0 then (bif decide ((cpR N s).b.length > 0) then 9 else ckO (cpL N s)) else (cpR N s).e) ->
   (bif (cpR N s).e == 0 then
    bif decide (zi (cpR N s).b.length > 0) then k ⟨Zq 9, [], []⟩
    else bif (cpR N s).e == 0 then
     bif cOk (List.take (cpL N s).length ([] ++ cpL N s)) then
      bif ckO (List.take (cpL N s).length ([] ++ cpL N s)) != 0 then k ⟨Zq (ckO (List.take (cpL N s).length ([] ++ cpL N s))), [], []⟩
      else bif (Ent.vec false 113 (true && (cpL N s).isEmpty) ([] ++ cpL N s)).nil then k ⟨Zq 0, [], []⟩
      else bif Jf (0 + (List.take (cpL N s).length ([] ++ cpL N s)).length) 32 && true then k ⟨.tup [.ro 113 false false (List.take (0 + (List.take (cpL N s).length ([] ++ cpL N s)).length) (List.take (cpL N s).length ([] ++ cpL N s))), .sc (.int .i64 0)], [], []⟩ else none
     else none
    else bif (cpR N s).e != 0 then k ⟨Zq (cpR N s).e, [], []⟩
    else bif (Ent.vec false 113 (true && (cpL N s).isEmpty) ([] ++ cpL N s)).nil then k ⟨Zq 0, [], []⟩
      else bif Jf (0 + (List.take (cpL N s).length ([] ++ cpL N s)).length) 32 && true then k ⟨.tup [.ro 113 false false (List.take (0 + (List.take (cpL N s).length ([] ++ cpL N s)).length) (List.take (cpL N s).length ([] ++ cpL N s))), .sc (.int .i64 0)], [], []⟩ else none
   else bif (cpR N s).e == 0 then
     bif cOk (List.take (cpL N s).length ([] ++ cpL N s)) then
      bif ckO (List.take (cpL N s).length ([] ++ cpL N s)) != 0 then k ⟨Zq (ckO (List.take (cpL N s).length ([] ++ cpL N s))), [], []⟩
      else bif (Ent.vec false 113 (true && (cpL N s).isEmpty) ([] ++ cpL N s)).nil then k ⟨Zq 0, [], []⟩
      else bif Jf (0 + (List.take (cpL N s).length ([] ++ cpL N s)).length) 32 && true then k ⟨.tup [.ro 113 false false (List.take (0 + (List.take (cpL N s).length ([] ++ cpL N s)).length) (List.take (cpL N s).length ([] ++ cpL N s))), .sc (.int .i64 0)], [], []⟩ else none
     else none
    else bif (cpR N s).e != 0 then k ⟨Zq (cpR N s).e, [], []⟩
    else bif (Ent.vec false 113 (true && (cpL N s).isEmpty) ([] ++ cpL N s)).nil then k ⟨Zq 0, [], []⟩
      else bif Jf (0 + (List.take (cpL N s).length ([] ++ cpL N s)).length) 32 && true then k ⟨.tup [.ro 113 false false (List.take (0 + (List.take (cpL N s).length ([] ++ cpL N s)).length) (List.take (cpL N s).length ([] ++ cpL N s))), .sc (.int .i64 0)], [], []⟩ else none) = k ⟨opP b, [], []⟩ := by
  intro N s h1 h2 h3
  have hco : cOk (cpL N s) = true := Jjg (by omega) s
  have hnl : (Ent.vec false 113 (cpL N s).isEmpty (cpL N s)).nil = (cpL N s).isEmpty := by simp [Ent.nil]
  have hlen : (cpL N s).length <= 40 := by rw [Vt]; omega
  have hz9 : decide (zi (cpR N s).b.length > 0) = decide ((cpR N s).b.length > 0) := by apply decide_eq_decide.2; simp only [zi]; omega
  simp only [List.nil_append, List.take_length, Bool.true_and, Nat.zero_add, hco, hnl, hz9, cond_true]
  cases he : ((cpR N s).e == 0) with
  | false =>
   rw [he, cond_false] at h3
   rw [Jev h3 he]
   simp only [cond_false]
   exact Ja (by rw [bne, he]; rfl)
  | true =>
   rw [he, cond_true] at h3
   cases h9 : decide ((cpR N s).b.length > 0) with
   | true =>
    rw [h9, cond_true] at h3
    rw [Jev h3 (by decide)]
    rfl
   | false =>
    rw [h9, cond_false] at h3
    simp only [cond_true, cond_false]
    cases hc : (ckO (cpL N s) == 0) with
    | false =>
     rw [Jev h3 hc]
     exact Ja (by rw [bne, hc]; rfl)
    | true =>
     have hc' : ckO (cpL N s) = 0 := by simpa using hc
     rw [hc'] at h3
     rw [JtL h3, h1, h2]
     refine (Jj (by rw [bne, hc]; rfl)).trans ?_
     cases hl : cpL N s with
     | nil => rfl
     | cons p ps =>
      rw [hl] at hlen
      refine (Jj rfl).trans ((Ja (by simp [Jf] at hlen ⊢; omega)).trans rfl)
 unfold g84
 refine (Ja hz).trans ((Ja (by rw [hb]; cases z <;> rfl)).trans ?_)
 have h0 : 0 <= JB 1 ⟨b, 0⟩ := by rw [Xj]; exact (X5 (s := ⟨b, 0⟩) hb (n := 1) (by omega)).1
 cases h4 : decide (JB 1 ⟨b, 0⟩ > 40) with
 | true =>
  have hN0 : opN b = 0 := by unfold opN; rw [h4]; rfl
  have hS0 : opS b = JcZ 4 (Jb 1 ⟨b, 0⟩) := by unfold opS; rw [h4]; rfl
  rw [cond_true]
  cases he : ((Jb 1 ⟨b, 0⟩).e == 0) with
  | true =>
   rw [cond_true]
   have hs : opS b = ⟨(Jb 1 ⟨b, 0⟩).b, 4⟩ := by rw [hS0]; unfold JcZ; rw [he]; rfl
   exact key 0 ⟨(Jb 1 ⟨b, 0⟩).b, 4⟩ _ hN0 hs fun _ _ _ h => fin 0 _ hN0 hs h
  | false =>
   rw [cond_false]
   have hs : opS b = ⟨(Jb 1 ⟨b, 0⟩).b, (Jb 1 ⟨b, 0⟩).e⟩ := by rw [hS0]; unfold JcZ; rw [he]; rfl
   exact key 0 ⟨(Jb 1 ⟨b, 0⟩).b, (Jb 1 ⟨b, 0⟩).e⟩ _ hN0 hs fun _ _ _ h => fin 0 _ hN0 hs h
 | false =>
  have hN0 : opN b = (JB 1 ⟨b, 0⟩).toNat := by unfold opN; rw [h4]; rfl
  have hS0 : opS b = Jb 1 ⟨b, 0⟩ := by unfold opS; rw [h4]; rfl
  rw [cond_false]
  have q := fun K hK => key (JB 1 ⟨b, 0⟩).toNat (Jb 1 ⟨b, 0⟩) K hN0 hS0 hK
  rw [Int.toNat_of_nonneg h0] at q
  exact q _ fun _ _ _ h => fin _ _ hN0 hS0 h
def JhL : List PV -> List Ent -> (Res -> Option Res) -> Option Res
 | [.ro 5 z f b], [], k => bif slB z b && byB b then k ⟨opP b, [], []⟩ else none
 | _, _, _ => none
def Jye : Sig := { own := [], run := JhL }
theorem Jyf : Jh tau Try.prog 84 Jye := Jh.mk' fun xs es k res hl hr => by
 change JhL xs es k = some res at hr
 unfold JhL at hr
 split at hr
 · rename_i z f b
   obtain ⟨hc, hr⟩ := JI hr
   rw [Bool.and_eq_true] at hc
   have hg := (JtM z f b hc.1 hc.2 k).trans hr
   exact Qj Jq JlU Js Jyc Jyd (JoS (JbZ 50)) [.ro, .ro] 0 0 (JBO 50) hl rfl ((e84 50 z f b k).trans hg)
 · cases hr
/-! The document's. -/
end
end Go.Proofs.Ythpmachmnoljeaa.Rx
