/- What the functions of this law compute, and their plain laws. Conditions: none. -/
import Derived.Test.YthpmachmnoljeaaWaveletMayP1
namespace Go.Proofs.Ythpmachmnoljeaa.Rx
noncomputable section
open Go
set_option linter.unusedVariables false
set_option linter.unusedSimpArgs false
set_option maxRecDepth 100000
set_option maxHeartbeats 0
def JxD : Fns := JG 76 Jtm (F0)
theorem Jo5 : Jy tau Try.prog JxD := (JE).add Jrw Jrv
def Jo6 : Nm := [(0, .any), (1, .any), (5, .own), (6, .any)]
def JtE : An := (.seq .leaf (.seq .leaf (.seq .leaf (.seq .leaf (.seq (.seq .leaf (.seq .leaf (.cond .leaf .leaf))) (.seq .leaf .leaf))))))
def Jjr : An := (.seq .leaf (.scope Jo6 JtE))
def Jl6 (f : Nat) (b_z b_f : Bool) (b : List PV) (n : Int) (k : Res -> Option Res) : Option Res := bif b_z then k (Res.mk (.ow 5 16 [] 0 8 none) [] [.vec false 5 false [.sc (.int .u8 (IntKind.u8.wrap (JA IntKind.u64 (IntKind.u64.wrap n) (IntKind.i64.wrap (8 * 0))))), .sc (.int .u8 (IntKind.u8.wrap (JA IntKind.u64 (IntKind.u64.wrap n) (IntKind.i64.wrap (8 * IntKind.i64.wrap (0 + 1)))))), .sc (.int .u8 (IntKind.u8.wrap (JA IntKind.u64 (IntKind.u64.wrap n) (IntKind.i64.wrap (8 * IntKind.i64.wrap (IntKind.i64.wrap (0 + 1) + 1)))))), .sc (.int .u8 (IntKind.u8.wrap (JA IntKind.u64 (IntKind.u64.wrap n) (IntKind.i64.wrap (8 * IntKind.i64.wrap (IntKind.i64.wrap (IntKind.i64.wrap (0 + 1) + 1) + 1)))))), .sc (.int .u8 (IntKind.u8.wrap (JA IntKind.u64 (IntKind.u64.wrap n) (IntKind.i64.wrap (8 * IntKind.i64.wrap (IntKind.i64.wrap (IntKind.i64.wrap (IntKind.i64.wrap (0 + 1) + 1) + 1) + 1)))))), .sc (.int .u8 (IntKind.u8.wrap (JA IntKind.u64 (IntKind.u64.wrap n) (IntKind.i64.wrap (8 * IntKind.i64.wrap (IntKind.i64.wrap (IntKind.i64.wrap (IntKind.i64.wrap (IntKind.i64.wrap (0 + 1) + 1) + 1) + 1) + 1)))))), .sc (.int .u8 (IntKind.u8.wrap (JA IntKind.u64 (IntKind.u64.wrap n) (IntKind.i64.wrap (8 * IntKind.i64.wrap (IntKind.i64.wrap (IntKind.i64.wrap (IntKind.i64.wrap (IntKind.i64.wrap (IntKind.i64.wrap (0 + 1) + 1) + 1) + 1) + 1) + 1)))))), .sc (.int .u8 (IntKind.u8.wrap (JA IntKind.u64 (IntKind.u64.wrap n) (IntKind.i64.wrap (8 * IntKind.i64.wrap (IntKind.i64.wrap (IntKind.i64.wrap (IntKind.i64.wrap (IntKind.i64.wrap (IntKind.i64.wrap (IntKind.i64.wrap (0 + 1) + 1) + 1) + 1) + 1) + 1) + 1))))))]]) else bif Jf (0 + b.length) 1 && true then bif Jf (0 + b.length + 1) 1 && true then bif Jf (0 + b.length + 1 + 1) 1 && true then bif Jf (0 + b.length + 1 + 1 + 1) 1 && true then bif Jf (0 + b.length + 1 + 1 + 1 + 1) 1 && true then bif Jf (0 + b.length + 1 + 1 + 1 + 1 + 1) 1 && true then bif Jf (0 + b.length + 1 + 1 + 1 + 1 + 1 + 1) 1 && true then bif Jf (0 + b.length + 1 + 1 + 1 + 1 + 1 + 1 + 1) 1 && true then bif Jf (0 + b.length + 1 + 1 + 1 + 1 + 1 + 1 + 1 + 1) 1 && true then bif Jf (0 + (List.take (0 + b.length + 1 + 1 + 1 + 1 + 1 + 1 + 1 + 1) (List.take (0 + b.length + 1 + 1 + 1 + 1 + 1 + 1 + 1) (List.take (0 + b.length + 1 + 1 + 1 + 1 + 1 + 1) (List.take (0 + b.length + 1 + 1 + 1 + 1 + 1) (List.take (0 + b.length + 1 + 1 + 1 + 1) (List.take (0 + b.length + 1 + 1 + 1) (List.take (0 + b.length + 1 + 1) (List.take (0 + b.length + 1) (List.take (0 + b.length) b ++ [.sc (.int .u8 (IntKind.u8.wrap (JA IntKind.u64 (IntKind.u64.wrap n) (IntKind.i64.wrap (8 * 0)))))]) ++ [.sc (.int .u8 (IntKind.u8.wrap (JA IntKind.u64 (IntKind.u64.wrap n) (IntKind.i64.wrap (8 * IntKind.i64.wrap (0 + 1))))))]) ++ [.sc (.int .u8 (IntKind.u8.wrap (JA IntKind.u64 (IntKind.u64.wrap n) (IntKind.i64.wrap (8 * IntKind.i64.wrap (IntKind.i64.wrap (0 + 1) + 1))))))]) ++ [.sc (.int .u8 (IntKind.u8.wrap (JA IntKind.u64 (IntKind.u64.wrap n) (IntKind.i64.wrap (8 * IntKind.i64.wrap (IntKind.i64.wrap (IntKind.i64.wrap (0 + 1) + 1) + 1))))))]) ++ [.sc (.int .u8 (IntKind.u8.wrap (JA IntKind.u64 (IntKind.u64.wrap n) (IntKind.i64.wrap (8 * IntKind.i64.wrap (IntKind.i64.wrap (IntKind.i64.wrap (IntKind.i64.wrap (0 + 1) + 1) + 1) + 1))))))]) ++ [.sc (.int .u8 (IntKind.u8.wrap (JA IntKind.u64 (IntKind.u64.wrap n) (IntKind.i64.wrap (8 * IntKind.i64.wrap (IntKind.i64.wrap (IntKind.i64.wrap (IntKind.i64.wrap (IntKind.i64.wrap (0 + 1) + 1) + 1) + 1) + 1))))))]) ++ [.sc (.int .u8 (IntKind.u8.wrap (JA IntKind.u64 (IntKind.u64.wrap n) (IntKind.i64.wrap (8 * IntKind.i64.wrap (IntKind.i64.wrap (IntKind.i64.wrap (IntKind.i64.wrap (IntKind.i64.wrap (IntKind.i64.wrap (0 + 1) + 1) + 1) + 1) + 1) + 1))))))]) ++ [.sc (.int .u8 (IntKind.u8.wrap (JA IntKind.u64 (IntKind.u64.wrap n) (IntKind.i64.wrap (8 * IntKind.i64.wrap (IntKind.i64.wrap (IntKind.i64.wrap (IntKind.i64.wrap (IntKind.i64.wrap (IntKind.i64.wrap (IntKind.i64.wrap (0 + 1) + 1) + 1) + 1) + 1) + 1) + 1))))))])).length) 1 && true then k (Res.mk (.ow 5 16 [] 0 (0 + (List.take (0 + b.length + 1 + 1 + 1 + 1 + 1 + 1 + 1 + 1) (List.take (0 + b.length + 1 + 1 + 1 + 1 + 1 + 1 + 1) (List.take (0 + b.length + 1 + 1 + 1 + 1 + 1 + 1) (List.take (0 + b.length + 1 + 1 + 1 + 1 + 1) (List.take (0 + b.length + 1 + 1 + 1 + 1) (List.take (0 + b.length + 1 + 1 + 1) (List.take (0 + b.length + 1 + 1) (List.take (0 + b.length + 1) (List.take (0 + b.length) b ++ [.sc (.int .u8 (IntKind.u8.wrap (JA IntKind.u64 (IntKind.u64.wrap n) (IntKind.i64.wrap (8 * 0)))))]) ++ [.sc (.int .u8 (IntKind.u8.wrap (JA IntKind.u64 (IntKind.u64.wrap n) (IntKind.i64.wrap (8 * IntKind.i64.wrap (0 + 1))))))]) ++ [.sc (.int .u8 (IntKind.u8.wrap (JA IntKind.u64 (IntKind.u64.wrap n) (IntKind.i64.wrap (8 * IntKind.i64.wrap (IntKind.i64.wrap (0 + 1) + 1))))))]) ++ [.sc (.int .u8 (IntKind.u8.wrap (JA IntKind.u64 (IntKind.u64.wrap n) (IntKind.i64.wrap (8 * IntKind.i64.wrap (IntKind.i64.wrap (IntKind.i64.wrap (0 + 1) + 1) + 1))))))]) ++ [.sc (.int .u8 (IntKind.u8.wrap (JA IntKind.u64 (IntKind.u64.wrap n) (IntKind.i64.wrap (8 * IntKind.i64.wrap (IntKind.i64.wrap (IntKind.i64.wrap (IntKind.i64.wrap (0 + 1) + 1) + 1) + 1))))))]) ++ [.sc (.int .u8 (IntKind.u8.wrap (JA IntKind.u64 (IntKind.u64.wrap n) (IntKind.i64.wrap (8 * IntKind.i64.wrap (IntKind.i64.wrap (IntKind.i64.wrap (IntKind.i64.wrap (IntKind.i64.wrap (0 + 1) + 1) + 1) + 1) + 1))))))]) ++ [.sc (.int .u8 (IntKind.u8.wrap (JA IntKind.u64 (IntKind.u64.wrap n) (IntKind.i64.wrap (8 * IntKind.i64.wrap (IntKind.i64.wrap (IntKind.i64.wrap (IntKind.i64.wrap (IntKind.i64.wrap (IntKind.i64.wrap (0 + 1) + 1) + 1) + 1) + 1) + 1))))))]) ++ [.sc (.int .u8 (IntKind.u8.wrap (JA IntKind.u64 (IntKind.u64.wrap n) (IntKind.i64.wrap (8 * IntKind.i64.wrap (IntKind.i64.wrap (IntKind.i64.wrap (IntKind.i64.wrap (IntKind.i64.wrap (IntKind.i64.wrap (IntKind.i64.wrap (0 + 1) + 1) + 1) + 1) + 1) + 1) + 1))))))])).length) none) [] [.vec false 5 false (List.take (0 + b.length + 1 + 1 + 1 + 1 + 1 + 1 + 1 + 1) (List.take (0 + b.length + 1 + 1 + 1 + 1 + 1 + 1 + 1) (List.take (0 + b.length + 1 + 1 + 1 + 1 + 1 + 1) (List.take (0 + b.length + 1 + 1 + 1 + 1 + 1) (List.take (0 + b.length + 1 + 1 + 1 + 1) (List.take (0 + b.length + 1 + 1 + 1) (List.take (0 + b.length + 1 + 1) (List.take (0 + b.length + 1) (List.take (0 + b.length) b ++ [.sc (.int .u8 (IntKind.u8.wrap (JA IntKind.u64 (IntKind.u64.wrap n) (IntKind.i64.wrap (8 * 0)))))]) ++ [.sc (.int .u8 (IntKind.u8.wrap (JA IntKind.u64 (IntKind.u64.wrap n) (IntKind.i64.wrap (8 * IntKind.i64.wrap (0 + 1))))))]) ++ [.sc (.int .u8 (IntKind.u8.wrap (JA IntKind.u64 (IntKind.u64.wrap n) (IntKind.i64.wrap (8 * IntKind.i64.wrap (IntKind.i64.wrap (0 + 1) + 1))))))]) ++ [.sc (.int .u8 (IntKind.u8.wrap (JA IntKind.u64 (IntKind.u64.wrap n) (IntKind.i64.wrap (8 * IntKind.i64.wrap (IntKind.i64.wrap (IntKind.i64.wrap (0 + 1) + 1) + 1))))))]) ++ [.sc (.int .u8 (IntKind.u8.wrap (JA IntKind.u64 (IntKind.u64.wrap n) (IntKind.i64.wrap (8 * IntKind.i64.wrap (IntKind.i64.wrap (IntKind.i64.wrap (IntKind.i64.wrap (0 + 1) + 1) + 1) + 1))))))]) ++ [.sc (.int .u8 (IntKind.u8.wrap (JA IntKind.u64 (IntKind.u64.wrap n) (IntKind.i64.wrap (8 * IntKind.i64.wrap (IntKind.i64.wrap (IntKind.i64.wrap (IntKind.i64.wrap (IntKind.i64.wrap (0 + 1) + 1) + 1) + 1) + 1))))))]) ++ [.sc (.int .u8 (IntKind.u8.wrap (JA IntKind.u64 (IntKind.u64.wrap n) (IntKind.i64.wrap (8 * IntKind.i64.wrap (IntKind.i64.wrap (IntKind.i64.wrap (IntKind.i64.wrap (IntKind.i64.wrap (IntKind.i64.wrap (0 + 1) + 1) + 1) + 1) + 1) + 1))))))]) ++ [.sc (.int .u8 (IntKind.u8.wrap (JA IntKind.u64 (IntKind.u64.wrap n) (IntKind.i64.wrap (8 * IntKind.i64.wrap (IntKind.i64.wrap (IntKind.i64.wrap (IntKind.i64.wrap (IntKind.i64.wrap (IntKind.i64.wrap (IntKind.i64.wrap (0 + 1) + 1) + 1) + 1) + 1) + 1) + 1))))))]))]) else none else none else none else none else none else none else none else none else none else none
theorem JB0 (f : Nat) (b_z b_f : Bool) (b : List PV) (n : Int) (k : Res -> Option Res) : JM tau JxD Try.f35 (Try.f35.body.get!) Jjr [] 12 [.ro 5 b_z b_f b, .sc (.int .i64 n)] [] k = Jl6 f b_z b_f b n k := by kernel_rfl
theorem JxE (f : Nat) : Je (Try.f35.body.get!) Jjr = [] := by kernel_rfl
theorem JxF (f : Nat) : ∀ q ∈ Je (Try.f35.body.get!) Jjr, q.Ok tau Try.prog 0 := by
 rw [JxE f]; intro q hq; cases hq
theorem JxG : Try.prog.funcs[35]? = some Try.f35 := by kernel_rfl
theorem JxH : Try.f35.body = some (Try.f35.body.get!) := by kernel_rfl
def F97 : Fns := F0
theorem JtF : Jy tau Try.prog F97 := JE
def Jo7 : An := (.seq .leaf (.seq (.seq .leaf (.cond .leaf .leaf)) (.seq .leaf .leaf)))
def g97 (f : Nat) (s : ByteArray) (k : Res -> Option Res) : Option Res := bif decide (zi s.size > 65535) then bif decide (65535 <= s.size) && true then bif Jf (2 + (Jg (s.extract 0 65535)).length) 1 && true then k (Res.mk (.ow 5 16 [] 0 (2 + (Jg (s.extract 0 65535)).length) none) [] [.vec false 5 false (.sc (.int .u8 (IntKind.u8.wrap (zi (s.extract 0 65535).size))) :: .sc (.int .u8 (IntKind.u8.wrap (JA IntKind.i64 (zi (s.extract 0 65535).size) 8))) :: id (Jg (s.extract 0 65535)))]) else none else none else bif Jf (2 + (Jg s).length) 1 && true then k (Res.mk (.ow 5 16 [] 0 (2 + (Jg s).length) none) [] [.vec false 5 false (.sc (.int .u8 (IntKind.u8.wrap (zi s.size))) :: .sc (.int .u8 (IntKind.u8.wrap (JA IntKind.i64 (zi s.size) 8))) :: id (Jg s))]) else none
theorem e97 (f : Nat) (s : ByteArray) (k : Res -> Option Res) : JM tau F97 Try.f97 (Try.f97.body.get!) Jo7 [] 0 [.ro 5 true true [], .sc (.string s)] [] k = g97 f s k := by kernel_rfl
theorem JB1 (f : Nat) : Je (Try.f97.body.get!) Jo7 = [] := by kernel_rfl
theorem JB2 (f : Nat) : ∀ q ∈ Je (Try.f97.body.get!) Jo7, q.Ok tau Try.prog 0 := by
 rw [JB1 f]; intro q hq; cases hq
theorem JxI : Try.prog.funcs[97]? = some Try.f97 := by kernel_rfl
theorem JxJ : Try.f97.body = some (Try.f97.body.get!) := by kernel_rfl
theorem JxK : Enters Try.prog 97 := enters_of JxI (by kernel_rfl) JxJ
def JhO : List PV -> List Ent -> (Res -> Option Res) -> Option Res
 | [.ro 5 z f b, .sc (.int .i64 n)], [], k => bif okZ z b then k ⟨.ow 5 16 [] 0 (apI b n).length none, [], [.vec false 5 false (apI b n)]⟩ else none
 | _, _, _ => none
def JxL : Sig := { own := [], run := JhO }
theorem Jl7 (f : Bool) (n : Int) (k : Res -> Option Res) : Jl6 0 true f [] n k = k ⟨.ow 5 16 [] 0 8 none, [], [.vec false 5 false (pu .u8 (JT n))]⟩ := by
 rw [WG]; kernel_rfl
theorem JtG (f : Bool) (b : List PV) (hb : b.length <= 1000000000) (n : Int) (k : Res -> Option Res) : Jl6 0 false f b n k = k ⟨.ow 5 16 [] 0 (b.length + 8) none, [], [.vec false 5 false (b ++ pu .u8 (JT n))]⟩ := by
 rw [WG]
 unfold Jl6
 refine (Jj rfl).trans ?_
 repeat rw [List.take_of_length_le (by simp <;> omega)]
 repeat (refine (Ja (by simp [Jf]; omega)).trans ?_)
 simp only [List.nil_append, List.append_assoc, List.length_append, List.length_cons, List.length_nil, Nat.zero_add]
 rfl
theorem JxM : Jh tau Try.prog 35 JxL := Jh.mk' fun xs es k res hl hr => by
 change JhO xs es k = some res at hr
 unfold JhO at hr
 split at hr
 · rename_i z f b n
   obtain ⟨hc, hr2⟩ := JI hr
   clear hr
   rw [Vq] at hc
   obtain ⟨h1, h2⟩ := WA.1 hc
   rw [Yf] at hr2
   have hg : Jl6 0 z f b n k = some res := by
    cases z with
    | true => obtain rfl := h1 rfl; rw [Jl7]; simpa using hr2
    | false => rw [JtG f b h2]; simpa using hr2
   exact Qk Jr Jo5 Js JxG JxH Jjr [] 0 12 (JxF 0) hl rfl ((JB0 0 z f b n k).trans hg)
 · cases hr
def JhP : List PV -> List Ent -> (Res -> Option Res) -> Option Res
 | [.ro 5 true true [], .sc (.int .i64 n)], [], k => k ⟨.ow 5 16 [] 0 (apI [] n).length none, [], [.vec false 5 false (apI [] n)]⟩
 | [.ow 5 0 [] 0 m none, .sc (.int .i64 n)], [.vec false 5 nl l], k => bif okL m l then k ⟨.ow 5 16 [] 0 (apI l n).length none, [.dead], [.vec false 5 false (apI l n)]⟩ else none
 | _, _, _ => none
def Jo8 : Sig := { own := [true], run := JhP }
theorem Jl8 : Jh tau Try.prog 53 Jo8 := fun xs es k res hl hr => by
 change JhP xs es k = some res at hr
 unfold JhP at hr
 split at hr
 · rename_i n
   refine JrE _ _ k res hl ?_
   rw [Yf] at hr
   show k ⟨.ow 5 16 [] 0 8 none, [], [.vec false 5 false (pu .u8 (JT n))]⟩ = some res
   simpa using hr
 · rename_i m n nl l
   exact JrH _ _ k res hl hr
 · cases hr
def JhQ : List PV -> List Ent -> (Res -> Option Res) -> Option Res
 | [.ro 5 true true [], .sc (.string s)], [], k => bif Nat.ble s.size 65535 then k ⟨.ow 5 16 [] 0 (apT [] s).length none, [], [.vec false 5 false (apT [] s)]⟩ else none
 | [.ow 5 0 [] 0 m none, .sc (.string s)], [.vec false 5 nl l], k => bif okL m l && Nat.ble s.size 65535 then k ⟨.ow 5 16 [] 0 (apT l s).length none, [.dead], [.vec false 5 false (apT l s)]⟩ else none
 | _, _, _ => none
def JtH : Sig := { own := [true], run := JhQ }
theorem JrJ : Jh tau Try.prog 97 JtH := Jh.mk' fun xs es k res hl hr => by
 change JhQ xs es k = some res at hr
 unfold JhQ at hr
 split at hr
 · rename_i s
   obtain ⟨hc, hr⟩ := JI hr
   rw [Nat.ble_eq] at hc
   have hob : (Jg s).length = s.size := by rw [Wd]; simp
   have hg : g97 0 s k = some res := by
    unfold g97
    rw [Jj (by simp only [zi, decide_eq_false_iff_not]; omega), Ja (by simp [Jf, hob]; omega), hob]
    rw [XC, Xc, Zb] at hr
    simp only [List.nil_append, JQ, List.length_append, JD, Vo, List.length_cons, List.length_nil, ← Wd] at hr
    rw [← hr, hob]
    simp only [id, Ja9, Jho, List.cons_append, List.nil_append, Nat.zero_add, Nat.reduceAdd]
   exact Qk Jr JtF Js JxI JxJ Jo7 [] 0 0 (JB2 0) hl rfl ((e97 0 s k).trans hg)
 · rename_i m s nl l
   exact JrI _ _ k res hl hr
 · cases hr
def N93 : Nat := 34
def F93 : Fns := JG 130 JrF (JG 92 JtD (JG 35 Jxz (F0)))
theorem Jl9 : Jy tau Try.prog F93 := (((JE).add JxA Jtp).add JrG Jw5).add JtC Jw4
def Gc : Code := Qj (Try.f93.body.get!) [1, 0]
def Yg : Nm := [(0, .any), (3, .own), (4, .any)]
def Zc : Nm := [(2, .any)]
def Jdd : An := (.seq .leaf (.seq .leaf (.seq .leaf (.seq (.seq .leaf (.cond (.seq .leaf (.seq .leaf .leaf)) .leaf)) (.seq .leaf .leaf)))))
def Jo9 (r0 : Jlo) : An := (.seq .leaf (.ssum Yg N93 (Jdd) r0))
def Gd (f : Nat) (rc : Bool -> Bool -> List PV -> Nat -> Int -> List PV -> Option Res) (k0 : Nat -> List PV -> Option Res) (v0 v1 : Bool) (v2 : List PV) (v3 : Nat) (v4 : Int) (v5 : List PV) : Option Res := bif decide (v4 < zi v2.length) then bif decide (0 <= v4) && decide (v4 < zi v2.length) && (PV.isSt 113 #[Field.mk "Kind" 3 0 false "" "" 0, Field.mk "N" 3 1 false "" "" 8, Field.mk "S" 9 2 false "" "" 16].size (v2.getD v4.toNat PV.top) && (PV.isInt IntKind.i64 (PV.child 0 (v2.getD v4.toNat PV.top)) && (PV.isInt IntKind.i64 (PV.child (0 + 1) (v2.getD v4.toNat PV.top)) && ((PV.child (0 + 1 + 1) (v2.getD v4.toNat PV.top)).isStr && true)))) && true then bif okZ false (List.take v3 v5) then bif decide (0 <= v4) && decide (v4 < zi v2.length) && (PV.isSt 113 #[Field.mk "Kind" 3 0 false "" "" 0, Field.mk "N" 3 1 false "" "" 8, Field.mk "S" 9 2 false "" "" 16].size (v2.getD v4.toNat PV.top) && (PV.isInt IntKind.i64 (PV.child 0 (v2.getD v4.toNat PV.top)) && (PV.isInt IntKind.i64 (PV.child (0 + 1) (v2.getD v4.toNat PV.top)) && ((PV.child (0 + 1 + 1) (v2.getD v4.toNat PV.top)).isStr && true)))) && true then bif okZ false (List.take (apY (List.take v3 v5) (PV.child 0 (v2.getD v4.toNat PV.top)).int).length (apY (List.take v3 v5) (PV.child 0 (v2.getD v4.toNat PV.top)).int)) then bif decide (0 <= v4) && decide (v4 < zi v2.length) && (PV.isSt 113 #[Field.mk "Kind" 3 0 false "" "" 0, Field.mk "N" 3 1 false "" "" 8, Field.mk "S" 9 2 false "" "" 16].size (v2.getD v4.toNat PV.top) && (PV.isInt IntKind.i64 (PV.child 0 (v2.getD v4.toNat PV.top)) && (PV.isInt IntKind.i64 (PV.child (0 + 1) (v2.getD v4.toNat PV.top)) && ((PV.child (0 + 1 + 1) (v2.getD v4.toNat PV.top)).isStr && true)))) && true then bif okZ false (apI (List.take (apY (List.take v3 v5) (PV.child 0 (v2.getD v4.toNat PV.top)).int).length (apY (List.take v3 v5) (PV.child 0 (v2.getD v4.toNat PV.top)).int)) (PV.child (0 + 1) (v2.getD v4.toNat PV.top)).int) && (PV.child (0 + 1 + 1) (v2.getD v4.toNat PV.top)).str.size.ble 65535 then rc v0 v1 v2 ((apT (apI (List.take (apY (List.take v3 v5) (PV.child 0 (v2.getD v4.toNat PV.top)).int).length (apY (List.take v3 v5) (PV.child 0 (v2.getD v4.toNat PV.top)).int)) (PV.child (0 + 1) (v2.getD v4.toNat PV.top)).int) (PV.child (0 + 1 + 1) (v2.getD v4.toNat PV.top)).str).length) (IntKind.i64.wrap (v4 + 1)) (apT (apI (List.take (apY (List.take v3 v5) (PV.child 0 (v2.getD v4.toNat PV.top)).int).length (apY (List.take v3 v5) (PV.child 0 (v2.getD v4.toNat PV.top)).int)) (PV.child (0 + 1) (v2.getD v4.toNat PV.top)).int) (PV.child (0 + 1 + 1) (v2.getD v4.toNat PV.top)).str) else none else none else none else none else none else none else k0 v3 v5
def Vr (f : Nat) (k0 : Nat -> List PV -> Option Res) : Nat -> Bool -> Bool -> List PV -> Nat -> Int -> List PV -> Option Res
 | 0, _, _, _, _, _, _ => none
 | n + 1, v0, v1, v2, v3, v4, v5 => Gd f (Vr f k0 n) k0 v0 v1 v2 v3 v4 v5
theorem Jpa (f : Nat) (k : Kont) (n : Nat) (v0 v1 : Bool) (v2 : List PV) (v3 : Nat) (v4 : Int) (v5 : List PV) : J6 tau 0 Yg (hasLabel Gc) (fun l s k => JV tau F93 0 0 Gc (Jdd ) l s k) (n + 1) 0 (Jc Yg N93 [.ro 113 v0 v1 v2, .ow 5 560 [] 0 v3 none, .sc (.int .i64 v4)] [(560, .vec false 5 false v5)]) (Jq tau 0 Zc k) = Gd f (fun v0 v1 v2 v3 v4 v5 => J6 tau 0 Yg (hasLabel Gc) (fun l s k => JV tau F93 0 0 Gc (Jdd ) l s k) n 0 (Jc Yg N93 [.ro 113 v0 v1 v2, .ow 5 560 [] 0 v3 none, .sc (.int .i64 v4)] [(560, .vec false 5 false v5)]) (Jq tau 0 Zc k)) (fun x0 x1 => k Ex.ret (Jc Zc N93 [.ow 5 560 [] 0 x0 none] [(560, .vec false 5 false x1)])) v0 v1 v2 v3 v4 v5 := by kernel_rfl
theorem Jjs (f : Nat) (k : Kont) : ∀ (n : Nat) (v0 v1 : Bool) (v2 : List PV) (v3 : Nat) (v4 : Int) (v5 : List PV), J6 tau 0 Yg (hasLabel Gc) (fun l s k => JV tau F93 0 0 Gc (Jdd ) l s k) n 0 (Jc Yg N93 [.ro 113 v0 v1 v2, .ow 5 560 [] 0 v3 none, .sc (.int .i64 v4)] [(560, .vec false 5 false v5)]) (Jq tau 0 Zc k) = Vr f (fun x0 x1 => k Ex.ret (Jc Zc N93 [.ow 5 560 [] 0 x0 none] [(560, .vec false 5 false x1)])) n v0 v1 v2 v3 v4 v5 | 0, _, _, _, _, _, _ => rfl | n + 1, v0, v1, v2, v3, v4, v5 => (Jpa f k n v0 v1 v2 v3 v4 v5).trans (congrArg (fun r => Gd f r (fun x0 x1 => k Ex.ret (Jc Zc N93 [.ow 5 560 [] 0 x0 none] [(560, .vec false 5 false x1)])) v0 v1 v2 v3 v4 v5) (by funext v0 v1 v2 v3 v4 v5; exact Jjs f k n v0 v1 v2 v3 v4 v5))
def Jb1 (f : Nat) : Nat -> List PV -> List (Nat × Ent) -> Kont -> Option Res
 | 0, [.ro 113 v0 v1 v2, .ow 5 560 [] 0 v3 none,
 PV.sc
  (Value.int IntKind.i64
   v4)], [(560, .vec false 5 false v5)], k => Vr f (fun x0 x1 => k Ex.ret (Jc Zc N93 [.ow 5 560 [] 0 x0 none] [(560, .vec false 5 false x1)])) f v0 v1 v2 v3 v4 v5
 | _, _, _, _ => none
theorem JtI (f : Nat) : Je Gc Jdd = [] := by kernel_rfl
theorem JtJ (f : Nat) : (Item.s Gc Yg N93 (Jb1 f)).Ok tau Try.prog 0 := W7 Jr Jl9 Js (x := Jdd) (nm2 := Zc) (Jk _ _ (by rw [JtI f]; intro q hq; cases hq)) fun l vs hp k res hr => by
 unfold Jb1 at hr
 split at hr
 · exact ⟨f, 0, (Jjs f _ f _ _ _ _ _ _ ).trans hr⟩
 · cases hr
def g93 (f : Nat) (o_z o_f : Bool) (o : List PV) (k : Res -> Option Res) : Option Res := bif okZ true [] then bif decide (0 < zi o.length) then bif decide (0 < zi o.length) && (PV.isSt 113 #[Field.mk "Kind" 3 0 false "" "" 0, Field.mk "N" 3 1 false "" "" 8, Field.mk "S" 9 2 false "" "" 16].size (o.getD (Int.toNat 0) PV.top) && (PV.isInt IntKind.i64 (PV.child 0 (o.getD 0 PV.top)) && (PV.isInt IntKind.i64 (PV.child (0 + 1) (o.getD 0 PV.top)) && ((PV.child (0 + 1 + 1) (o.getD 0 PV.top)).isStr && true)))) && true then bif okZ false (List.take (apY [] (zi o.length)).length (apY [] (zi o.length))) then bif decide (0 < zi o.length) && (PV.isSt 113 #[Field.mk "Kind" 3 0 false "" "" 0, Field.mk "N" 3 1 false "" "" 8, Field.mk "S" 9 2 false "" "" 16].size (o.getD (Int.toNat 0) PV.top) && (PV.isInt IntKind.i64 (PV.child 0 (o.getD 0 PV.top)) && (PV.isInt IntKind.i64 (PV.child (0 + 1) (o.getD 0 PV.top)) && ((PV.child (0 + 1 + 1) (o.getD 0 PV.top)).isStr && true)))) && true then bif okZ false (List.take (apY (List.take (apY [] (zi o.length)).length (apY [] (zi o.length))) (PV.child 0 (o.getD 0 PV.top)).int).length (apY (List.take (apY [] (zi o.length)).length (apY [] (zi o.length))) (PV.child 0 (o.getD 0 PV.top)).int)) then bif decide (0 < zi o.length) && (PV.isSt 113 #[Field.mk "Kind" 3 0 false "" "" 0, Field.mk "N" 3 1 false "" "" 8, Field.mk "S" 9 2 false "" "" 16].size (o.getD (Int.toNat 0) PV.top) && (PV.isInt IntKind.i64 (PV.child 0 (o.getD 0 PV.top)) && (PV.isInt IntKind.i64 (PV.child (0 + 1) (o.getD 0 PV.top)) && ((PV.child (0 + 1 + 1) (o.getD 0 PV.top)).isStr && true)))) && true then bif okZ false (apI (List.take (apY (List.take (apY [] (zi o.length)).length (apY [] (zi o.length))) (PV.child 0 (o.getD 0 PV.top)).int).length (apY (List.take (apY [] (zi o.length)).length (apY [] (zi o.length))) (PV.child 0 (o.getD 0 PV.top)).int)) (PV.child (0 + 1) (o.getD 0 PV.top)).int) && (PV.child (0 + 1 + 1) (o.getD 0 PV.top)).str.size.ble 65535 then Vr f (fun x0_0 x1_0 => k (Res.mk (.ro 5 false false (List.take x0_0 x1_0)) [] [])) f o_z o_f o ((apT (apI (List.take (apY (List.take (apY [] (zi o.length)).length (apY [] (zi o.length))) (PV.child 0 (o.getD 0 PV.top)).int).length (apY (List.take (apY [] (zi o.length)).length (apY [] (zi o.length))) (PV.child 0 (o.getD 0 PV.top)).int)) (PV.child (0 + 1) (o.getD 0 PV.top)).int) (PV.child (0 + 1 + 1) (o.getD 0 PV.top)).str).length) (IntKind.i64.wrap (0 + 1)) (apT (apI (List.take (apY (List.take (apY [] (zi o.length)).length (apY [] (zi o.length))) (PV.child 0 (o.getD 0 PV.top)).int).length (apY (List.take (apY [] (zi o.length)).length (apY [] (zi o.length))) (PV.child 0 (o.getD 0 PV.top)).int)) (PV.child (0 + 1) (o.getD 0 PV.top)).int) (PV.child (0 + 1 + 1) (o.getD 0 PV.top)).str) else none else none else none else none else none else none else k (Res.mk (.ro 5 false false (List.take (apY [] (zi o.length)).length (apY [] (zi o.length)))) [] []) else none
theorem e93 (f : Nat) (o_z o_f : Bool) (o : List PV) (k : Res -> Option Res) : JM tau F93 Try.f93 (Try.f93.body.get!) (Jo9 (Jb1 f)) [.ro] 0 [.ro 113 o_z o_f o] [] k = g93 f o_z o_f o k := by kernel_rfl
theorem JB3 (f : Nat) : Je (Try.f93.body.get!) (Jo9 (Jb1 f)) = [.s Gc Yg N93 (Jb1 f)] := by kernel_rfl
theorem JB4 (f : Nat) : ∀ q ∈ Je (Try.f93.body.get!) (Jo9 (Jb1 f)), q.Ok tau Try.prog 0 := by
 rw [JB3 f]; simp only [List.forall_mem_cons, List.not_mem_nil, false_implies, implies_true, and_true]; exact JtJ f
theorem JxN : Try.prog.funcs[93]? = some Try.f93 := by kernel_rfl
theorem JxO : Try.f93.body = some (Try.f93.body.get!) := by kernel_rfl
theorem JB5 : Enters Try.prog 93 := enters_of JxN (by kernel_rfl) JxO
def N98 : Nat := 34
def F98 : Fns := JG 105 Jl4 (JG 97 JxC (JG 53 JxB (F0)))
theorem Jma : Jy tau Try.prog F98 := (((JE).add JrH JoX).add JrI Jxs).add Jl5 Jrz
def Jde : Code := Qj (Try.f98.body.get!) [1, 1, 0, 1, 0, 0]
def Yh : Nm := [(0, .any), (3, .own), (4, .any)]
def Zd : Nm := [(3, .any)]
def Jf3 : An := (.seq (.seq .leaf (.cond .leaf .leaf)) (.seq (.block none .leaf) .leaf))
def Jpb (r0 : QC) : An := (.seq .leaf (.seq .leaf (.seq (.seq .leaf (.block none (.sum Yh N98 r0))) (.seq .leaf .leaf))))
def Ge (f : Nat) (rc : Bool -> Bool -> List PV -> Nat -> Int -> List PV -> Option Res) (k0 : Nat -> List PV -> Option Res) (v0 v1 : Bool) (v2 : List PV) (v3 : Nat) (v4 : Int) (v5 : List PV) : Option Res := bif decide (v4 < zi v2.length) then bif decide (0 <= v4) && decide (v4 < zi v2.length) && (PV.isSt 113 #[Field.mk "Kind" 3 0 false "" "" 0, Field.mk "N" 3 1 false "" "" 8, Field.mk "S" 9 2 false "" "" 16].size (v2.getD v4.toNat PV.top) && (PV.isInt IntKind.i64 (PV.child 0 (v2.getD v4.toNat PV.top)) && (PV.isInt IntKind.i64 (PV.child (0 + 1) (v2.getD v4.toNat PV.top)) && ((PV.child (0 + 1 + 1) (v2.getD v4.toNat PV.top)).isStr && true)))) && true then bif okL v3 v5 then bif decide (0 <= v4) && decide (v4 < zi v2.length) && (PV.isSt 113 #[Field.mk "Kind" 3 0 false "" "" 0, Field.mk "N" 3 1 false "" "" 8, Field.mk "S" 9 2 false "" "" 16].size (v2.getD v4.toNat PV.top) && (PV.isInt IntKind.i64 (PV.child 0 (v2.getD v4.toNat PV.top)) && (PV.isInt IntKind.i64 (PV.child (0 + 1) (v2.getD v4.toNat PV.top)) && ((PV.child (0 + 1 + 1) (v2.getD v4.toNat PV.top)).isStr && true)))) && true then bif okL (apY v5 (PV.child 0 (v2.getD v4.toNat PV.top)).int).length (apY v5 (PV.child 0 (v2.getD v4.toNat PV.top)).int) then bif decide (0 <= v4) && decide (v4 < zi v2.length) && (PV.isSt 113 #[Field.mk "Kind" 3 0 false "" "" 0, Field.mk "N" 3 1 false "" "" 8, Field.mk "S" 9 2 false "" "" 16].size (v2.getD v4.toNat PV.top) && (PV.isInt IntKind.i64 (PV.child 0 (v2.getD v4.toNat PV.top)) && (PV.isInt IntKind.i64 (PV.child (0 + 1) (v2.getD v4.toNat PV.top)) && ((PV.child (0 + 1 + 1) (v2.getD v4.toNat PV.top)).isStr && true)))) && true then bif okL (apI (apY v5 (PV.child 0 (v2.getD v4.toNat PV.top)).int) (PV.child (0 + 1) (v2.getD v4.toNat PV.top)).int).length (apI (apY v5 (PV.child 0 (v2.getD v4.toNat PV.top)).int) (PV.child (0 + 1) (v2.getD v4.toNat PV.top)).int) && (PV.child (0 + 1 + 1) (v2.getD v4.toNat PV.top)).str.size.ble 65535 then rc v0 v1 v2 ((apT (apI (apY v5 (PV.child 0 (v2.getD v4.toNat PV.top)).int) (PV.child (0 + 1) (v2.getD v4.toNat PV.top)).int) (PV.child (0 + 1 + 1) (v2.getD v4.toNat PV.top)).str).length) (IntKind.i64.wrap (v4 + 1)) (apT (apI (apY v5 (PV.child 0 (v2.getD v4.toNat PV.top)).int) (PV.child (0 + 1) (v2.getD v4.toNat PV.top)).int) (PV.child (0 + 1 + 1) (v2.getD v4.toNat PV.top)).str) else none else none else none else none else none else none else k0 v3 v5
def Vs (f : Nat) (k0 : Nat -> List PV -> Option Res) : Nat -> Bool -> Bool -> List PV -> Nat -> Int -> List PV -> Option Res
 | 0, _, _, _, _, _, _ => none
 | n + 1, v0, v1, v2, v3, v4, v5 => Ge f (Vs f k0 n) k0 v0 v1 v2 v3 v4 v5
theorem Jpc (f : Nat) (k : Kont) (n : Nat) (v0 v1 : Bool) (v2 : List PV) (v3 : Nat) (v4 : Int) (v5 : List PV) : Jp tau 0 Yh (fun s k => ev tau F98 0 0 Jde (Jf3 ) s k) (n + 1) (Jc Yh N98 [.ro 113 v0 v1 v2, .ow 5 560 [] 0 v3 none, .sc (.int .i64 v4)] [(560, .vec false 5 false v5)]) (Jq tau 0 Zd k) = Ge f (fun v0 v1 v2 v3 v4 v5 => Jp tau 0 Yh (fun s k => ev tau F98 0 0 Jde (Jf3 ) s k) n (Jc Yh N98 [.ro 113 v0 v1 v2, .ow 5 560 [] 0 v3 none, .sc (.int .i64 v4)] [(560, .vec false 5 false v5)]) (Jq tau 0 Zd k)) (fun x0 x1 => k (Ex.exit 0) (Jc Zd N98 [.ow 5 560 [] 0 x0 none] [(560, .vec false 5 false x1)])) v0 v1 v2 v3 v4 v5 := by kernel_rfl
theorem Jjt (f : Nat) (k : Kont) : ∀ (n : Nat) (v0 v1 : Bool) (v2 : List PV) (v3 : Nat) (v4 : Int) (v5 : List PV), Jp tau 0 Yh (fun s k => ev tau F98 0 0 Jde (Jf3 ) s k) n (Jc Yh N98 [.ro 113 v0 v1 v2, .ow 5 560 [] 0 v3 none, .sc (.int .i64 v4)] [(560, .vec false 5 false v5)]) (Jq tau 0 Zd k) = Vs f (fun x0 x1 => k (Ex.exit 0) (Jc Zd N98 [.ow 5 560 [] 0 x0 none] [(560, .vec false 5 false x1)])) n v0 v1 v2 v3 v4 v5 | 0, _, _, _, _, _, _ => rfl | n + 1, v0, v1, v2, v3, v4, v5 => (Jpc f k n v0 v1 v2 v3 v4 v5).trans (congrArg (fun r => Ge f r (fun x0 x1 => k (Ex.exit 0) (Jc Zd N98 [.ow 5 560 [] 0 x0 none] [(560, .vec false 5 false x1)])) v0 v1 v2 v3 v4 v5) (by funext v0 v1 v2 v3 v4 v5; exact Jjt f k n v0 v1 v2 v3 v4 v5))
def Jb2 (f : Nat) : List PV -> List (Nat × Ent) -> Kont -> Option Res
 | [.ro 113 v0 v1 v2, .ow 5 560 [] 0 v3 none,
 PV.sc
  (Value.int IntKind.i64
   v4)], [(560, .vec false 5 false v5)], k => Vs f (fun x0 x1 => k (Ex.exit 0) (Jc Zd N98 [.ow 5 560 [] 0 x0 none] [(560, .vec false 5 false x1)])) f v0 v1 v2 v3 v4 v5
 | _, _, _ => none
theorem JtK (f : Nat) : Je Jde Jf3 = [] := by kernel_rfl
theorem JtL (f : Nat) : (Item.l Jde Yh N98 (Jb2 f)).Ok tau Try.prog 0 := JJ Jr Jma Js (x := Jf3) (nm2 := Zd) (Jk _ _ (by rw [JtK f]; intro q hq; cases hq)) fun vs hp k res hr => by
 unfold Jb2 at hr
 split at hr
 · exact ⟨f, 0, (Jjt f _ f _ _ _ _ _ _ ).trans hr⟩
 · cases hr
def g98 (f : Nat) (o_z o_f : Bool) (o : List PV) (k : Res -> Option Res) : Option Res := Vs f (fun x0_0 x1_0 => k (Res.mk (.ow 5 16 [] 0 x0_0 none) [] [.vec false 5 false x1_0])) f o_z o_f o ((apY [] (zi o.length)).length) (0) (apY [] (zi o.length))
theorem e98 (f : Nat) (o_z o_f : Bool) (o : List PV) (k : Res -> Option Res) : JM tau F98 Try.f98 (Try.f98.body.get!) (Jpb (Jb2 f)) [] 0 [.ro 113 o_z o_f o] [] k = g98 f o_z o_f o k := by kernel_rfl
theorem JB6 (f : Nat) : Je (Try.f98.body.get!) (Jpb (Jb2 f)) = [.l Jde Yh N98 (Jb2 f)] := by kernel_rfl
theorem JB7 (f : Nat) : ∀ q ∈ Je (Try.f98.body.get!) (Jpb (Jb2 f)), q.Ok tau Try.prog 0 := by
 rw [JB6 f]; simp only [List.forall_mem_cons, List.not_mem_nil, false_implies, implies_true, and_true]; exact JtL f
theorem JxP : Try.prog.funcs[98]? = some Try.f98 := by kernel_rfl
theorem JxQ : Try.f98.body = some (Try.f98.body.get!) := by kernel_rfl
theorem JxR : Enters Try.prog 98 := enters_of JxP (by kernel_rfl) JxQ
-- FN delta.OpBytes | ref8.OpBytes
def Ze (c : CV) : List Int := [IntKind.u8.wrap c.kd] ++ (JT c.n ++ Qn c.s)
def Qb (l : List PV) : List Int := l.flatMap fun p => Ze (cv p)
def JhR (l : List PV) : List Int := [IntKind.u8.wrap (zi l.length)] ++ Qb l
def opB : List PV -> List Int := hid JhR
theorem G9 (l : List PV) : opB l = JhR l := by rw [opB, hid_eq]
theorem WH (c : CV) : (Ze c).length = c.s.size + 11 := by simp [Ze]; omega
theorem Jmb (c : CV) : ∀ x ∈ Ze c, 0 <= x /\ x < 256 := by
 intro x hx
 simp only [Ze, List.mem_append, List.mem_singleton] at hx
 rcases hx with rfl | h | h
 · exact Yd _
 · exact Ye _ x h
 · exact Jf1 _ x h
theorem JtM (l : List PV) : ∀ x ∈ opB l, 0 <= x /\ x < 256 := by
 intro x hx
 rw [G9] at hx
 rcases List.mem_append.1 hx with h | h
 · rw [List.mem_singleton.1 h]; exact Yd _
 · obtain ⟨p, _, h⟩ := List.mem_flatMap.1 h
   exact Jmb _ x h
def cBy : List PV -> Bool := hid fun l => l.all isCp && (l.all (fun p => decide ((cv p).s.size <= 65535)) && decide (l.length <= 1000))
theorem ZV {l : List PV} : cBy l = true ↔ l.all isCp = true /\ (∀ p ∈ l, (cv p).s.size <= 65535) /\ l.length <= 1000 := by
 rw [cBy, hid_eq]; simp only [Bool.and_eq_true, List.all_eq_true, decide_eq_true_eq]
theorem Vt (m : Nat) : ∀ l : List PV, (∀ p ∈ l, (cv p).s.size <= m) -> (Qb l).length <= l.length * (m + 11)
 | [], _ => by simp [Qb]
 | p :: l, h => by
  have h1 := h p List.mem_cons_self
  have h2 := Vt m l fun x hx => h x (List.mem_cons_of_mem _ hx)
  simp only [Qb, List.flatMap_cons, List.length_append, WH, List.length_cons, Nat.add_mul] at h2 ⊢
  omega
theorem JeF (L : List PV) (p : PV) : apT (apI (apY L (PV.child 0 p).int) (PV.child (0 + 1) p).int) (PV.child (0 + 1 + 1) p).str = L ++ pu .u8 (Ze (cv p)) := by
 rw [XC, Yf, Vp]
 show _ = L ++ pu .u8 ([IntKind.u8.wrap (PV.child 0 p).int] ++ (JT (PV.child (0 + 1) p).int ++ Qn (PV.child (0 + 1 + 1) p).str))
 simp only [JQ, List.append_assoc]
theorem WI (L : List PV) (n : Int) : (apY L n).length = L.length + 1 := by rw [Vp]; simp
theorem Wh (L : List PV) (n : Int) : (apI L n).length = L.length + 8 := by rw [Yf]; simp
theorem We {l : List PV} (h : l.length <= 1000000000) : okL l.length l = true := by
 rw [JeC, Bool.and_eq_true, Nat.beq_eq, Nat.ble_eq]; exact ⟨rfl, h⟩
theorem Zf {l : List PV} (h : l.length <= 1000000000) : okZ false l = true := by rw [Vq]; exact WA.2 ⟨fun h => (by cases h), h⟩
theorem JrK (l : List PV) (h1 : l.all isCp = true) (h3 : ∀ p ∈ l, (cv p).s.size <= 65535) (h2 : l.length <= 1000) (f : Nat) (k0 : Nat -> List PV -> Option Res) (z fl : Bool) : ∀ (d i n : Nat) (L : List PV), i + d = l.length -> d < n -> L.length <= 1 + i * 65546 ->
  Vr f k0 n z fl l L.length (i : Int) L = k0 (L ++ pu .u8 (Qb (l.drop i))).length (L ++ pu .u8 (Qb (l.drop i)))
 | 0, i, n + 1, L, hi, hn, hL => by
   rw [List.drop_of_length_le (by omega)]
   simp only [Vr, Gd, Qb, List.flatMap_nil, Jho, List.append_nil]
   exact Jj (by simp [zi]; omega)
 | d + 1, i, n + 1, L, hi, hn, hL => by
   have g1 : ((i : Int)).toNat = i := by omega
   have w1 : IntKind.i64.wrap ((i : Int) + 1) = ((i + 1 : Nat) : Int) := by rw [wrap_i64 (by omega) (by omega)]; omega
   have hro : (decide (0 <= (i : Int)) && decide ((i : Int) < zi l.length) && (PV.isSt 113 #[Field.mk "Kind" 3 0 false "" "" 0, Field.mk "N" 3 1 false "" "" 8, Field.mk "S" 9 2 false "" "" 16].size (l.getD i PV.top) && (PV.isInt IntKind.i64 (PV.child 0 (l.getD i PV.top)) && (PV.isInt IntKind.i64 (PV.child (0 + 1) (l.getD i PV.top)) && ((PV.child (0 + 1 + 1) (l.getD i PV.top)).isStr && true)))) && true) = true := by
    have hq : (PV.isSt 113 #[Field.mk "Kind" 3 0 false "" "" 0, Field.mk "N" 3 1 false "" "" 8, Field.mk "S" 9 2 false "" "" 16].size (l.getD i PV.top) && (PV.isInt IntKind.i64 (PV.child 0 (l.getD i PV.top)) && (PV.isInt IntKind.i64 (PV.child (0 + 1) (l.getD i PV.top)) && ((PV.child (0 + 1 + 1) (l.getD i PV.top)).isStr && true)))) = true := XP (WW h1 (by omega))
    rw [hq]; simp [zi]; omega
   have hd := Wb (l := l) (i := i) (by omega)
   have hmem : l.getD i .top ∈ l := by rw [List.getD_eq_getElem?_getD, List.getElem?_eq_getElem (by omega)]; exact List.getElem_mem (by omega)
   have hsz := h3 _ hmem
   have hs2 : (PV.child (0 + 1 + 1) (l.getD i PV.top)).str.size.ble 65535 = true := Nat.ble_eq.symm ▸ hsz
   have hi2 : i * 65546 <= 999 * 65546 := Nat.mul_le_mul_right _ (by omega)
   simp only [Vr, Gd, g1, w1, List.take_length]
   refine (Ja (by simp [zi]; omega)).trans ((Ja hro).trans ((Ja (Zf (by omega))).trans ((Ja hro).trans ((Ja (Zf (by rw [WI]; omega))).trans ((Ja hro).trans ((Ja (by rw [Zf (by rw [Wh, WI]; omega), hs2]; rfl)).trans ?_))))))
   rw [JeF]
   refine (JrK l h1 h3 h2 f k0 z fl d (i + 1) n _ (by omega) (by omega) (by rw [List.length_append, JD, WH]; omega)).trans ?_
   rw [hd]
   simp only [Qb, List.flatMap_cons, JQ, List.append_assoc]
theorem JrL (l : List PV) (h1 : l.all isCp = true) (h3 : ∀ p ∈ l, (cv p).s.size <= 65535) (h2 : l.length <= 1000) (f : Nat) (k0 : Nat -> List PV -> Option Res) (z fl : Bool) : ∀ (d i n : Nat) (L : List PV), i + d = l.length -> d < n -> L.length <= 1 + i * 65546 ->
  Vs f k0 n z fl l L.length (i : Int) L = k0 (L ++ pu .u8 (Qb (l.drop i))).length (L ++ pu .u8 (Qb (l.drop i)))
 | 0, i, n + 1, L, hi, hn, hL => by
   rw [List.drop_of_length_le (by omega)]
   simp only [Vs, Ge, Qb, List.flatMap_nil, Jho, List.append_nil]
   exact Jj (by simp [zi]; omega)
 | d + 1, i, n + 1, L, hi, hn, hL => by
   have g1 : ((i : Int)).toNat = i := by omega
   have w1 : IntKind.i64.wrap ((i : Int) + 1) = ((i + 1 : Nat) : Int) := by rw [wrap_i64 (by omega) (by omega)]; omega
   have hro : (decide (0 <= (i : Int)) && decide ((i : Int) < zi l.length) && (PV.isSt 113 #[Field.mk "Kind" 3 0 false "" "" 0, Field.mk "N" 3 1 false "" "" 8, Field.mk "S" 9 2 false "" "" 16].size (l.getD i PV.top) && (PV.isInt IntKind.i64 (PV.child 0 (l.getD i PV.top)) && (PV.isInt IntKind.i64 (PV.child (0 + 1) (l.getD i PV.top)) && ((PV.child (0 + 1 + 1) (l.getD i PV.top)).isStr && true)))) && true) = true := by
    have hq : (PV.isSt 113 #[Field.mk "Kind" 3 0 false "" "" 0, Field.mk "N" 3 1 false "" "" 8, Field.mk "S" 9 2 false "" "" 16].size (l.getD i PV.top) && (PV.isInt IntKind.i64 (PV.child 0 (l.getD i PV.top)) && (PV.isInt IntKind.i64 (PV.child (0 + 1) (l.getD i PV.top)) && ((PV.child (0 + 1 + 1) (l.getD i PV.top)).isStr && true)))) = true := XP (WW h1 (by omega))
    rw [hq]; simp [zi]; omega
   have hd := Wb (l := l) (i := i) (by omega)
   have hmem : l.getD i .top ∈ l := by rw [List.getD_eq_getElem?_getD, List.getElem?_eq_getElem (by omega)]; exact List.getElem_mem (by omega)
   have hsz := h3 _ hmem
   have hs2 : (PV.child (0 + 1 + 1) (l.getD i PV.top)).str.size.ble 65535 = true := Nat.ble_eq.symm ▸ hsz
   have hi2 : i * 65546 <= 999 * 65546 := Nat.mul_le_mul_right _ (by omega)
   simp only [Vs, Ge, g1, w1, List.take_length]
   refine (Ja (by simp [zi]; omega)).trans ((Ja hro).trans ((Ja (We (by omega))).trans ((Ja hro).trans ((Ja (We (by rw [WI]; omega))).trans ((Ja hro).trans ((Ja (by rw [We (by rw [Wh, WI]; omega), hs2]; rfl)).trans ?_))))))
   rw [JeF]
   refine (JrL l h1 h3 h2 f k0 z fl d (i + 1) n _ (by omega) (by omega) (by rw [List.length_append, JD, WH]; omega)).trans ?_
   rw [hd]
   simp only [Qb, List.flatMap_cons, JQ, List.append_assoc]
theorem Jf4 {l : List PV} : apY [] (zi l.length) = pu .u8 [IntKind.u8.wrap (zi l.length)] := by rw [Vp]; rfl
def JhS : List PV -> List Ent -> (Res -> Option Res) -> Option Res
 | [.ro 113 z f l], [], k => bif cBy l then k ⟨.ro 5 false false (pu .u8 (opB l)), [], []⟩ else none
 | _, _, _ => none
def JxS : Sig := { own := [], run := JhS }
theorem JtN (z f : Bool) (l : List PV) (h : cBy l = true) (k : Res -> Option Res) : g93 1010 z f l k = k ⟨.ro 5 false false (pu .u8 (opB l)), [], []⟩ := by
 obtain ⟨h1, h3, h2⟩ := ZV.1 h
 have hY := Jf4 (l := l)
 rw [G9]
 unfold g93
 simp only [List.take_length]
 refine (Ja (by rw [Vq]; rfl)).trans ?_
 cases l with
 | nil => exact (Jj (by simp [zi])).trans (by rw [hY]; rfl)
 | cons p r =>
  have hq : (PV.isSt 113 #[Field.mk "Kind" 3 0 false "" "" 0, Field.mk "N" 3 1 false "" "" 8, Field.mk "S" 9 2 false "" "" 16].size ((p :: r).getD 0 PV.top) && (PV.isInt IntKind.i64 (PV.child 0 ((p :: r).getD 0 PV.top)) && (PV.isInt IntKind.i64 (PV.child (0 + 1) ((p :: r).getD 0 PV.top)) && ((PV.child (0 + 1 + 1) ((p :: r).getD 0 PV.top)).isStr && true)))) = true := by
   have := XP (WW h1 (i := 0) (by simp))
   exact this
  have hro : (decide (0 < zi (p :: r).length) && (PV.isSt 113 #[Field.mk "Kind" 3 0 false "" "" 0, Field.mk "N" 3 1 false "" "" 8, Field.mk "S" 9 2 false "" "" 16].size ((p :: r).getD 0 PV.top) && (PV.isInt IntKind.i64 (PV.child 0 ((p :: r).getD 0 PV.top)) && (PV.isInt IntKind.i64 (PV.child (0 + 1) ((p :: r).getD 0 PV.top)) && ((PV.child (0 + 1 + 1) ((p :: r).getD 0 PV.top)).isStr && true)))) && true) = true := by
   rw [hq]; simp [zi]
  have hsz := h3 p List.mem_cons_self
  have hs2 : (PV.child (0 + 1 + 1) ((p :: r).getD 0 PV.top)).str.size.ble 65535 = true := Nat.ble_eq.symm ▸ hsz
  have l1 : (apY [] (zi (p :: r).length)).length = 1 := by rw [WI]; rfl
  refine (Ja (by simp [zi])).trans ((Ja hro).trans ((Ja (Zf (by rw [l1]; decide))).trans ((Ja hro).trans ((Ja (Zf (by rw [WI, l1]; decide))).trans ((Ja hro).trans ((Ja (by rw [Zf (by rw [Wh, WI, l1]; decide), hs2]; rfl)).trans ?_))))))
  rw [JeF]
  have w1 : IntKind.i64.wrap (0 + 1) = ((1 : Nat) : Int) := by decide
  rw [w1]
  refine (JrK (p :: r) h1 h3 h2 1010 _ z f r.length 1 1010 _ (by simp; omega) (by simp at h2; omega) (by rw [List.length_append, JD, WH, l1]; have : (cv ((p :: r).getD 0 PV.top)).s.size <= 65535 := hsz; omega)).trans ?_
  rw [List.take_length, hY]
  simp only [JhR, Qb, List.flatMap_cons, JQ, List.append_assoc, List.drop_succ_cons, List.drop_zero, List.getD_cons_zero]
theorem JxT : Jh tau Try.prog 93 JxS := Jh.mk' fun xs es k res hl hr => by
 change JhS xs es k = some res at hr
 unfold JhS at hr
 split at hr
 · rename_i z f l
   obtain ⟨hc, hr⟩ := JI hr
   exact Qk Jr Jl9 Js JxN JxO (Jo9 (Jb1 1010)) [.ro] 0 0 (JB4 1010) hl rfl ((e93 1010 z f l k).trans ((JtN z f l hc k).trans hr))
 · cases hr
def JhT : List PV -> List Ent -> (Res -> Option Res) -> Option Res
 | [.ro 113 z f l], [], k => bif cBy l then k ⟨.ow 5 16 [] 0 (opB l).length none, [], [.vec false 5 false (pu .u8 (opB l))]⟩ else none
 | _, _, _ => none
def JtO : Sig := { own := [], run := JhT }
theorem JtP (z f : Bool) (l : List PV) (h : cBy l = true) (k : Res -> Option Res) : g98 1010 z f l k = k ⟨.ow 5 16 [] 0 (opB l).length none, [], [.vec false 5 false (pu .u8 (opB l))]⟩ := by
 obtain ⟨h1, h3, h2⟩ := ZV.1 h
 have hY := Jf4 (l := l)
 rw [G9]
 unfold g98
 refine (JrL l h1 h3 h2 1010 _ z f l.length 0 1010 _ (by omega) (by omega) (by rw [WI]; simp)).trans ?_
 rw [List.drop_zero, hY, ← JQ]
 rw [show [IntKind.u8.wrap (zi l.length)] ++ Qb l = JhR l from rfl, JD]
theorem JrM : Jh tau Try.prog 98 JtO := Jh.mk' fun xs es k res hl hr => by
 change JhT xs es k = some res at hr
 unfold JhT at hr
 split at hr
 · rename_i z f l
   obtain ⟨hc, hr⟩ := JI hr
   exact Qk Jr Jma Js JxP JxQ (Jpb (Jb2 1010)) [] 0 0 (JB7 1010) hl rfl ((e98 1010 z f l k).trans ((JtP z f l hc k).trans hr))
 · cases hr
def F99 : Fns := JG 105 Jl4 (JG 98 JtO (JG 97 JtH (JG 53 Jo8 (F0))))
theorem JtQ : Jy tau Try.prog F99 := ((((JE).add Jl8 JoX).add JrJ JxK).add JrM JxR).add Jl5 Jrz
def Jpd : An := (.seq .leaf (.seq .leaf (.seq .leaf (.seq .leaf (.seq .leaf (.seq .leaf .leaf))))))
def g99 (f : Nat) (y0 y1 d_Id y2 : Int) (y3 : List PV) (y4 : Int) (y5 y6 : Bool) (d_Op : List PV) (y7 y8 : Int) (k : Res -> Option Res) : Option Res := bif okL (apI [] y0).length (apI [] y0) then bif okL (apI (apI [] y0) y1).length (apI (apI [] y0) y1) then bif okL (apI (apI (apI [] y0) y1) d_Id).length (apI (apI (apI [] y0) y1) d_Id) then bif Jf ((apI (apI (apI (apI [] y0) y1) d_Id) y2).length + (List.take 32 y3).length) 1 && true then bif okL ((apI (apI (apI (apI [] y0) y1) d_Id) y2).length + (List.take 32 y3).length) (List.take (apI (apI (apI (apI [] y0) y1) d_Id) y2).length (apI (apI (apI (apI [] y0) y1) d_Id) y2) ++ List.take 32 y3) then bif cBy d_Op then bif Jl IntKind.u8 (List.take (opB d_Op).length (pu IntKind.u8 (opB d_Op))) && true then bif okL (apY (List.take (apI (apI (apI (apI [] y0) y1) d_Id) y2).length (apI (apI (apI (apI [] y0) y1) d_Id) y2) ++ List.take 32 y3) y4).length (apY (List.take (apI (apI (apI (apI [] y0) y1) d_Id) y2).length (apI (apI (apI (apI [] y0) y1) d_Id) y2) ++ List.take 32 y3) y4) && (ByteArray.mk (Array.mk (Jn ((Ent.vec false 5 false (pu IntKind.u8 (opB d_Op))).nil, List.take (opB d_Op).length (List.drop 0 (pu IntKind.u8 (opB d_Op)))).snd))).size.ble 65535 then bif okL (apT (apY (List.take (apI (apI (apI (apI [] y0) y1) d_Id) y2).length (apI (apI (apI (apI [] y0) y1) d_Id) y2) ++ List.take 32 y3) y4) (ByteArray.mk (Array.mk (Jn ((Ent.vec false 5 false (pu IntKind.u8 (opB d_Op))).nil, List.take (opB d_Op).length (List.drop 0 (pu IntKind.u8 (opB d_Op)))).snd)))).length (apT (apY (List.take (apI (apI (apI (apI [] y0) y1) d_Id) y2).length (apI (apI (apI (apI [] y0) y1) d_Id) y2) ++ List.take 32 y3) y4) (ByteArray.mk (Array.mk (Jn ((Ent.vec false 5 false (pu IntKind.u8 (opB d_Op))).nil, List.take (opB d_Op).length (List.drop 0 (pu IntKind.u8 (opB d_Op)))).snd)))) then bif okL (apI (apT (apY (List.take (apI (apI (apI (apI [] y0) y1) d_Id) y2).length (apI (apI (apI (apI [] y0) y1) d_Id) y2) ++ List.take 32 y3) y4) (ByteArray.mk (Array.mk (Jn ((Ent.vec false 5 false (pu IntKind.u8 (opB d_Op))).nil, List.take (opB d_Op).length (List.drop 0 (pu IntKind.u8 (opB d_Op)))).snd)))) y7).length (apI (apT (apY (List.take (apI (apI (apI (apI [] y0) y1) d_Id) y2).length (apI (apI (apI (apI [] y0) y1) d_Id) y2) ++ List.take 32 y3) y4) (ByteArray.mk (Array.mk (Jn ((Ent.vec false 5 false (pu IntKind.u8 (opB d_Op))).nil, List.take (opB d_Op).length (List.drop 0 (pu IntKind.u8 (opB d_Op)))).snd)))) y7) then k (Res.mk (.ow 5 16 [] 0 (apI (apI (apT (apY (List.take (apI (apI (apI (apI [] y0) y1) d_Id) y2).length (apI (apI (apI (apI [] y0) y1) d_Id) y2) ++ List.take 32 y3) y4) (ByteArray.mk (Array.mk (Jn ((Ent.vec false 5 false (pu IntKind.u8 (opB d_Op))).nil, List.take (opB d_Op).length (List.drop 0 (pu IntKind.u8 (opB d_Op)))).snd)))) y7) y8).length none) [] [.vec false 5 false (apI (apI (apT (apY (List.take (apI (apI (apI (apI [] y0) y1) d_Id) y2).length (apI (apI (apI (apI [] y0) y1) d_Id) y2) ++ List.take 32 y3) y4) (ByteArray.mk (Array.mk (Jn ((Ent.vec false 5 false (pu IntKind.u8 (opB d_Op))).nil, List.take (opB d_Op).length (List.drop 0 (pu IntKind.u8 (opB d_Op)))).snd)))) y7) y8)]) else none else none else none else none else none else none else none else none else none else none
theorem e99 (f : Nat) (y0 y1 d_Id y2 : Int) (y3 : List PV) (y4 : Int) (y5 y6 : Bool) (d_Op : List PV) (y7 y8 : Int) (k : Res -> Option Res) : JM tau F99 Try.f99 (Try.f99.body.get!) Jpd [] 0 [.st 53 [.st 42 [.sc (.int .i64 y0), .sc (.int .i64 y1)], .sc (.int .i64 d_Id), .sc (.int .i64 y2), .ar 37 y3, .sc (.int .i64 y4), .ro 113 y5 y6 d_Op, .st 42 [.sc (.int .i64 y7), .sc (.int .i64 y8)]]] [] k = g99 f y0 y1 d_Id y2 y3 y4 y5 y6 d_Op y7 y8 k := by kernel_rfl
theorem JB8 (f : Nat) : Je (Try.f99.body.get!) Jpd = [] := by kernel_rfl
theorem JB9 (f : Nat) : ∀ q ∈ Je (Try.f99.body.get!) Jpd, q.Ok tau Try.prog 0 := by
 rw [JB8 f]; intro q hq; cases hq
theorem JxU : Try.prog.funcs[99]? = some Try.f99 := by kernel_rfl
theorem JxV : Try.f99.body = some (Try.f99.body.get!) := by kernel_rfl
theorem JCa : Enters Try.prog 99 := enters_of JxU (by kernel_rfl) JxV
def F41 : Fns := JG 93 JxS (JG 92 JtD (JG 35 JxL (F0)))
theorem JtR : Jy tau Try.prog F41 := (((JE).add JxM Jtp).add JrG Jw5).add JxT JB5
def Jpe : An := (.seq .leaf (.seq .leaf (.seq .leaf .leaf)))
def g41 (f : Nat) (y0 y1 : Bool) (y2 y3 : List PV) (e_At : Int) (y4 y5 : Bool) (e_Op y6 y7 : List PV) (k : Res -> Option Res) : Option Res := bif Jl IntKind.u8 y2 && true then bif okZ true [] && (ByteArray.mk (Array.mk (Jn (y0, y2).snd))).size.ble 65535 then bif Jf ((apT [] (ByteArray.mk (Array.mk (Jn (y0, y2).snd)))).length + (List.take 32 y3).length) 1 && true then bif okZ false (List.take ((apT [] (ByteArray.mk (Array.mk (Jn (y0, y2).snd)))).length + (List.take 32 y3).length) (List.take (apT [] (ByteArray.mk (Array.mk (Jn (y0, y2).snd)))).length (apT [] (ByteArray.mk (Array.mk (Jn (y0, y2).snd)))) ++ List.take 32 y3)) then bif cBy e_Op then bif Jl IntKind.u8 (pu IntKind.u8 (opB e_Op)) && true then bif okZ false (List.take (apI (List.take ((apT [] (ByteArray.mk (Array.mk (Jn (y0, y2).snd)))).length + (List.take 32 y3).length) (List.take (apT [] (ByteArray.mk (Array.mk (Jn (y0, y2).snd)))).length (apT [] (ByteArray.mk (Array.mk (Jn (y0, y2).snd)))) ++ List.take 32 y3)) e_At).length (apI (List.take ((apT [] (ByteArray.mk (Array.mk (Jn (y0, y2).snd)))).length + (List.take 32 y3).length) (List.take (apT [] (ByteArray.mk (Array.mk (Jn (y0, y2).snd)))).length (apT [] (ByteArray.mk (Array.mk (Jn (y0, y2).snd)))) ++ List.take 32 y3)) e_At)) && (ByteArray.mk (Array.mk (Jn (false, pu IntKind.u8 (opB e_Op)).snd))).size.ble 65535 then k (Res.mk (.ro 5 false false (List.take (apT (List.take (apI (List.take ((apT [] (ByteArray.mk (Array.mk (Jn (y0, y2).snd)))).length + (List.take 32 y3).length) (List.take (apT [] (ByteArray.mk (Array.mk (Jn (y0, y2).snd)))).length (apT [] (ByteArray.mk (Array.mk (Jn (y0, y2).snd)))) ++ List.take 32 y3)) e_At).length (apI (List.take ((apT [] (ByteArray.mk (Array.mk (Jn (y0, y2).snd)))).length + (List.take 32 y3).length) (List.take (apT [] (ByteArray.mk (Array.mk (Jn (y0, y2).snd)))).length (apT [] (ByteArray.mk (Array.mk (Jn (y0, y2).snd)))) ++ List.take 32 y3)) e_At)) (ByteArray.mk (Array.mk (Jn (false, pu IntKind.u8 (opB e_Op)).snd)))).length (apT (List.take (apI (List.take ((apT [] (ByteArray.mk (Array.mk (Jn (y0, y2).snd)))).length + (List.take 32 y3).length) (List.take (apT [] (ByteArray.mk (Array.mk (Jn (y0, y2).snd)))).length (apT [] (ByteArray.mk (Array.mk (Jn (y0, y2).snd)))) ++ List.take 32 y3)) e_At).length (apI (List.take ((apT [] (ByteArray.mk (Array.mk (Jn (y0, y2).snd)))).length + (List.take 32 y3).length) (List.take (apT [] (ByteArray.mk (Array.mk (Jn (y0, y2).snd)))).length (apT [] (ByteArray.mk (Array.mk (Jn (y0, y2).snd)))) ++ List.take 32 y3)) e_At)) (ByteArray.mk (Array.mk (Jn (false, pu IntKind.u8 (opB e_Op)).snd)))))) [] []) else none else none else none else none else none else none else none
theorem e41 (f : Nat) (y0 y1 : Bool) (y2 y3 : List PV) (e_At : Int) (y4 y5 : Bool) (e_Op y6 y7 : List PV) (k : Res -> Option Res) : JM tau F41 Try.f41 (Try.f41.body.get!) Jpe [.ro] 0 [.st 51 [.st 47 [.ro 5 y0 y1 y2, .ar 37 y3], .sc (.int .i64 e_At), .ro 113 y4 y5 e_Op, .ar 37 y6, .ar 37 y7]] [] k = g41 f y0 y1 y2 y3 e_At y4 y5 e_Op y6 y7 k := by kernel_rfl
theorem JCb (f : Nat) : Je (Try.f41.body.get!) Jpe = [] := by kernel_rfl
theorem JCc (f : Nat) : ∀ q ∈ Je (Try.f41.body.get!) Jpe, q.Ok tau Try.prog 0 := by
 rw [JCb f]; intro q hq; cases hq
theorem JxW : Try.prog.funcs[41]? = some Try.f41 := by kernel_rfl
theorem JxX : Try.f41.body = some (Try.f41.body.get!) := by kernel_rfl
theorem JCd : Enters Try.prog 41 := enters_of JxW (by kernel_rfl) JxX
def F52 : Fns := JG 98 JtO (JG 97 JtH (JG 53 Jo8 (F0)))
theorem JtS : Jy tau Try.prog F52 := (((JE).add Jl8 JoX).add JrJ JxK).add JrM JxR
def Jpf : An := (.seq .leaf (.seq .leaf (.seq .leaf .leaf)))
def g52 (f : Nat) (y0 y1 : Bool) (y2 y3 : List PV) (e_At : Int) (y4 y5 : Bool) (e_Op y6 y7 : List PV) (k : Res -> Option Res) : Option Res := bif Jl IntKind.u8 y2 && true then bif (ByteArray.mk (Array.mk (Jn (y0, y2).snd))).size.ble 65535 then bif Jf ((apT [] (ByteArray.mk (Array.mk (Jn (y0, y2).snd)))).length + (List.take 32 y3).length) 1 && true then bif okL ((apT [] (ByteArray.mk (Array.mk (Jn (y0, y2).snd)))).length + (List.take 32 y3).length) (List.take (apT [] (ByteArray.mk (Array.mk (Jn (y0, y2).snd)))).length (apT [] (ByteArray.mk (Array.mk (Jn (y0, y2).snd)))) ++ List.take 32 y3) then bif cBy e_Op then bif Jl IntKind.u8 (List.take (opB e_Op).length (pu IntKind.u8 (opB e_Op))) && true then bif okL (apI (List.take (apT [] (ByteArray.mk (Array.mk (Jn (y0, y2).snd)))).length (apT [] (ByteArray.mk (Array.mk (Jn (y0, y2).snd)))) ++ List.take 32 y3) e_At).length (apI (List.take (apT [] (ByteArray.mk (Array.mk (Jn (y0, y2).snd)))).length (apT [] (ByteArray.mk (Array.mk (Jn (y0, y2).snd)))) ++ List.take 32 y3) e_At) && (ByteArray.mk (Array.mk (Jn ((Ent.vec false 5 false (pu IntKind.u8 (opB e_Op))).nil, List.take (opB e_Op).length (List.drop 0 (pu IntKind.u8 (opB e_Op)))).snd))).size.ble 65535 then k (Res.mk (.ow 5 16 [] 0 (apT (apI (List.take (apT [] (ByteArray.mk (Array.mk (Jn (y0, y2).snd)))).length (apT [] (ByteArray.mk (Array.mk (Jn (y0, y2).snd)))) ++ List.take 32 y3) e_At) (ByteArray.mk (Array.mk (Jn ((Ent.vec false 5 false (pu IntKind.u8 (opB e_Op))).nil, List.take (opB e_Op).length (List.drop 0 (pu IntKind.u8 (opB e_Op)))).snd)))).length none) [] [.vec false 5 false (apT (apI (List.take (apT [] (ByteArray.mk (Array.mk (Jn (y0, y2).snd)))).length (apT [] (ByteArray.mk (Array.mk (Jn (y0, y2).snd)))) ++ List.take 32 y3) e_At) (ByteArray.mk (Array.mk (Jn ((Ent.vec false 5 false (pu IntKind.u8 (opB e_Op))).nil, List.take (opB e_Op).length (List.drop 0 (pu IntKind.u8 (opB e_Op)))).snd))))]) else none else none else none else none else none else none else none
theorem e52 (f : Nat) (y0 y1 : Bool) (y2 y3 : List PV) (e_At : Int) (y4 y5 : Bool) (e_Op y6 y7 : List PV) (k : Res -> Option Res) : JM tau F52 Try.f52 (Try.f52.body.get!) Jpf [] 0 [.st 51 [.st 47 [.ro 5 y0 y1 y2, .ar 37 y3], .sc (.int .i64 e_At), .ro 113 y4 y5 e_Op, .ar 37 y6, .ar 37 y7]] [] k = g52 f y0 y1 y2 y3 e_At y4 y5 e_Op y6 y7 k := by kernel_rfl
theorem JCe (f : Nat) : Je (Try.f52.body.get!) Jpf = [] := by kernel_rfl
theorem JCf (f : Nat) : ∀ q ∈ Je (Try.f52.body.get!) Jpf, q.Ok tau Try.prog 0 := by
 rw [JCe f]; intro q hq; cases hq
theorem JxY : Try.prog.funcs[52]? = some Try.f52 := by kernel_rfl
theorem JxZ : Try.f52.body = some (Try.f52.body.get!) := by kernel_rfl
theorem Jx0 : Enters Try.prog 52 := enters_of JxY (by kernel_rfl) JxZ
-- FN sign.Core | ref9.Core
def tx (l : List PV) : ByteArray := ByteArray.mk (Array.mk (Jn l))
theorem WJ (l : List PV) : (tx l).size = l.length := Y8 l
structure EV where
 (b m : List PV) (at1 : Int) (o : List PV)
def JeG (e : EV) : List Int := Qn (tx e.b) ++ (Ju e.m ++ (JT e.at1 ++ Qn (tx (pu .u8 (opB e.o)))))
def Jt : EV -> List Int := hid JeG
theorem Jf5 (e : EV) : Jt e = JeG e := by rw [Jt, hid_eq]
def eOk : EV -> Bool := hid fun e => Jl .u8 e.b && (decide (e.b.length <= 65535) && (Jl .u8 e.m && (decide (e.m.length = 32) && (cBy e.o && decide ((opB e.o).length <= 65535)))))
theorem WK {e : EV} : eOk e = true ↔ Jl .u8 e.b = true /\ e.b.length <= 65535 /\ Jl .u8 e.m = true /\ e.m.length = 32 /\ cBy e.o = true /\ (opB e.o).length <= 65535 := by
 rw [eOk, hid_eq]; simp only [Bool.and_eq_true, decide_eq_true_eq]
theorem WL {e : EV} (h : eOk e = true) : (Jt e).length = e.b.length + (opB e.o).length + 44 := by
 obtain ⟨h1, h2, h3, h4, h5, h6⟩ := WK.1 h
 rw [Jf5]
 simp only [JeG, List.length_append, Ga, QT, Wr, WJ, JD, h4]; omega
theorem Jb3 {e : EV} (h : eOk e = true) : apT (apI (apT [] (tx e.b) ++ List.take 32 e.m) e.at1) (tx (pu .u8 (opB e.o))) = pu .u8 (Jt e) := by
 obtain ⟨h1, h2, h3, h4, h5, h6⟩ := WK.1 h
 rw [Jf5, XC, Yf, XC, List.take_of_length_le (by omega)]
 simp only [JeG, JQ, List.nil_append, List.append_assoc, ← Ql h3]
def JhU : List PV -> List Ent -> (Res -> Option Res) -> Option Res
 | [.st 51 [.st 47 [.ro 5 bz bf b, .ar 37 m], .sc (.int .i64 at1), .ro 113 oz of o, .ar 37 h, .ar 37 mc]], [], k => bif eOk ⟨b, m, at1, o⟩ then k ⟨.ro 5 false false (pu .u8 (Jt ⟨b, m, at1, o⟩)), [], []⟩ else none
 | _, _, _ => none
def Jx1 : Sig := { own := [], run := JhU }
theorem JtT (bz bf : Bool) (b m : List PV) (at1 : Int) (oz of : Bool) (o h mc : List PV) (he : eOk ⟨b, m, at1, o⟩ = true) (k : Res -> Option Res) : g41 0 bz bf b m at1 oz of o h mc k = k ⟨.ro 5 false false (pu .u8 (Jt ⟨b, m, at1, o⟩)), [], []⟩ := by
 have hl := WL he
 have hp := Jb3 he
 obtain ⟨h1, h2, h3, h4, h5, h6⟩ := WK.1 he
 simp only at hl hp h1 h2 h3 h4 h5 h6
 have ht : ∀ l : List PV, ByteArray.mk (Array.mk (Jn l)) = tx l := fun l => rfl
 have hm : List.take 32 m = m := List.take_of_length_le (by omega)
 have l1 : (apT [] (tx b)).length = b.length + 2 := by rw [XC]; simp [WJ]
 have l2 : ∀ (L : List PV) (n : Int), (apI L n).length = L.length + 8 := Wh
 have htp : ∀ l : List Int, List.take l.length (pu .u8 l) = pu .u8 l := fun l => List.take_of_length_le (by simp)
 have hcat : ∀ n, n = (apT [] (tx b)).length + m.length -> List.take n (apT [] (tx b) ++ m) = apT [] (tx b) ++ m := fun n hn => List.take_of_length_le (by simp; omega)
 rw [hm] at hp
 unfold g41
 simp only [ht, hm, List.take_length, htp, List.drop_zero, hcat _ rfl, WJ, JD]
 refine (Ja (by rw [h1]; rfl)).trans ((Ja (by rw [Vq]; show (true && _) = true; rw [Bool.true_and, Nat.ble_eq]; exact h2)).trans ((Ja (by simp only [Jf, Nat.mul_one, Bool.and_true, decide_eq_true_eq, l1]; omega)).trans ((Ja (by rw [Zf (by rw [List.length_append, l1]; omega)])).trans ((Ja h5).trans ((Ja (by rw [JN]; rfl)).trans ((Ja (by rw [Zf (by rw [l2, List.length_append, l1]; omega), Bool.true_and, Nat.ble_eq]; exact h6)).trans ?_))))))
 rw [hp]
 try rfl
theorem Jx2 : Jh tau Try.prog 41 Jx1 := Jh.mk' fun xs es k res hl hr => by
 change JhU xs es k = some res at hr
 unfold JhU at hr
 split at hr
 · rename_i bz bf b m at1 oz of o h mc
   obtain ⟨hc, hr⟩ := JI hr
   exact Qk Jr JtR Js JxW JxX Jpe [.ro] 0 0 (JCc 0) hl rfl ((e41 0 bz bf b m at1 oz of o h mc k).trans ((JtT bz bf b m at1 oz of o h mc hc k).trans hr))
 · cases hr
def JhV : List PV -> List Ent -> (Res -> Option Res) -> Option Res
 | [.st 51 [.st 47 [.ro 5 bz bf b, .ar 37 m], .sc (.int .i64 at1), .ro 113 oz of o, .ar 37 h, .ar 37 mc]], [], k => bif eOk ⟨b, m, at1, o⟩ then k ⟨.ow 5 16 [] 0 (Jt ⟨b, m, at1, o⟩).length none, [], [.vec false 5 false (pu .u8 (Jt ⟨b, m, at1, o⟩))]⟩ else none
 | _, _, _ => none
def JtU : Sig := { own := [], run := JhV }
theorem JtV (bz bf : Bool) (b m : List PV) (at1 : Int) (oz of : Bool) (o h mc : List PV) (he : eOk ⟨b, m, at1, o⟩ = true) (k : Res -> Option Res) : g52 0 bz bf b m at1 oz of o h mc k = k ⟨.ow 5 16 [] 0 (Jt ⟨b, m, at1, o⟩).length none, [], [.vec false 5 false (pu .u8 (Jt ⟨b, m, at1, o⟩))]⟩ := by
 have hl := WL he
 have hp := Jb3 he
 obtain ⟨h1, h2, h3, h4, h5, h6⟩ := WK.1 he
 simp only at hl hp h1 h2 h3 h4 h5 h6
 have ht : ∀ l : List PV, ByteArray.mk (Array.mk (Jn l)) = tx l := fun l => rfl
 have hm : List.take 32 m = m := List.take_of_length_le (by omega)
 have l1 : (apT [] (tx b)).length = b.length + 2 := by rw [XC]; simp [WJ]
 have l2 : ∀ (L : List PV) (n : Int), (apI L n).length = L.length + 8 := Wh
 have htp : ∀ l : List Int, List.take l.length (pu .u8 l) = pu .u8 l := fun l => List.take_of_length_le (by simp)
 have hcat : ∀ n, n = (apT [] (tx b)).length + m.length -> List.take n (apT [] (tx b) ++ m) = apT [] (tx b) ++ m := fun n hn => List.take_of_length_le (by simp; omega)
 rw [hm] at hp
 unfold g52
 simp only [ht, hm, List.take_length, htp, List.drop_zero, hcat _ rfl, WJ, JD]
 refine (Ja (by rw [h1]; rfl)).trans ((Ja (by rw [Nat.ble_eq]; exact h2)).trans ((Ja (by simp only [Jf, Nat.mul_one, Bool.and_true, decide_eq_true_eq, l1]; omega)).trans ((Ja (by rw [show (apT [] (tx b)).length + m.length = (apT [] (tx b) ++ m).length from (List.length_append).symm, We (by rw [List.length_append, l1]; omega)])).trans ((Ja h5).trans ((Ja (by rw [JN]; rfl)).trans ((Ja (by rw [We (by rw [l2, List.length_append, l1]; omega), Bool.true_and, Nat.ble_eq]; exact h6)).trans ?_))))))
 rw [hp]
 rw [JD]
theorem JrN : Jh tau Try.prog 52 JtU := Jh.mk' fun xs es k res hl hr => by
 change JhV xs es k = some res at hr
 unfold JhV at hr
 split at hr
 · rename_i bz bf b m at1 oz of o h mc
   obtain ⟨hc, hr⟩ := JI hr
   exact Qk Jr JtS Js JxY JxZ Jpf [] 0 0 (JCf 0) hl rfl ((e52 0 bz bf b m at1 oz of o h mc k).trans ((JtV bz bf b m at1 oz of o h mc hc k).trans hr))
 · cases hr
-- FN delta.Bytes | ref8.Bytes
structure DV where
 (ad au id ve : Int) (h : List PV) (kd : Int) (o : List PV) (wd wu : Int)
def JkH (d : DV) : List Int := JT d.ad ++ (JT d.au ++ (JT d.id ++ (JT d.ve ++ (Ju d.h ++ ([IntKind.u8.wrap d.kd] ++ (Qn (tx (pu .u8 (opB d.o))) ++ (JT d.wd ++ JT d.wu)))))))
def dlB : DV -> List Int := hid JkH
theorem JeH (d : DV) : dlB d = JkH d := by rw [dlB, hid_eq]
def dOk : DV -> Bool := hid fun d => Jl .u8 d.h && (decide (d.h.length = 32) && (cBy d.o && decide ((opB d.o).length <= 65535)))
theorem Wi {d : DV} : dOk d = true ↔ Jl .u8 d.h = true /\ d.h.length = 32 /\ cBy d.o = true /\ (opB d.o).length <= 65535 := by
 rw [dOk, hid_eq]; simp only [Bool.and_eq_true, decide_eq_true_eq]
theorem Vu {d : DV} (h : dOk d = true) : (dlB d).length = (opB d.o).length + 83 := by
 obtain ⟨h1, h2, h3, h4⟩ := Wi.1 h
 rw [JeH]
 simp only [JkH, List.length_append, Ga, QT, Wr, WJ, JD, h2, List.length_cons, List.length_nil]; omega
theorem Jmc {d : DV} (h : dOk d = true) : apI (apI (apT (apY (apI (apI (apI (apI [] d.ad) d.au) d.id) d.ve ++ List.take 32 d.h) d.kd) (tx (pu .u8 (opB d.o)))) d.wd) d.wu = pu .u8 (dlB d) := by
 obtain ⟨h1, h2, h3, h4⟩ := Wi.1 h
 rw [JeH, List.take_of_length_le (by omega)]
 simp only [XC, Yf, Vp, JkH, JQ, List.nil_append, List.append_assoc, ← Ql h1]
def JhW : List PV -> List Ent -> (Res -> Option Res) -> Option Res
 | [.st 53 [.st 42 [.sc (.int .i64 ad), .sc (.int .i64 au)], .sc (.int .i64 id1), .sc (.int .i64 ve), .ar 37 h, .sc (.int .i64 kd), .ro 113 oz of o, .st 42 [.sc (.int .i64 wd), .sc (.int .i64 wu)]]], [], k => bif dOk ⟨ad, au, id1, ve, h, kd, o, wd, wu⟩ then k ⟨.ow 5 16 [] 0 (dlB ⟨ad, au, id1, ve, h, kd, o, wd, wu⟩).length none, [], [.vec false 5 false (pu .u8 (dlB ⟨ad, au, id1, ve, h, kd, o, wd, wu⟩))]⟩ else none
 | _, _, _ => none
def Jx3 : Sig := { own := [], run := JhW }
theorem JtW (ad au id1 ve : Int) (h : List PV) (kd : Int) (oz of : Bool) (o : List PV) (wd wu : Int) (he : dOk ⟨ad, au, id1, ve, h, kd, o, wd, wu⟩ = true) (k : Res -> Option Res) : g99 0 ad au id1 ve h kd oz of o wd wu k = k ⟨.ow 5 16 [] 0 (dlB ⟨ad, au, id1, ve, h, kd, o, wd, wu⟩).length none, [], [.vec false 5 false (pu .u8 (dlB ⟨ad, au, id1, ve, h, kd, o, wd, wu⟩))]⟩ := by
 have hl := Vu he
 have hp := Jmc he
 obtain ⟨h1, h2, h3, h4⟩ := Wi.1 he
 simp only at hl hp h1 h2 h3 h4
 have ht : ∀ l : List PV, ByteArray.mk (Array.mk (Jn l)) = tx l := fun l => rfl
 have hm : List.take 32 h = h := List.take_of_length_le (by omega)
 have l1 : ∀ (L : List PV) (n : Int), (apY L n).length = L.length + 1 := WI
 have l2 : ∀ (L : List PV) (n : Int), (apI L n).length = L.length + 8 := Wh
 have l3 : ∀ (L : List PV), (apT L (tx (pu .u8 (opB o)))).length = L.length + ((opB o).length + 2) := fun L => by rw [XC]; simp [WJ]
 have htp : ∀ l : List Int, List.take l.length (pu .u8 l) = pu .u8 l := fun l => List.take_of_length_le (by simp)
 have hcat : ∀ L : List PV, List.take (L.length + h.length) (L ++ h) = L ++ h := fun L => List.take_of_length_le (by simp)
 rw [hm] at hp
 unfold g99
 simp only [ht, hm, List.take_length, htp, List.drop_zero, hcat, WJ, JD]
 refine (Ja (We (by simp only [l2, List.length_nil]; omega))).trans ((Ja (We (by simp only [l2, List.length_nil]; omega))).trans ((Ja (We (by simp only [l2, List.length_nil]; omega))).trans ?_))
 refine (Ja (by simp only [Jf, Nat.mul_one, Bool.and_true, decide_eq_true_eq, l2, List.length_nil]; omega)).trans ?_
 refine (Ja (by rw [show ∀ L : List PV, L.length + h.length = (L ++ h).length from fun L => (List.length_append).symm, We (by simp only [List.length_append, l2, List.length_nil]; omega)])).trans ((Ja h3).trans ((Ja (by rw [JN]; rfl)).trans ?_))
 refine (Ja (by rw [We (by simp only [l1, List.length_append, l2, List.length_nil]; omega), Bool.true_and, Nat.ble_eq]; exact h4)).trans ?_
 refine (Ja (We (by rw [l3]; simp only [l1, List.length_append, l2, List.length_nil]; omega))).trans ?_
 refine (Ja (We (by rw [l2, l3]; simp only [l1, List.length_append, l2, List.length_nil]; omega))).trans ?_
 rw [hp]
 rw [JD]
theorem Jx4 : Jh tau Try.prog 99 Jx3 := Jh.mk' fun xs es k res hl hr => by
 change JhW xs es k = some res at hr
 unfold JhW at hr
 split at hr
 · rename_i ad au id1 ve h kd oz of o wd wu
   obtain ⟨hc, hr⟩ := JI hr
   exact Qk Jr JtQ Js JxU JxV Jpd [] 0 0 (JB9 0) hl rfl ((e99 0 ad au id1 ve h kd oz of o wd wu k).trans ((JtW ad au id1 ve h kd oz of o wd wu hc k).trans hr))
 · cases hr
-- FN delta.Check | ref8.Check
def JkI (d : DV) : Int :=
 bif inZ d.ad 2 && (inZ d.au 7 && (inZ d.id 1073741824 && inZ d.ve 1048576)) then
  (bif d.kd == 1 then (bif ckO d.o == 0 then (bif d.wd == 0 && d.wu == 0 then 0 else 1) else ckO d.o)
  else bif d.kd == 2 || d.kd == 3 then (bif d.o.isEmpty && (inZ d.wd 2 && inZ d.wu 7) then 0 else 1)
  else 3)
 else 1
def dCk : DV -> Int := hid JkI
theorem JeI (d : DV) : dCk d = JkI d := by rw [dCk, hid_eq]
theorem Xt (x m : Int) : inZ x m = (decide (x >= 0) && decide (x <= m)) := rfl
theorem Jmd (l : List PV) : decide (zi l.length > 0) = !l.isEmpty := by
 cases l with
 | nil => rfl
 | cons p ps => exact decide_eq_true (by simp only [zi, List.length_cons]; omega)
theorem JtX (ad au id1 ve : Int) (h : List PV) (kd : Int) (oz of : Bool) (o : List PV) (wd wu : Int) (hc : cOk o = true) (k : Res -> Option Res) : g85 0 ad au id1 ve h kd oz of o wd wu k = k ⟨.sc (.int .i64 (dCk ⟨ad, au, id1, ve, h, kd, o, wd, wu⟩)), [], []⟩ := by
 rw [JeI]
 unfold g85 JkI
 simp only [hc, Xt, Jmd, cond_true, bne]
 have h2 : (kd == 2) = true -> (kd == 1) = false := fun h => by
     have : kd = 2 := by simpa using h
     rw [this]; decide
 generalize o.isEmpty = e0
 generalize (kd == 1) = d1 at *
 generalize (kd == 2) = d2 at *
 generalize (kd == 3) = d3
 generalize (wd == 0) = w0
 generalize (wu == 0) = w1
 generalize hck : ckO o = ck
 cases decide (ad >= 0)
 · rfl
 cases decide (ad <= 2)
 · rfl
 cases decide (au >= 0)
 · rfl
 cases decide (au <= 7)
 · rfl
 cases decide (id1 >= 0)
 · rfl
 cases decide (id1 <= 1073741824)
 · rfl
 cases decide (ve >= 0)
 · rfl
 cases decide (ve <= 1048576)
 · rfl
 cases d1
 · cases d2
   · cases d3
     · rfl
     · cases e0 <;> cases decide (wd >= 0) <;> cases decide (wd <= 2) <;> cases decide (wu >= 0) <;> cases decide (wu <= 7) <;> rfl
   · cases e0 <;> cases decide (wd >= 0) <;> cases decide (wd <= 2) <;> cases decide (wu >= 0) <;> cases decide (wu <= 7) <;> rfl
 · cases ck == 0 <;> cases w0 <;> cases w1 <;> rfl
def JhX : List PV -> List Ent -> (Res -> Option Res) -> Option Res
 | [.st 53 [.st 42 [.sc (.int .i64 ad), .sc (.int .i64 au)], .sc (.int .i64 id1), .sc (.int .i64 ve), .ar 37 h, .sc (.int .i64 kd), .ro 113 oz of o, .st 42 [.sc (.int .i64 wd), .sc (.int .i64 wu)]]], [], k => bif cOk o then k ⟨.sc (.int .i64 (dCk ⟨ad, au, id1, ve, h, kd, o, wd, wu⟩)), [], []⟩ else none
 | _, _, _ => none
def Jx5 : Sig := { own := [], run := JhX }
theorem Jx6 : Jh tau Try.prog 85 Jx5 := JBi.of fun xs es k res hr => by
 change JhX xs es k = some res at hr
 unfold JhX at hr
 split at hr
 · rename_i ad au id1 ve h kd oz of o wd wu
   obtain ⟨hc, hr⟩ := JI hr
   exact (JtX ad au id1 ve h kd oz of o wd wu hc k).trans hr
 · cases hr
-- FN ref12.below | ref12.Has
structure AV where
 (d u : Int)
def Ja3 : PV -> Bool
 | .st t [.sc (.int .i64 _), .sc (.int .i64 _)] => t == 42
 | _ => false
def adP (a : AV) : PV := .st 42 [.sc (.int .i64 a.d), .sc (.int .i64 a.u)]
def av (p : PV) : AV := ⟨(p.child 0).int, (p.child 1).int⟩
theorem Jme {p : PV} : Ja3 p = true ↔ ∃ a, p = adP a := by
 constructor
 · intro h
   unfold Ja3 at h
   split at h
   · rename_i t d u
     obtain rfl : t = 42 := by simpa using h
     exact ⟨⟨d, u⟩, rfl⟩
   · cases h
 · rintro ⟨a, rfl⟩; rfl
theorem Jaa (a : AV) : av (adP a) = a := rfl
def JhY (p : PV) : Bool := PV.isSt 42 #[Field.mk "D" 3 0 false "" "" 0, Field.mk "U" 3 1 false "" "" 8].size p && (PV.isInt IntKind.i64 (PV.child 0 p) && (PV.isInt IntKind.i64 (PV.child (0 + 1) p) && true))
theorem Jdf {p : PV} (h : Ja3 p = true) : JhY p = true := by
 obtain ⟨a, rfl⟩ := Jme.1 h
 rfl
theorem Jdg {l : List PV} (h : l.all Ja3 = true) {i : Nat} (hi : i < l.length) : Ja3 (l.getD i .top) = true := by
 rw [List.getD_eq_getElem?_getD, List.getElem?_eq_getElem hi]
 exact List.all_eq_true.1 h _ (List.getElem_mem hi)
def eqA (x y : AV) : Bool := x.d == y.d && (x.u == y.u && true)
theorem Qh {x y : AV} : eqA x y = true ↔ x = y := by
 obtain ⟨a, b⟩ := x; obtain ⟨c, d⟩ := y
 simp [eqA]
def ltA (x y : AV) : Bool := decide (x.d < y.d) || (x.d == y.d && decide (x.u < y.u))
theorem WM {x y : AV} : ltA x y = true ↔ x.d < y.d ∨ (x.d = y.d /\ x.u < y.u) := by simp [ltA]
def srt : List PV -> Bool
 | [] => true
 | p :: ps => ps.all (fun q => ltA (av p) (av q)) && srt ps
def pOk : List PV -> Bool := hid fun l => l.all Ja3 && (srt l && decide (l.length <= 8))
theorem Q1 {l : List PV} : pOk l = true ↔ l.all Ja3 = true /\ srt l = true /\ l.length <= 8 := by
 rw [pOk, hid_eq]; simp only [Bool.and_eq_true, decide_eq_true_eq]
structure PH where
 (l : List PV) (a : AV)
def hasL (l : List PV) (a : AV) : Bool := l.any fun p => eqA (av p) a
def hasP : PH -> Bool := hid fun x => hasL x.l x.a
theorem hasP_eq (x : PH) : hasP x = hasL x.l x.a := by rw [hasP, hid_eq]
-- FN slices.Equal[[]api.Addr,api.Addr]
structure AA where
 (a b : List PV)
def Jab : List PV -> Bool := hid fun l => l.all Ja3 && decide (l.length <= 1000)
theorem Gf {l : List PV} : Jab l = true ↔ l.all Ja3 = true /\ l.length <= 1000 := by
 rw [Jab, hid_eq, Bool.and_eq_true, decide_eq_true_eq]

def Jx7 : Fns := F0
theorem Jpg : Jy tau Try.prog Jx7 := JE
def Jju : An := (.seq .leaf (.seq .leaf .leaf))
def Jx8 (f : Nat) (k : Res -> Option Res) : Option Res := k (Res.mk (.ar 159 [.sc (.int .u32 1116352408), .sc (.int .u32 1899447441), .sc (.int .u32 3049323471), .sc (.int .u32 3921009573), .sc (.int .u32 961987163), .sc (.int .u32 1508970993), .sc (.int .u32 2453635748), .sc (.int .u32 2870763221), .sc (.int .u32 3624381080), .sc (.int .u32 310598401), .sc (.int .u32 607225278), .sc (.int .u32 1426881987), .sc (.int .u32 1925078388), .sc (.int .u32 2162078206), .sc (.int .u32 2614888103), .sc (.int .u32 3248222580), .sc (.int .u32 3835390401), .sc (.int .u32 4022224774), .sc (.int .u32 264347078), .sc (.int .u32 604807628), .sc (.int .u32 770255983), .sc (.int .u32 1249150122), .sc (.int .u32 1555081692), .sc (.int .u32 1996064986), .sc (.int .u32 2554220882), .sc (.int .u32 2821834349), .sc (.int .u32 2952996808), .sc (.int .u32 3210313671), .sc (.int .u32 3336571891), .sc (.int .u32 3584528711), .sc (.int .u32 113926993), .sc (.int .u32 338241895), .sc (.int .u32 666307205), .sc (.int .u32 773529912), .sc (.int .u32 1294757372), .sc (.int .u32 1396182291), .sc (.int .u32 1695183700), .sc (.int .u32 1986661051), .sc (.int .u32 2177026350), .sc (.int .u32 2456956037), .sc (.int .u32 2730485921), .sc (.int .u32 2820302411), .sc (.int .u32 3259730800), .sc (.int .u32 3345764771), .sc (.int .u32 3516065817), .sc (.int .u32 3600352804), .sc (.int .u32 4094571909), .sc (.int .u32 275423344), .sc (.int .u32 430227734), .sc (.int .u32 506948616), .sc (.int .u32 659060556), .sc (.int .u32 883997877), .sc (.int .u32 958139571), .sc (.int .u32 1322822218), .sc (.int .u32 1537002063), .sc (.int .u32 1747873779), .sc (.int .u32 1955562222), .sc (.int .u32 2024104815), .sc (.int .u32 2227730452), .sc (.int .u32 2361852424), .sc (.int .u32 2428436474), .sc (.int .u32 2756734187), .sc (.int .u32 3204031479), .sc (.int .u32 3329325298)]) [] [])
theorem JCg (f : Nat) (k : Res -> Option Res) : JM tau Jx7 Try.f116 (Try.f116.body.get!) Jju [.ro] 0 [] [] k = Jx8 f k := by kernel_rfl
theorem Jx9 (f : Nat) : Je (Try.f116.body.get!) Jju = [] := by kernel_rfl
theorem Jya (f : Nat) : ∀ q ∈ Je (Try.f116.body.get!) Jju, q.Ok tau Try.prog 0 := by
 rw [Jx9 f]; intro q hq; cases hq
theorem JrO : Try.prog.funcs[116]? = some Try.f116 := by kernel_rfl
theorem JrP : Try.f116.body = some (Try.f116.body.get!) := by kernel_rfl
theorem Jyb : Enters Try.prog 116 := enters_of JrO (by kernel_rfl) JrP
def JhZ : List PV -> List Ent -> (Res -> Option Res) -> Option Res
 | [], [], k => Jx8 0  k
 | _, _, _ => none
def Jyc : Sig := { own := [], run := JhZ }
theorem Jyd : Jh tau Try.prog 116 Jyc := JW Jr Jpg Js JrO JrP Jju [.ro] 0 [] JhZ (Jya 0) fun xs es k res hr => by
 unfold JhZ at hr
 split at hr
 · exact ⟨rfl, 0, (JCg 0  _).trans hr⟩
 · cases hr
def N80 : Nat := 113
def F80 : Fns := JG 116 Jyc (JG 115 Jrn (JG 117 JlQ F0))
theorem Jh0 : Jy tau Try.prog F80 := ((JE.add JlR Jrk).add Js8 JwI).add Jyd Jyb
def Jdh : Code := Qj (Try.f80.body.get!) [1, 1, 1, 0, 1, 0, 0]
def Yi : Nm := [(2, .any), (4, .any), (5, .any), (6, .any), (7, .any), (18, .any)]
def Zg : Nm := [(2, .any), (4, .any), (7, .any)]
def Jf6 : An := (.seq .leaf (.seq (.cond .leaf .leaf) (.seq (.block none (.seq .leaf (.seq .leaf (.seq .leaf (.seq .leaf .leaf))))) .leaf)))
def Jdi : Code := Qj (Try.f80.body.get!) [1, 1, 1, 1, 0, 1, 0, 0]
def Yj : Nm := [(2, .any), (4, .any), (7, .any), (100, .any)]
def Zh : Nm := [(4, .any), (7, .any)]
def Jf7 : An := (.seq .leaf (.seq (.cond .leaf .leaf) (.seq (.block none (.seq .leaf .leaf)) .leaf)))
def JtY (r0 : QC) (r1 : QC) : An := (.seq .leaf (.seq .leaf (.seq .leaf (.seq (.seq .leaf (.block none (.sum Yi N80 r0))) (.seq (.seq .leaf (.block none (.sum Yj N80 r1))) (.seq .leaf .leaf))))))
def Gg (f : Nat) (rc : Int -> List PV -> List PV -> List PV -> List PV -> List PV -> Option Res) (k0 : List PV -> List PV -> List PV -> Option Res) (v0 : Int) (v1 v2 v3 v4 v5 : List PV) : Option Res := bif decide (v0 < 64) then bif PV.isInt IntKind.u32 (Jm (PV.ar 143 v5) [4]) && true then bif PV.isInt IntKind.u32 (Jm (PV.ar 143 v5) [0]) && true then bif PV.isInt IntKind.u32 (Jm (PV.ar 143 v5) [7]) && true then bif PV.isInt IntKind.u32 (Jm (PV.ar 143 v5) [5]) && true then bif PV.isInt IntKind.u32 (Jm (PV.ar 143 v5) [6]) && true then bif decide (0 <= v0) && decide (v0 < zi 64) && true then bif PV.isInt IntKind.u32 (Jm (PV.ar 159 v4) [v0.toNat]) && true then bif decide (0 <= v0) && decide (v0 < zi 64) && true then bif PV.isInt IntKind.u32 (Jm (PV.ar 159 v3) [v0.toNat]) && true then bif PV.isInt IntKind.u32 (Jm (PV.ar 143 v5) [1]) && true then bif PV.isInt IntKind.u32 (Jm (PV.ar 143 v5) [2]) && true then bif PV.isInt IntKind.u32 (Jm (PV.ar 143 v5) [1]) && true then bif PV.isInt IntKind.u32 (Jm (PV.ar 143 v5) [2]) && true then bif PV.isInt IntKind.u32 (Jm (PV.ar 143 v5) [0]) && true then bif PV.isInt IntKind.u32 (Jm (PV.ar 143 v5) [1]) && true then bif PV.isInt IntKind.u32 (Jm (PV.ar 143 v5) [2]) && true then bif PV.isInt IntKind.u32 (Jm (PV.ar 143 v5) [3]) && true then bif PV.isInt IntKind.u32 (Jm (PV.ar 143 v5) [4]) && true then bif PV.isInt IntKind.u32 (Jm (PV.ar 143 v5) [5]) && true then bif PV.isInt IntKind.u32 (Jm (PV.ar 143 v5) [6]) && true then rc (IntKind.i64.wrap (v0 + 1)) v1 v2 v3 v4 ([.sc (.int .u32 (IntKind.u32.wrap (IntKind.u32.wrap (IntKind.u32.wrap (IntKind.u32.wrap (IntKind.u32.wrap ((Jm (PV.ar 143 v5) [7]).int + JF BinOp.xor IntKind.u32 (JF BinOp.xor IntKind.u32 (rr (Jm (PV.ar 143 v5) [4]).int 6) (rr (Jm (PV.ar 143 v5) [4]).int 11)) (rr (Jm (PV.ar 143 v5) [4]).int 25)) + JF BinOp.xor IntKind.u32 (JF BinOp.and IntKind.u32 (Jm (PV.ar 143 v5) [4]).int (Jm (PV.ar 143 v5) [5]).int) (JF BinOp.and IntKind.u32 (JF BinOp.xor IntKind.u32 (Int.ofNat (2 ^ IntKind.u32.bits - Nat.succ 0)) (Jm (PV.ar 143 v5) [4]).int) (Jm (PV.ar 143 v5) [6]).int)) + (Jm (PV.ar 159 v4) [v0.toNat]).int) + (Jm (PV.ar 159 v3) [v0.toNat]).int) + IntKind.u32.wrap (JF BinOp.xor IntKind.u32 (JF BinOp.xor IntKind.u32 (rr (Jm (PV.ar 143 v5) [0]).int 2) (rr (Jm (PV.ar 143 v5) [0]).int 13)) (rr (Jm (PV.ar 143 v5) [0]).int 22) + JF BinOp.xor IntKind.u32 (JF BinOp.xor IntKind.u32 (JF BinOp.and IntKind.u32 (Jm (PV.ar 143 v5) [0]).int (Jm (PV.ar 143 v5) [1]).int) (JF BinOp.and IntKind.u32 (Jm (PV.ar 143 v5) [0]).int (Jm (PV.ar 143 v5) [2]).int)) (JF BinOp.and IntKind.u32 (Jm (PV.ar 143 v5) [1]).int (Jm (PV.ar 143 v5) [2]).int))))), .sc (.int .u32 (Jm (PV.ar 143 v5) [0]).int), .sc (.int .u32 (Jm (PV.ar 143 v5) [1]).int), .sc (.int .u32 (Jm (PV.ar 143 v5) [2]).int), .sc (.int .u32 (IntKind.u32.wrap ((Jm (PV.ar 143 v5) [3]).int + IntKind.u32.wrap (IntKind.u32.wrap (IntKind.u32.wrap (IntKind.u32.wrap ((Jm (PV.ar 143 v5) [7]).int + JF BinOp.xor IntKind.u32 (JF BinOp.xor IntKind.u32 (rr (Jm (PV.ar 143 v5) [4]).int 6) (rr (Jm (PV.ar 143 v5) [4]).int 11)) (rr (Jm (PV.ar 143 v5) [4]).int 25)) + JF BinOp.xor IntKind.u32 (JF BinOp.and IntKind.u32 (Jm (PV.ar 143 v5) [4]).int (Jm (PV.ar 143 v5) [5]).int) (JF BinOp.and IntKind.u32 (JF BinOp.xor IntKind.u32 (Int.ofNat (2 ^ IntKind.u32.bits - Nat.succ 0)) (Jm (PV.ar 143 v5) [4]).int) (Jm (PV.ar 143 v5) [6]).int)) + (Jm (PV.ar 159 v4) [v0.toNat]).int) + (Jm (PV.ar 159 v3) [v0.toNat]).int)))), .sc (.int .u32 (Jm (PV.ar 143 v5) [4]).int), .sc (.int .u32 (Jm (PV.ar 143 v5) [5]).int), .sc (.int .u32 (Jm (PV.ar 143 v5) [6]).int)]) else none else none else none else none else none else none else none else none else none else none else none else none else none else none else none else none else none else none else none else none else k0 v1 v2 v5
def Zi (f : Nat) (k0 : List PV -> List PV -> List PV -> Option Res) : Nat -> Int -> List PV -> List PV -> List PV -> List PV -> List PV -> Option Res
 | 0, _, _, _, _, _, _ => none
 | n + 1, v0, v1, v2, v3, v4, v5 => Gg f (Zi f k0 n) k0 v0 v1 v2 v3 v4 v5
theorem Jph (f : Nat) (k : Kont) (n : Nat) (v0 : Int) (v1 v2 v3 v4 v5 : List PV) : Jp tau 0 Yi (fun s k => ev tau F80 0 0 Jdh (Jf6 ) s k) (n + 1) (Jc Yi N80 [.ptr 1824 [], .ptr 1825 [], .ptr 1826 [], .ptr 1827 [], .ptr 1828 [], .sc (.int .i64 v0)] [(1824, .box false 143 (PV.ar 143 v1)), (1825, .box false 143 (PV.ar 143 v2)), (1826, .box false 159 (PV.ar 159 v3)), (1827, .box false 159 (PV.ar 159 v4)), (1828, .box false 143 (PV.ar 143 v5))]) (Jq tau 0 Zg k) = Gg f (fun v0 v1 v2 v3 v4 v5 => Jp tau 0 Yi (fun s k => ev tau F80 0 0 Jdh (Jf6 ) s k) n (Jc Yi N80 [.ptr 1824 [], .ptr 1825 [], .ptr 1826 [], .ptr 1827 [], .ptr 1828 [], .sc (.int .i64 v0)] [(1824, .box false 143 (PV.ar 143 v1)), (1825, .box false 143 (PV.ar 143 v2)), (1826, .box false 159 (PV.ar 159 v3)), (1827, .box false 159 (PV.ar 159 v4)), (1828, .box false 143 (PV.ar 143 v5))]) (Jq tau 0 Zg k)) (fun x0 x1 x2 => k (Ex.exit 0) (Jc Zg N80 [.ptr 1824 [], .ptr 1825 [], .ptr 1826 []] [(1824, .box false 143 (PV.ar 143 x0)), (1825, .box false 143 (PV.ar 143 x1)), (1826, .box false 143 (PV.ar 143 x2))])) v0 v1 v2 v3 v4 v5 := by kernel_rfl
theorem Jjv (f : Nat) (k : Kont) : ∀ (n : Nat) (v0 : Int) (v1 v2 v3 v4 v5 : List PV), Jp tau 0 Yi (fun s k => ev tau F80 0 0 Jdh (Jf6 ) s k) n (Jc Yi N80 [.ptr 1824 [], .ptr 1825 [], .ptr 1826 [], .ptr 1827 [], .ptr 1828 [], .sc (.int .i64 v0)] [(1824, .box false 143 (PV.ar 143 v1)), (1825, .box false 143 (PV.ar 143 v2)), (1826, .box false 159 (PV.ar 159 v3)), (1827, .box false 159 (PV.ar 159 v4)), (1828, .box false 143 (PV.ar 143 v5))]) (Jq tau 0 Zg k) = Zi f (fun x0 x1 x2 => k (Ex.exit 0) (Jc Zg N80 [.ptr 1824 [], .ptr 1825 [], .ptr 1826 []] [(1824, .box false 143 (PV.ar 143 x0)), (1825, .box false 143 (PV.ar 143 x1)), (1826, .box false 143 (PV.ar 143 x2))])) n v0 v1 v2 v3 v4 v5 | 0, _, _, _, _, _, _ => rfl | n + 1, v0, v1, v2, v3, v4, v5 => (Jph f k n v0 v1 v2 v3 v4 v5).trans (congrArg (fun r => Gg f r (fun x0 x1 x2 => k (Ex.exit 0) (Jc Zg N80 [.ptr 1824 [], .ptr 1825 [], .ptr 1826 []] [(1824, .box false 143 (PV.ar 143 x0)), (1825, .box false 143 (PV.ar 143 x1)), (1826, .box false 143 (PV.ar 143 x2))])) v0 v1 v2 v3 v4 v5) (by funext v0 v1 v2 v3 v4 v5; exact Jjv f k n v0 v1 v2 v3 v4 v5))
def Jdj (f : Nat) : List PV -> List (Nat × Ent) -> Kont -> Option Res
 | [.ptr 1824 [], .ptr 1825 [], .ptr 1826 [], .ptr 1827 [], .ptr 1828 [],
 PV.sc
  (Value.int IntKind.i64
   v0)], [(1824, .box false 143 (PV.ar 143 v1)), (1825, .box false 143 (PV.ar 143 v2)), (1826, .box false 159 (PV.ar 159 v3)), (1827, .box false 159 (PV.ar 159 v4)),
 (1828,
  Ent.box false 143
   (PV.ar 143
    v5))], k => Zi f (fun x0 x1 x2 => k (Ex.exit
 0) (Jc Zg N80 [.ptr 1824 [], .ptr 1825 [],
 PV.ptr 1826 []] [(1824, .box false 143 (PV.ar 143 x0)), (1825, .box false 143 (PV.ar 143 x1)), (1826, .box false 143 (PV.ar 143 x2))])) f v0 v1 v2 v3 v4 v5
 | _, _, _ => none
theorem JtZ (f : Nat) : Je Jdh Jf6 = [] := by kernel_rfl
theorem Jye (f : Nat) : (Item.l Jdh Yi N80 (Jdj f)).Ok tau Try.prog 0 := JJ Jr Jh0 Js (x := Jf6) (nm2 := Zg) (Jk _ _ (by rw [JtZ f]; intro q hq; cases hq)) fun vs hp k res hr => by
 unfold Jdj at hr
 split at hr
 · exact ⟨f, 0, (Jjv f _ f _ _ _ _ _ _ ).trans hr⟩
 · cases hr
def Gh (f : Nat) (rc : Int -> List PV -> List PV -> List PV -> Option Res) (k0 : List PV -> List PV -> Option Res) (v0 : Int) (v1 v2 v3 : List PV) : Option Res := bif decide (v0 < 8) then bif decide (0 <= v0) && decide (v0 < zi 8) && true then bif PV.isInt IntKind.u32 (Jm (PV.ar 143 v3) [v0.toNat]) && true then bif decide (0 <= v0) && decide (v0 < zi 8) && true then bif PV.isInt IntKind.u32 (Jm (PV.ar 143 v1) [v0.toNat]) && true then bif decide (0 <= v0) && decide (v0 < zi 8) && true then rc (IntKind.i64.wrap (v0 + 1)) v1 v2 (v3.set v0.toNat (.sc (.int .u32 (IntKind.u32.wrap ((Jm (PV.ar 143 v3) [v0.toNat]).int + (Jm (PV.ar 143 v1) [v0.toNat]).int))))) else none else none else none else none else none else k0 v2 v3
def Zj (f : Nat) (k0 : List PV -> List PV -> Option Res) : Nat -> Int -> List PV -> List PV -> List PV -> Option Res
 | 0, _, _, _, _ => none
 | n + 1, v0, v1, v2, v3 => Gh f (Zj f k0 n) k0 v0 v1 v2 v3
theorem Jpi (f : Nat) (k : Kont) (n : Nat) (v0 : Int) (v1 v2 v3 : List PV) : Jp tau 0 Yj (fun s k => ev tau F80 0 0 Jdi (Jf7 ) s k) (n + 1) (Jc Yj N80 [.ptr 1824 [], .ptr 1825 [], .ptr 1826 [], .sc (.int .i64 v0)] [(1824, .box false 143 (PV.ar 143 v1)), (1825, .box false 143 (PV.ar 143 v2)), (1826, .box false 143 (PV.ar 143 v3))]) (Jq tau 0 Zh k) = Gh f (fun v0 v1 v2 v3 => Jp tau 0 Yj (fun s k => ev tau F80 0 0 Jdi (Jf7 ) s k) n (Jc Yj N80 [.ptr 1824 [], .ptr 1825 [], .ptr 1826 [], .sc (.int .i64 v0)] [(1824, .box false 143 (PV.ar 143 v1)), (1825, .box false 143 (PV.ar 143 v2)), (1826, .box false 143 (PV.ar 143 v3))]) (Jq tau 0 Zh k)) (fun x0 x1 => k (Ex.exit 2) (Jc Zh N80 [.ptr 1824 [], .ptr 1825 []] [(1824, .box false 143 (PV.ar 143 x0)), (1825, .box false 143 (PV.ar 143 x1))])) v0 v1 v2 v3 := by kernel_rfl
theorem Jjw (f : Nat) (k : Kont) : ∀ (n : Nat) (v0 : Int) (v1 v2 v3 : List PV), Jp tau 0 Yj (fun s k => ev tau F80 0 0 Jdi (Jf7 ) s k) n (Jc Yj N80 [.ptr 1824 [], .ptr 1825 [], .ptr 1826 [], .sc (.int .i64 v0)] [(1824, .box false 143 (PV.ar 143 v1)), (1825, .box false 143 (PV.ar 143 v2)), (1826, .box false 143 (PV.ar 143 v3))]) (Jq tau 0 Zh k) = Zj f (fun x0 x1 => k (Ex.exit 2) (Jc Zh N80 [.ptr 1824 [], .ptr 1825 []] [(1824, .box false 143 (PV.ar 143 x0)), (1825, .box false 143 (PV.ar 143 x1))])) n v0 v1 v2 v3 | 0, _, _, _, _ => rfl | n + 1, v0, v1, v2, v3 => (Jpi f k n v0 v1 v2 v3).trans (congrArg (fun r => Gh f r (fun x0 x1 => k (Ex.exit 2) (Jc Zh N80 [.ptr 1824 [], .ptr 1825 []] [(1824, .box false 143 (PV.ar 143 x0)), (1825, .box false 143 (PV.ar 143 x1))])) v0 v1 v2 v3) (by funext v0 v1 v2 v3; exact Jjw f k n v0 v1 v2 v3))
def Jdk (f : Nat) : List PV -> List (Nat × Ent) -> Kont -> Option Res
 | [.ptr 1824 [], .ptr 1825 [], .ptr 1826 [],
 PV.sc
  (Value.int IntKind.i64
   v0)], [(1824, .box false 143 (PV.ar 143 v1)), (1825, .box false 143 (PV.ar 143 v2)),
 (1826,
  Ent.box false 143
   (PV.ar 143
    v3))], k => Zj f (fun x0 x1 => k (Ex.exit
 2) (Jc Zh N80 [.ptr 1824 [], .ptr 1825 []] [(1824, .box false 143 (PV.ar 143 x0)), (1825, .box false 143 (PV.ar 143 x1))])) f v0 v1 v2 v3
 | _, _, _ => none
theorem Jt0 (f : Nat) : Je Jdi Jf7 = [] := by kernel_rfl
theorem Jyf (f : Nat) : (Item.l Jdi Yj N80 (Jdk f)).Ok tau Try.prog 0 := JJ Jr Jh0 Js (x := Jf7) (nm2 := Zh) (Jk _ _ (by rw [Jt0 f]; intro q hq; cases hq)) fun vs hp k res hr => by
 unfold Jdk at hr
 split at hr
 · exact ⟨f, 0, (Jjw f _ f _ _ _ _ ).trans hr⟩
 · cases hr
def g80 (f : Nat) (s : List PV) (nl fl : Bool) (b : List PV) (k : Res -> Option Res) : Option Res := bif Jl IntKind.u8 b && decide (b.length = 64) then Zi f (fun x0_0 x1_0 x2_0 => Zj f (fun x0_1 x1_1 => k (Res.mk (.ar 143 x1_1) [] [])) f (0) x0_0 x1_0 x2_0) f (0) s ([.sc (.int .u32 0), .sc (.int .u32 0), .sc (.int .u32 0), .sc (.int .u32 0), .sc (.int .u32 0), .sc (.int .u32 0), .sc (.int .u32 0), .sc (.int .u32 0)]) (pu IntKind.u32 (Qa (Ju b))) ([.sc (.int .u32 1116352408), .sc (.int .u32 1899447441), .sc (.int .u32 3049323471), .sc (.int .u32 3921009573), .sc (.int .u32 961987163), .sc (.int .u32 1508970993), .sc (.int .u32 2453635748), .sc (.int .u32 2870763221), .sc (.int .u32 3624381080), .sc (.int .u32 310598401), .sc (.int .u32 607225278), .sc (.int .u32 1426881987), .sc (.int .u32 1925078388), .sc (.int .u32 2162078206), .sc (.int .u32 2614888103), .sc (.int .u32 3248222580), .sc (.int .u32 3835390401), .sc (.int .u32 4022224774), .sc (.int .u32 264347078), .sc (.int .u32 604807628), .sc (.int .u32 770255983), .sc (.int .u32 1249150122), .sc (.int .u32 1555081692), .sc (.int .u32 1996064986), .sc (.int .u32 2554220882), .sc (.int .u32 2821834349), .sc (.int .u32 2952996808), .sc (.int .u32 3210313671), .sc (.int .u32 3336571891), .sc (.int .u32 3584528711), .sc (.int .u32 113926993), .sc (.int .u32 338241895), .sc (.int .u32 666307205), .sc (.int .u32 773529912), .sc (.int .u32 1294757372), .sc (.int .u32 1396182291), .sc (.int .u32 1695183700), .sc (.int .u32 1986661051), .sc (.int .u32 2177026350), .sc (.int .u32 2456956037), .sc (.int .u32 2730485921), .sc (.int .u32 2820302411), .sc (.int .u32 3259730800), .sc (.int .u32 3345764771), .sc (.int .u32 3516065817), .sc (.int .u32 3600352804), .sc (.int .u32 4094571909), .sc (.int .u32 275423344), .sc (.int .u32 430227734), .sc (.int .u32 506948616), .sc (.int .u32 659060556), .sc (.int .u32 883997877), .sc (.int .u32 958139571), .sc (.int .u32 1322822218), .sc (.int .u32 1537002063), .sc (.int .u32 1747873779), .sc (.int .u32 1955562222), .sc (.int .u32 2024104815), .sc (.int .u32 2227730452), .sc (.int .u32 2361852424), .sc (.int .u32 2428436474), .sc (.int .u32 2756734187), .sc (.int .u32 3204031479), .sc (.int .u32 3329325298)]) s else none
theorem e80 (f : Nat) (s : List PV) (nl fl : Bool) (b : List PV) (k : Res -> Option Res) : JM tau F80 Try.f80 (Try.f80.body.get!) (JtY (Jdj f) (Jdk f)) [] 0 [.ar 143 s, .ro 5 nl fl b] [] k = g80 f s nl fl b k := by kernel_rfl
theorem JCh (f : Nat) : Je (Try.f80.body.get!) (JtY (Jdj f) (Jdk f)) = [.l Jdh Yi N80 (Jdj f), .l Jdi Yj N80 (Jdk f)] := by kernel_rfl
theorem JCi (f : Nat) : ∀ q ∈ Je (Try.f80.body.get!) (JtY (Jdj f) (Jdk f)), q.Ok tau Try.prog 0 := by
 rw [JCh f]; simp only [List.forall_mem_cons, List.not_mem_nil, false_implies, implies_true, and_true]; exact ⟨Jye f, Jyf f⟩
theorem Jyg : Try.prog.funcs[80]? = some Try.f80 := by kernel_rfl
theorem Jyh : Try.f80.body = some (Try.f80.body.get!) := by kernel_rfl
theorem JCj : Enters Try.prog 80 := enters_of Jyg (by kernel_rfl) Jyh
-- FN (sha.state).add
theorem Zk {R : List Int} (h : R.length = 8) (j : Nat) (hj : j < 8) : (pu .u32 R).getD j .top = .sc (.int .u32 (R.getD j 0)) := Y0 (by omega)
theorem JrQ (W s : List Int) (hW : W.length = 64) (hs : s.length = 8) (f : Nat) (k0 : List PV -> List PV -> List PV -> Option Res) (a b : List PV) : ∀ (d i n : Nat), i + d = 64 -> d < n ->
  Zi f k0 n (i : Int) a b (pu .u32 W) (pu .u32 kks) (pu .u32 (G6 W s i)) = k0 a b (pu .u32 (G6 W s 64))
 | 0, i, n + 1, h, hn => by
   obtain rfl : i = 64 := by omega
   simp only [Zi, Gg]
   exact Jj (by decide)
 | d + 1, i, n + 1, h, hn => by
   have hl := Xs W s hs i
   have h1 : IntKind.i64.wrap ((i : Int) + 1) = ((i + 1 : Nat) : Int) := by rw [wrap_i64 (by omega) (by omega)]; omega
   have hk : (pu .u32 kks).getD i .top = .sc (.int .u32 (kks.getD i 0)) := Y0 (by show i < 64; omega)
   have hw : (pu .u32 W).getD i .top = .sc (.int .u32 (W.getD i 0)) := Y0 (by omega)
   have c1 : decide ((i : Int) < 64) = true := by simp; omega
   have c2 : decide (0 <= (i : Int)) = true := by simp
   have c3 : decide ((i : Int) < zi 64) = true := by simp; omega
   simp only [Zi, Gg, Xl, Int.toNat_natCast, h1, hk, hw, c1, c2, c3, Zk hl 0 (by omega), Zk hl 1 (by omega), Zk hl 2 (by omega), Zk hl 3 (by omega), Zk hl 4 (by omega), Zk hl 5 (by omega), Zk hl 6 (by omega), Zk hl 7 (by omega), PV.isInt, PV.int, decide_true, Bool.and_true, cond_true]
   exact JrQ W s hW hs f k0 a b d (i + 1) n (by omega) (by omega)
theorem JrR (t s : List Int) (ht : t.length = 8) (hs : s.length = 8) (f : Nat) (k0 : List PV -> List PV -> Option Res) (a : List PV) : ∀ (d i n : Nat), i + d = 8 -> d < n ->
  Zj f k0 n (i : Int) (pu .u32 s) a (pu .u32 (Qu (fun j => ww (t.getD j 0 + s.getD j 0)) t i)) = k0 a (pu .u32 (Qu (fun j => ww (t.getD j 0 + s.getD j 0)) t 8))
 | 0, i, n + 1, h, hn => by
   obtain rfl : i = 8 := by omega
   simp only [Zj, Gh]
   exact Jj (by decide)
 | d + 1, i, n + 1, h, hn => by
   have hl : (Qu (fun j => ww (t.getD j 0 + s.getD j 0)) t i).length = 8 := by rw [V6 _ _ _ (by omega), ht]
   have h1 : IntKind.i64.wrap ((i : Int) + 1) = ((i + 1 : Nat) : Int) := by rw [wrap_i64 (by omega) (by omega)]; omega
   have c1 : decide ((i : Int) < 8) = true := by simp; omega
   have c2 : decide (0 <= (i : Int)) = true := by simp
   have c3 : decide ((i : Int) < zi 8) = true := by simp; omega
   have g1 : ((i : Int)).toNat = i := by omega
   simp only [Zj, Gh, Xl, g1, h1, c1, c2, c3, Zk hl i (by omega), Zk hs i (by omega), Jc7 _ t i (by omega), PV.isInt, PV.int, decide_true, Bool.and_true, cond_true, W8]
   have := JrR t s ht hs f k0 a d (i + 1) n (by omega) (by omega)
   rw [← Qr _ t i (by omega)] at this
   exact this
theorem Jt1 (s bs : List Int) (hs : s.length = 8) (hb : bs.length = 64) (nl fl : Bool) (k : Res -> Option Res) : g80 100 (pu .u32 s) nl fl (pu .u8 bs) k = k ⟨.ar 143 (pu .u32 (JhE s bs)), [], []⟩ := by
 have hW : (Qa bs).length = 64 := J7 bs 48
 have hc : (Jl .u8 (pu .u8 bs) && decide ((pu .u8 bs).length = 64)) = true := by simp [hb]
 refine (Ja hc).trans ?_
 rw [Q0]
 have h0 : ∀ k0 a b, Zi 100 k0 100 0 a b (pu .u32 (Qa bs)) (pu .u32 kks) (pu .u32 s) = k0 a b (pu .u32 (G6 (Qa bs) s 64)) := fun k0 a b => JrQ (Qa bs) s hW hs 100 k0 a b 64 0 100 (by omega) (by omega)
 have ht := Xs (Qa bs) s hs 64
 have h1 : ∀ k0 a, Zj 100 k0 100 0 (pu .u32 s) a (pu .u32 (G6 (Qa bs) s 64)) = k0 a (pu .u32 (JhE s bs)) := by
  intro k0 a
  have := JrR (G6 (Qa bs) s 64) s ht hs 100 k0 a 8 0 100 (by omega) (by omega)
  rw [QO] at this
  refine this.trans ?_
  have h2 := Wc (fun j => ww ((G6 (Qa bs) s 64).getD j 0 + s.getD j 0)) (G6 (Qa bs) s 64)
  rw [ht] at h2; rw [h2]; rfl
 exact (h0 _ _ _).trans (h1 _ _)
def Jh1 : List PV -> List Ent -> (Res -> Option Res) -> Option Res
 | [.ar 143 s, .ro 5 nl fl b], [], k => bif (Jl .u32 s && decide (s.length = 8)) && (Jl .u8 b && decide (b.length = 64)) then k ⟨.ar 143 (pu .u32 (JhE (Ju s) (Ju b))), [], []⟩ else none
 | _, _, _ => none
def Jyi : Sig := { own := [], run := Jh1 }
theorem Jyj : Jh tau Try.prog 80 Jyi := JW Jr Jh0 Js Jyg Jyh _ [] 0 [] Jh1 (JCi 100) fun xs es k res hr => by
 unfold Jh1 at hr
 split at hr
 · obtain ⟨hc, hr⟩ := JI hr
   simp only [Bool.and_eq_true, decide_eq_true_eq] at hc
   refine ⟨rfl, 0, (e80 100 _ _ _ _ _).trans ?_⟩
   rw [Ql hc.2.1, Ql hc.1.1, Jt1 _ _ (by simpa using hc.1.2) (by simpa using hc.2.2)]
   exact hr
 · cases hr
def N78 : Nat := 33
def F78 : Fns := F0
theorem Jh2 : Jy tau Try.prog F78 := JE
def Jb4 : Code := Qj (Try.f78.body.get!) [1, 0, 1, 1, 1, 1, 0, 1, 0, 0]
def XD : Nm := [(0, .any), (3, .any), (19, .any)]
def Zl : Nm := [(0, .any)]
def Jf8 : An := (.seq .leaf (.seq (.cond .leaf .leaf) (.seq (.block none (.seq .leaf .leaf)) .leaf)))
def Gi : Code := Qj (Try.f78.body.get!) [1, 0]
def Yk : Nm := [(0, .any), (3, .any)]
def Zm : Nm := [(2, .any)]
def Jdl (r1 : QC) : An := (.seq .leaf (.seq .leaf (.seq .leaf (.seq (.seq .leaf (.cond (.seq .leaf .leaf) .leaf)) (.seq (.seq .leaf (.block none (.sum XD N78 r1))) (.seq .leaf .leaf))))))
def Jt2 (r0 : Jlo) (r1 : QC) : An := (.seq .leaf (.ssum Yk N78 (Jdl r1) r0))
def Gj (f : Nat) (rc : Nat -> Int -> Int -> Bool -> List PV -> Option Res) (k0 : Nat -> Bool -> List PV -> Option Res) (v0 : Nat) (v1 v2 : Int) (v3 : Bool) (v4 : List PV) : Option Res := bif decide (v2 < 8) then bif decide (0 <= IntKind.i64.wrap (56 - IntKind.i64.wrap (8 * v2))) && true then bif Jf (v0 + 1) 1 && true then rc (v0 + 1) v1 (IntKind.i64.wrap (v2 + 1)) (v3 && false) (List.take v0 v4 ++ [.sc (.int .u8 (IntKind.u8.wrap (JA IntKind.u64 v1 (IntKind.i64.wrap (56 - IntKind.i64.wrap (8 * v2))))))]) else none else none else k0 v0 v3 v4
def XE (f : Nat) (k0 : Nat -> Bool -> List PV -> Option Res) : Nat -> Nat -> Int -> Int -> Bool -> List PV -> Option Res
 | 0, _, _, _, _, _ => none
 | n + 1, v0, v1, v2, v3, v4 => Gj f (XE f k0 n) k0 v0 v1 v2 v3 v4
theorem Jpj (f : Nat) (k : Kont) (n v0 : Nat) (v1 v2 : Int) (v3 : Bool) (v4 : List PV) : Jp tau 1 XD (fun s k => ev tau F78 1 0 Jb4 (Jf8 ) s k) (n + 1) (Jc XD N78 [.ow 5 545 [] 0 v0 none, .sc (.int .u64 v1), .sc (.int .i64 v2)] [(0, .dead), (545, .vec false 5 v3 v4)]) (Jq tau 1 Zl k) = Gj f (fun v0 v1 v2 v3 v4 => Jp tau 1 XD (fun s k => ev tau F78 1 0 Jb4 (Jf8 ) s k) n (Jc XD N78 [.ow 5 545 [] 0 v0 none, .sc (.int .u64 v1), .sc (.int .i64 v2)] [(0, .dead), (545, .vec false 5 v3 v4)]) (Jq tau 1 Zl k)) (fun x0 x1 x2 => k (Ex.exit 0) (Jc Zl N78 [.ow 5 545 [] 0 x0 none] [(0, .dead), (545, .vec false 5 x1 x2)])) v0 v1 v2 v3 v4 := by kernel_rfl
theorem Jjx (f : Nat) (k : Kont) : ∀ (n v0 : Nat) (v1 v2 : Int) (v3 : Bool) (v4 : List PV), Jp tau 1 XD (fun s k => ev tau F78 1 0 Jb4 (Jf8 ) s k) n (Jc XD N78 [.ow 5 545 [] 0 v0 none, .sc (.int .u64 v1), .sc (.int .i64 v2)] [(0, .dead), (545, .vec false 5 v3 v4)]) (Jq tau 1 Zl k) = XE f (fun x0 x1 x2 => k (Ex.exit 0) (Jc Zl N78 [.ow 5 545 [] 0 x0 none] [(0, .dead), (545, .vec false 5 x1 x2)])) n v0 v1 v2 v3 v4 | 0, _, _, _, _, _ => rfl | n + 1, v0, v1, v2, v3, v4 => (Jpj f k n v0 v1 v2 v3 v4).trans (congrArg (fun r => Gj f r (fun x0 x1 x2 => k (Ex.exit 0) (Jc Zl N78 [.ow 5 545 [] 0 x0 none] [(0, .dead), (545, .vec false 5 x1 x2)])) v0 v1 v2 v3 v4) (by funext v0 v1 v2 v3 v4; exact Jjx f k n v0 v1 v2 v3 v4))
def YM (f : Nat) : List PV -> List (Nat × Ent) -> Kont -> Option Res
 | [.ow 5 545 [] 0 v0 none, .sc (.int .u64 v1),
 PV.sc
  (Value.int IntKind.i64
   v2)], [(0, .dead),
 (545, .vec false 5 v3 v4)], k => XE f (fun x0 x1 x2 => k (Ex.exit 0) (Jc Zl N78 [.ow 5 545 [] 0 x0 none] [(0, .dead), (545, .vec false 5 x1 x2)])) f v0 v1 v2 v3 v4
 | _, _, _ => none
theorem Jt3 (f : Nat) : Je Jb4 Jf8 = [] := by kernel_rfl
theorem Jmf (f : Nat) : (Item.l Jb4 XD N78 (YM f)).Ok tau Try.prog 1 := JJ Jr Jh2 Js (x := Jf8) (nm2 := Zl) (Jk _ _ (by rw [Jt3 f]; intro q hq; cases hq)) fun vs hp k res hr => by
 unfold YM at hr
 split at hr
 · exact ⟨f, 0, (Jjx f _ f _ _ _ _ _ ).trans hr⟩
 · cases hr
def Gk (f : Nat) (rc : Nat -> Int -> Bool -> List PV -> Option Res) (k0 : Nat -> Bool -> List PV -> Option Res) (v0 : Nat) (v1 : Int) (v2 : Bool) (v3 : List PV) : Option Res := bif (zi v0).tmod 64 != 56 then bif Jf (v0 + 1) 1 && true then rc (v0 + 1) v1 (v2 && false) (List.take v0 v3 ++ [.sc (.int .u8 0)]) else none else XE f (fun x0_0 x1_0 x2_0 => k0 x0_0 x1_0 x2_0) f v0 v1 (0) v2 v3
def Vv (f : Nat) (k0 : Nat -> Bool -> List PV -> Option Res) : Nat -> Nat -> Int -> Bool -> List PV -> Option Res
 | 0, _, _, _, _ => none
 | n + 1, v0, v1, v2, v3 => Gk f (Vv f k0 n) k0 v0 v1 v2 v3
theorem Jpk (f : Nat) (k : Kont) (n v0 : Nat) (v1 : Int) (v2 : Bool) (v3 : List PV) : J6 tau 1 Yk (hasLabel Gi) (fun l s k => JV tau F78 1 0 Gi (Jdl (YM f)) l s k) (n + 1) 0 (Jc Yk N78 [.ow 5 545 [] 0 v0 none, .sc (.int .u64 v1)] [(0, .dead), (545, .vec false 5 v2 v3)]) (Jq tau 1 Zm k) = Gk f (fun v0 v1 v2 v3 => J6 tau 1 Yk (hasLabel Gi) (fun l s k => JV tau F78 1 0 Gi (Jdl (YM f)) l s k) n 0 (Jc Yk N78 [.ow 5 545 [] 0 v0 none, .sc (.int .u64 v1)] [(0, .dead), (545, .vec false 5 v2 v3)]) (Jq tau 1 Zm k)) (fun x0 x1 x2 => k Ex.ret (Jc Zm N78 [.ow 5 545 [] 0 x0 none] [(0, .dead), (545, .vec false 5 x1 x2)])) v0 v1 v2 v3 := by kernel_rfl
theorem Jjy (f : Nat) (k : Kont) : ∀ (n v0 : Nat) (v1 : Int) (v2 : Bool) (v3 : List PV), J6 tau 1 Yk (hasLabel Gi) (fun l s k => JV tau F78 1 0 Gi (Jdl (YM f)) l s k) n 0 (Jc Yk N78 [.ow 5 545 [] 0 v0 none, .sc (.int .u64 v1)] [(0, .dead), (545, .vec false 5 v2 v3)]) (Jq tau 1 Zm k) = Vv f (fun x0 x1 x2 => k Ex.ret (Jc Zm N78 [.ow 5 545 [] 0 x0 none] [(0, .dead), (545, .vec false 5 x1 x2)])) n v0 v1 v2 v3 | 0, _, _, _, _ => rfl | n + 1, v0, v1, v2, v3 => (Jpk f k n v0 v1 v2 v3).trans (congrArg (fun r => Gk f r (fun x0 x1 x2 => k Ex.ret (Jc Zm N78 [.ow 5 545 [] 0 x0 none] [(0, .dead), (545, .vec false 5 x1 x2)])) v0 v1 v2 v3) (by funext v0 v1 v2 v3; exact Jjy f k n v0 v1 v2 v3))
def Jdm (f : Nat) : Nat -> List PV -> List (Nat × Ent) -> Kont -> Option Res
 | 0, [.ow 5 545 [] 0 v0 none,
 PV.sc
  (Value.int IntKind.u64
   v1)], [(0, .dead),
 (545, .vec false 5 v2 v3)], k => Vv f (fun x0 x1 x2 => k Ex.ret (Jc Zm N78 [.ow 5 545 [] 0 x0 none] [(0, .dead), (545, .vec false 5 x1 x2)])) f v0 v1 v2 v3
 | _, _, _, _ => none
theorem Jt4 (f : Nat) : Je Gi (Jdl (YM f)) = [.l Jb4 XD N78 (YM f)] := by kernel_rfl
theorem Jt5 (f : Nat) : (Item.s Gi Yk N78 (Jdm f)).Ok tau Try.prog 1 := W7 Jr Jh2 Js (x := (Jdl (YM f))) (nm2 := Zm) (Jk _ _ (by rw [Jt4 f]; simp only [List.forall_mem_cons, List.not_mem_nil, false_implies, implies_true, and_true]; exact Jmf f)) fun l vs hp k res hr => by
 unfold Jdm at hr
 split at hr
 · exact ⟨f, 0, (Jjy f _ f _ _ _ _ ).trans hr⟩
 · cases hr
def g78 (f : Nat) (nl : Bool) (l : List PV) (n : Nat) (k : Res -> Option Res) : Option Res := bif Jf (n + 1) 1 && true then bif (zi (n + 1)).tmod 64 != 56 then bif Jf (n + 1 + 1) 1 && true then Vv f (fun x0_1 x1_1 x2_1 => k (Res.mk (.ow 5 16 [] 0 x0_1 none) [.dead] [.vec false 5 x1_1 x2_1])) f (n + 1 + 1) (IntKind.u64.wrap (IntKind.u64.wrap (zi n) * 8)) (nl && false && false) (List.take (n + 1) (List.take n l ++ [.sc (.int .u8 128)]) ++ [.sc (.int .u8 0)]) else none else XE f (fun x0_2 x1_2 x2_2 => k (Res.mk (.ow 5 16 [] 0 x0_2 none) [.dead] [.vec false 5 x1_2 x2_2])) f (n + 1) (IntKind.u64.wrap (IntKind.u64.wrap (zi n) * 8)) (0) (nl && false) (List.take n l ++ [.sc (.int .u8 128)]) else none
theorem e78 (f : Nat) (nl : Bool) (l : List PV) (n : Nat) (k : Res -> Option Res) : JM tau F78 Try.f78 (Try.f78.body.get!) (Jt2 (Jdm f) (YM f)) [] 0 [.ow 5 0 [] 0 n none] [.vec false 5 nl l] k = g78 f nl l n k := by kernel_rfl
theorem JCk (f : Nat) : Je (Try.f78.body.get!) (Jt2 (Jdm f) (YM f)) = [.s Gi Yk N78 (Jdm f), .l Jb4 XD N78 (YM f)] := by kernel_rfl
theorem JCl (f : Nat) : ∀ q ∈ Je (Try.f78.body.get!) (Jt2 (Jdm f) (YM f)), q.Ok tau Try.prog 1 := by
 rw [JCk f]; simp only [List.forall_mem_cons, List.not_mem_nil, false_implies, implies_true, and_true]; exact ⟨Jt5 f, Jmf f⟩
theorem Jyk : Try.prog.funcs[78]? = some Try.f78 := by kernel_rfl
theorem Jyl : Try.f78.body = some (Try.f78.body.get!) := by kernel_rfl
theorem JCm : Enters Try.prog 78 := enters_of Jyk (by kernel_rfl) Jyl
-- FN sha.padded
def Jt6 (n : Int) (i : Nat) : Int := IntKind.u8.wrap (JA .u64 n (56 - 8 * (i : Int)))
theorem JrS (f : Nat) (N : Int) (k0 : Nat -> Bool -> List PV -> Option Res) (L : List Int) (hL : L.length <= 140737488355300) : ∀ (d i n : Nat) (z : Bool), i + d = 8 -> d < n -> (d = 0 -> z = false) ->
  XE f k0 n (L.length + i) N (i : Int) z (pu .u8 (L ++ (List.range i).map (Jt6 N))) = k0 (L.length + 8) false (pu .u8 (L ++ (List.range 8).map (Jt6 N)))
 | 0, i, n + 1, z, h, hn, hz => by
   obtain rfl : i = 8 := by omega
   simp only [XE, Gj]
   rw [hz rfl]
   exact Jj (by decide)
 | d + 1, i, n + 1, z, h, hn, hz => by
   have h1 : IntKind.i64.wrap ((i : Int) + 1) = ((i + 1 : Nat) : Int) := by rw [wrap_i64 (by omega) (by omega)]; omega
   have h8 : IntKind.i64.wrap (8 * (i : Int)) = 8 * (i : Int) := wrap_i64 (by omega) (by omega)
   have h9 : IntKind.i64.wrap (56 - 8 * (i : Int)) = 56 - 8 * (i : Int) := wrap_i64 (by omega) (by omega)
   have c1 : decide ((i : Int) < 8) = true := by simp; omega
   have c2 : decide (0 <= 56 - 8 * (i : Int)) = true := by simp; omega
   have c3 : Jf (L.length + i + 1) 1 = true := by simp [Jf]; omega
   have hlen : (L ++ (List.range i).map (Jt6 N)).length = L.length + i := by simp
   simp only [XE, Gj, h1, h8, h9, c1, c2, c3, Bool.and_true, cond_true, Xk, Bool.and_false]
   rw [List.take_of_length_le (by omega)]
   have := JrS f N k0 L hL d (i + 1) n false (by omega) (by omega) (fun _ => rfl)
   rw [List.range_succ, List.map_append, ← List.append_assoc, JQ] at this
   exact this
theorem JrT (f : Nat) (N : Int) (k0 : Nat -> Bool -> List PV -> Option Res) (hf : 9 <= f) : ∀ (d n : Nat) (L : List Int) (z : Bool), zs L.length = d -> d < n -> L.length + d <= 140737488355200 ->
  Vv f k0 n L.length N z (pu .u8 L) = XE f k0 f (L.length + d) N 0 (z && decide (d = 0)) (pu .u8 (L ++ List.replicate d 0))
 | 0, n + 1, L, z, hd, hn, hL => by
   simp only [Vv, Gk, JbU]
   refine (Jj (by simp [zs] at hd ⊢; omega)).trans ?_
   simp
 | d + 1, n + 1, L, z, hd, hn, hL => by
   have hlt : d + 1 < 64 := by rw [← hd]; unfold zs; omega
   have c3 : Jf (L.length + 1) 1 = true := by simp [Jf]; omega
   simp only [Vv, Gk, JbU, c3, Bool.and_true, cond_true, Xk, Bool.and_false]
   refine (Ja (by simp [zs] at hd ⊢; omega)).trans ?_
   rw [List.take_of_length_le (Nat.le_refl _)]
   have := JrT f N k0 hf d n (L ++ [0]) false (by simp [zs] at hd ⊢; omega) (by omega) (by simp; omega)
   simp only [List.length_append, List.length_cons, List.length_nil, Nat.zero_add, JQ] at this
   refine this.trans ?_
   rw [show L.length + 1 + d = L.length + (d + 1) from by omega, List.replicate_succ]
   simp
theorem Jt7 (nl : Bool) (bs : List Int) (hb : bs.length <= 140737488355000) (k : Res -> Option Res) : g78 100 nl (pu .u8 bs) bs.length k = k ⟨.ow 5 16 [] 0 (QA bs).length none, [.dead], [.vec false 5 false (pu .u8 (QA bs))]⟩ := by
 have c1 : (Jf (bs.length + 1) 1 && true) = true := by simp [Jf]; omega
 have c2 : (Jf (bs.length + 1 + 1) 1 && true) = true := by simp [Jf]; omega
 have hlen : (QA bs).length = bs.length + 1 + zs (bs.length + 1) + 8 := by simp [QA, JoL]; omega
 have hz : zs (bs.length + 1) < 64 := by unfold zs; omega
 refine (Ja c1).trans ?_
 rw [JbU, Xk, List.take_of_length_le (Nat.le_refl _)]
 have fin : ∀ z, XE 100 (fun x0_2 x1_2 x2_2 => k (Res.mk (PV.ow 5 16 [] 0 x0_2 none) [Ent.dead] [Ent.vec false 5 x1_2 x2_2])) 100 (bs.length + 1 + zs (bs.length + 1)) (IntKind.u64.wrap (IntKind.u64.wrap (zi bs.length) * 8)) 0 z (pu .u8 (bs ++ [128] ++ List.replicate (zs (bs.length + 1)) 0)) = k ⟨.ow 5 16 [] 0 (QA bs).length none, [.dead], [.vec false 5 false (pu .u8 (QA bs))]⟩ := by
  intro z
  have := JrS 100 (IntKind.u64.wrap (IntKind.u64.wrap (zi bs.length) * 8)) (fun x0_2 x1_2 x2_2 => k (Res.mk (PV.ow 5 16 [] 0 x0_2 none) [Ent.dead] [Ent.vec false 5 x1_2 x2_2])) (bs ++ [128] ++ List.replicate (zs (bs.length + 1)) 0) (by simp; omega) 8 0 100 z (by omega) (by omega) (by omega)
  have hl2 : (bs ++ [128] ++ List.replicate (zs (bs.length + 1)) 0).length = bs.length + 1 + zs (bs.length + 1) := by simp; omega
  rw [hl2] at this
  simp only [List.range_zero, List.map_nil, List.append_nil, Nat.add_zero] at this
  rw [hlen]
  exact this
 cases hc : (((((bs.length + 1) % 64 : Nat) : Int)) != 56) with
 | true =>
  refine (Ja rfl).trans ((Ja c2).trans ?_)
  have hc' : ((bs.length + 1) % 64 : Nat) ≠ 56 := by simp at hc; omega
  have hz1 : zs (bs.length + 1 + 1) + 1 = zs (bs.length + 1) := by unfold zs; omega
  have := JrT 100 (IntKind.u64.wrap (IntKind.u64.wrap (zi bs.length) * 8)) (fun x0_1 x1_1 x2_1 => k (Res.mk (PV.ow 5 16 [] 0 x0_1 none) [Ent.dead] [Ent.vec false 5 x1_1 x2_1])) (by omega) (zs (bs.length + 1 + 1)) 100 (bs ++ [128] ++ [0]) (nl && false && false) (by simp) (by unfold zs; omega) (by simp; omega)
  have h0 : pu .u8 (bs ++ [128] ++ [0]) = List.take (bs.length + 1) (pu .u8 bs ++ [PV.sc (Value.int IntKind.u8 128)]) ++ [PV.sc (Value.int IntKind.u8 0)] := by
   rw [List.take_of_length_le (by simp)]; simp
  rw [h0] at this
  simp only [List.length_append, List.length_cons, List.length_nil, Nat.zero_add] at this
  refine this.trans ?_
  have h3 : bs ++ [128] ++ [0] ++ List.replicate (zs (bs.length + 1 + 1)) 0 = bs ++ [128] ++ List.replicate (zs (bs.length + 1)) 0 := by
   rw [← hz1, List.replicate_succ]; simp
  rw [h3, show bs.length + 1 + 1 + zs (bs.length + 1 + 1) = bs.length + 1 + zs (bs.length + 1) from by omega]
  exact fin _
 | false =>
  refine (Jj rfl).trans ?_
  have hc' : ((bs.length + 1) % 64 : Nat) = 56 := by simp at hc; omega
  have hz0 : zs (bs.length + 1) = 0 := by unfold zs; omega
  have := fin (nl && false)
  rw [hz0] at this
  simpa using this
def Jh3 : List PV -> List Ent -> (Res -> Option Res) -> Option Res
 | [.ow 5 0 [] 0 n none], [.vec false 5 nl l], k => bif Jl .u8 l && (decide (n = l.length) && decide (l.length <= 140737488355000)) then k ⟨.ow 5 16 [] 0 (QA (Ju l)).length none, [.dead], [.vec false 5 false (pu .u8 (QA (Ju l)))]⟩ else none
 | _, _, _ => none
def Jym : Sig := { own := [true], run := Jh3 }
theorem Jyn : Jh tau Try.prog 78 Jym := JW Jr Jh2 Js Jyk Jyl _ [] 1 [true] Jh3 (JCl 100) fun xs es k res hr => by
 unfold Jh3 at hr
 split at hr
 · obtain ⟨hc, hr⟩ := JI hr
   simp only [Bool.and_eq_true, decide_eq_true_eq] at hc
   refine ⟨rfl, 0, (e78 100 _ _ _ _).trans ?_⟩
   rw [hc.2.1, Ql hc.1, JD, Jt7 _ _ (by simpa using hc.2.2)]
   exact hr
 · cases hr
def F77 : Fns := F0
theorem Jt8 : Jy tau Try.prog F77 := JE
def Jpl : An := (.seq .leaf (.seq .leaf .leaf))
def g77 (f : Nat) (k : Res -> Option Res) : Option Res := k (Res.mk (.ar 143 [.sc (.int .u32 1779033703), .sc (.int .u32 3144134277), .sc (.int .u32 1013904242), .sc (.int .u32 2773480762), .sc (.int .u32 1359893119), .sc (.int .u32 2600822924), .sc (.int .u32 528734635), .sc (.int .u32 1541459225)]) [] [])
theorem e77 (f : Nat) (k : Res -> Option Res) : JM tau F77 Try.f77 (Try.f77.body.get!) Jpl [.ro] 0 [] [] k = g77 f k := by kernel_rfl
theorem JCn (f : Nat) : Je (Try.f77.body.get!) Jpl = [] := by kernel_rfl
theorem JCo (f : Nat) : ∀ q ∈ Je (Try.f77.body.get!) Jpl, q.Ok tau Try.prog 0 := by
 rw [JCn f]; intro q hq; cases hq
theorem Jyo : Try.prog.funcs[77]? = some Try.f77 := by kernel_rfl
theorem Jyp : Try.f77.body = some (Try.f77.body.get!) := by kernel_rfl
theorem JCp : Enters Try.prog 77 := enters_of Jyo (by kernel_rfl) Jyp
def Jmg : List PV -> List Ent -> (Res -> Option Res) -> Option Res
 | [], [], k => g77 0  k
 | _, _, _ => none
def s77 : Sig := { own := [], run := Jmg }
theorem JCq : Jh tau Try.prog 77 s77 := JW Jr Jt8 Js Jyo Jyp Jpl [.ro] 0 [] Jmg (JCo 0) fun xs es k res hr => by
 unfold Jmg at hr
 split at hr
 · exact ⟨rfl, 0, (e77 0  _).trans hr⟩
 · cases hr
def N36 : Nat := 37
def F36 : Fns := JG 77 s77 (JG 78 Jym (JG 79 JoR (JG 80 Jyi F0)))
theorem Jh4 : Jy tau Try.prog F36 := (((JE.add Jyj JCj).add JlZ Jtf).add Jyn JCm).add JCq JCp
def Jdn : Code := Qj (Try.f36.body.get!) [1, 1, 0, 1, 0, 0]
def Yl : Nm := [(2, .any), (3, .any), (4, .ro)]
def Zn : Nm := [(2, .any), (3, .any)]
def Jf9 : An := (.seq (.seq .leaf (.cond .leaf .leaf)) (.seq (.block none .leaf) .leaf))
def Jdo : Code := Qj (Try.f36.body.get!) [1, 1, 1, 1, 0, 1, 0, 0]
def Ym : Nm := [(2, .any), (3, .any), (5, .any), (20, .any)]
def Zo : Nm := [(2, .any), (5, .any)]
def Jga : An := (.seq .leaf (.seq (.cond .leaf .leaf) (.seq (.block none (.seq .leaf .leaf)) .leaf)))
def Jpm (r0 : QC) (r1 : QC) : An := (.seq .leaf (.seq .leaf (.seq (.seq .leaf (.block none (.sum Yl N36 r0))) (.seq .leaf (.seq (.seq .leaf (.block none (.sum Ym N36 r1))) (.seq .leaf .leaf))))))
def Gl (f : Nat) (rc : List PV -> List PV -> List PV -> Option Res) (k0 : List PV -> List PV -> Option Res) (v0 v1 v2 : List PV) : Option Res := bif decide (zi v0.length > 0) then bif decide (64 <= v0.length) && true then bif Jl IntKind.u32 v2 && decide (v2.length = 8) && (Jl IntKind.u8 (List.take 64 v0) && decide ((List.take 64 v0).length = 64)) then bif decide (64 <= v0.length) && decide (v0.length <= v0.length) && true then rc (List.drop 64 (List.take v0.length v0)) v1 (pu IntKind.u32 (JhE (Ju v2) (Ju (List.take 64 v0)))) else none else none else none else k0 v1 v2
def Zp (f : Nat) (k0 : List PV -> List PV -> Option Res) : Nat -> List PV -> List PV -> List PV -> Option Res
 | 0, _, _, _ => none
 | n + 1, v0, v1, v2 => Gl f (Zp f k0 n) k0 v0 v1 v2
theorem Jpn (f : Nat) (k : Kont) (n : Nat) (v0 v1 v2 : List PV) : Jp tau 0 Yl (fun s k => ev tau F36 0 0 Jdn (Jf9 ) s k) (n + 1) (Jc Yl N36 [.ptr 608 [], .ptr 609 [], .ro 5 false false v0] [(608, .box false 37 (PV.ar 37 v1)), (609, .box false 143 (PV.ar 143 v2))]) (Jq tau 0 Zn k) = Gl f (fun v0 v1 v2 => Jp tau 0 Yl (fun s k => ev tau F36 0 0 Jdn (Jf9 ) s k) n (Jc Yl N36 [.ptr 608 [], .ptr 609 [], .ro 5 false false v0] [(608, .box false 37 (PV.ar 37 v1)), (609, .box false 143 (PV.ar 143 v2))]) (Jq tau 0 Zn k)) (fun x0 x1 => k (Ex.exit 0) (Jc Zn N36 [.ptr 608 [], .ptr 609 []] [(608, .box false 37 (PV.ar 37 x0)), (609, .box false 143 (PV.ar 143 x1))])) v0 v1 v2 := by kernel_rfl
theorem Jjz (f : Nat) (k : Kont) : ∀ (n : Nat) (v0 v1 v2 : List PV), Jp tau 0 Yl (fun s k => ev tau F36 0 0 Jdn (Jf9 ) s k) n (Jc Yl N36 [.ptr 608 [], .ptr 609 [], .ro 5 false false v0] [(608, .box false 37 (PV.ar 37 v1)), (609, .box false 143 (PV.ar 143 v2))]) (Jq tau 0 Zn k) = Zp f (fun x0 x1 => k (Ex.exit 0) (Jc Zn N36 [.ptr 608 [], .ptr 609 []] [(608, .box false 37 (PV.ar 37 x0)), (609, .box false 143 (PV.ar 143 x1))])) n v0 v1 v2 | 0, _, _, _ => rfl | n + 1, v0, v1, v2 => (Jpn f k n v0 v1 v2).trans (congrArg (fun r => Gl f r (fun x0 x1 => k (Ex.exit 0) (Jc Zn N36 [.ptr 608 [], .ptr 609 []] [(608, .box false 37 (PV.ar 37 x0)), (609, .box false 143 (PV.ar 143 x1))])) v0 v1 v2) (by funext v0 v1 v2; exact Jjz f k n v0 v1 v2))
def Jb5 (f : Nat) : List PV -> List (Nat × Ent) -> Kont -> Option Res
 | [.ptr 608 [], .ptr 609 [],
 PV.ro 5 false false
  v0], [(608, .box false 37 (PV.ar 37 v1)),
 (609,
  Ent.box false 143
   (PV.ar 143
    v2))], k => Zp f (fun x0 x1 => k (Ex.exit 0) (Jc Zn N36 [.ptr 608 [], .ptr 609 []] [(608, .box false 37 (PV.ar 37 x0)), (609, .box false 143 (PV.ar 143 x1))])) f v0 v1 v2
 | _, _, _ => none
theorem Jt9 (f : Nat) : Je Jdn Jf9 = [] := by kernel_rfl
theorem Jyq (f : Nat) : (Item.l Jdn Yl N36 (Jb5 f)).Ok tau Try.prog 0 := JJ Jr Jh4 Js (x := Jf9) (nm2 := Zn) (Jk _ _ (by rw [Jt9 f]; intro q hq; cases hq)) fun vs hp k res hr => by
 unfold Jb5 at hr
 split at hr
 · exact ⟨f, 0, (Jjz f _ f _ _ _ ).trans hr⟩
 · cases hr
def Gm (f : Nat) (rc : Int -> List PV -> List PV -> List PV -> Option Res) (k0 : List PV -> List PV -> Option Res) (v0 : Int) (v1 v2 v3 : List PV) : Option Res := bif decide (v0 < 32) then bif decide (0 <= IntKind.i64.wrap (v0.tdiv 4)) && decide (IntKind.i64.wrap (v0.tdiv 4) < zi 8) && true then bif PV.isInt IntKind.u32 (Jm (PV.ar 143 v2) [(IntKind.i64.wrap (v0.tdiv 4)).toNat]) && true then bif decide (0 <= IntKind.i64.wrap (24 - IntKind.i64.wrap (8 * v0.tmod 4))) && true then bif decide (0 <= v0) && decide (v0 < zi 32) && true then rc (IntKind.i64.wrap (v0 + 1)) v1 v2 (v3.set v0.toNat (.sc (.int .u8 (IntKind.u8.wrap (JA IntKind.u32 (Jm (PV.ar 143 v2) [(IntKind.i64.wrap (v0.tdiv 4)).toNat]).int (IntKind.i64.wrap (24 - IntKind.i64.wrap (8 * v0.tmod 4)))))))) else none else none else none else none else k0 v1 v3
def Zq (f : Nat) (k0 : List PV -> List PV -> Option Res) : Nat -> Int -> List PV -> List PV -> List PV -> Option Res
 | 0, _, _, _, _ => none
 | n + 1, v0, v1, v2, v3 => Gm f (Zq f k0 n) k0 v0 v1 v2 v3
theorem Jpo (f : Nat) (k : Kont) (n : Nat) (v0 : Int) (v1 v2 v3 : List PV) : Jp tau 0 Ym (fun s k => ev tau F36 0 0 Jdo (Jga ) s k) (n + 1) (Jc Ym N36 [.ptr 608 [], .ptr 609 [], .ptr 610 [], .sc (.int .i64 v0)] [(608, .box false 37 (PV.ar 37 v1)), (609, .box false 143 (PV.ar 143 v2)), (610, .box false 37 (PV.ar 37 v3))]) (Jq tau 0 Zo k) = Gm f (fun v0 v1 v2 v3 => Jp tau 0 Ym (fun s k => ev tau F36 0 0 Jdo (Jga ) s k) n (Jc Ym N36 [.ptr 608 [], .ptr 609 [], .ptr 610 [], .sc (.int .i64 v0)] [(608, .box false 37 (PV.ar 37 v1)), (609, .box false 143 (PV.ar 143 v2)), (610, .box false 37 (PV.ar 37 v3))]) (Jq tau 0 Zo k)) (fun x0 x1 => k (Ex.exit 2) (Jc Zo N36 [.ptr 608 [], .ptr 609 []] [(608, .box false 37 (PV.ar 37 x0)), (609, .box false 37 (PV.ar 37 x1))])) v0 v1 v2 v3 := by kernel_rfl
theorem JjA (f : Nat) (k : Kont) : ∀ (n : Nat) (v0 : Int) (v1 v2 v3 : List PV), Jp tau 0 Ym (fun s k => ev tau F36 0 0 Jdo (Jga ) s k) n (Jc Ym N36 [.ptr 608 [], .ptr 609 [], .ptr 610 [], .sc (.int .i64 v0)] [(608, .box false 37 (PV.ar 37 v1)), (609, .box false 143 (PV.ar 143 v2)), (610, .box false 37 (PV.ar 37 v3))]) (Jq tau 0 Zo k) = Zq f (fun x0 x1 => k (Ex.exit 2) (Jc Zo N36 [.ptr 608 [], .ptr 609 []] [(608, .box false 37 (PV.ar 37 x0)), (609, .box false 37 (PV.ar 37 x1))])) n v0 v1 v2 v3 | 0, _, _, _, _ => rfl | n + 1, v0, v1, v2, v3 => (Jpo f k n v0 v1 v2 v3).trans (congrArg (fun r => Gm f r (fun x0 x1 => k (Ex.exit 2) (Jc Zo N36 [.ptr 608 [], .ptr 609 []] [(608, .box false 37 (PV.ar 37 x0)), (609, .box false 37 (PV.ar 37 x1))])) v0 v1 v2 v3) (by funext v0 v1 v2 v3; exact JjA f k n v0 v1 v2 v3))
def Jb6 (f : Nat) : List PV -> List (Nat × Ent) -> Kont -> Option Res
 | [.ptr 608 [], .ptr 609 [], .ptr 610 [],
 PV.sc
  (Value.int IntKind.i64
   v0)], [(608, .box false 37 (PV.ar 37 v1)), (609, .box false 143 (PV.ar 143 v2)),
 (610,
  Ent.box false 37
   (PV.ar 37
    v3))], k => Zq f (fun x0 x1 => k (Ex.exit 2) (Jc Zo N36 [.ptr 608 [], .ptr 609 []] [(608, .box false 37 (PV.ar 37 x0)), (609, .box false 37 (PV.ar 37 x1))])) f v0 v1 v2 v3
 | _, _, _ => none
theorem Jua (f : Nat) : Je Jdo Jga = [] := by kernel_rfl
theorem Jyr (f : Nat) : (Item.l Jdo Ym N36 (Jb6 f)).Ok tau Try.prog 0 := JJ Jr Jh4 Js (x := Jga) (nm2 := Zo) (Jk _ _ (by rw [Jua f]; intro q hq; cases hq)) fun vs hp k res hr => by
 unfold Jb6 at hr
 split at hr
 · exact ⟨f, 0, (JjA f _ f _ _ _ _ ).trans hr⟩
 · cases hr
def g36 (f : Nat) (nl fl : Bool) (l : List PV) (k : Res -> Option Res) : Option Res := bif l.all (PV.isRo 5) && (decide ((Jw l).length <= 140737488355328) && decide (l.length <= 140737488355328)) then bif Jl IntKind.u8 (Jw l) && (decide ((Jw l).length = (Jw l).length) && decide ((Jw l).length <= 140737488355000)) then Zp f (fun x0_0 x1_0 => Zq f (fun x0_1 x1_1 => k (Res.mk (.ar 37 x1_1) [] [])) f (0) x0_0 x1_0 ([.sc (.int .u8 0), .sc (.int .u8 0), .sc (.int .u8 0), .sc (.int .u8 0), .sc (.int .u8 0), .sc (.int .u8 0), .sc (.int .u8 0), .sc (.int .u8 0), .sc (.int .u8 0), .sc (.int .u8 0), .sc (.int .u8 0), .sc (.int .u8 0), .sc (.int .u8 0), .sc (.int .u8 0), .sc (.int .u8 0), .sc (.int .u8 0), .sc (.int .u8 0), .sc (.int .u8 0), .sc (.int .u8 0), .sc (.int .u8 0), .sc (.int .u8 0), .sc (.int .u8 0), .sc (.int .u8 0), .sc (.int .u8 0), .sc (.int .u8 0), .sc (.int .u8 0), .sc (.int .u8 0), .sc (.int .u8 0), .sc (.int .u8 0), .sc (.int .u8 0), .sc (.int .u8 0), .sc (.int .u8 0)])) f (List.take (QA (Ju (Jw l))).length (pu IntKind.u8 (QA (Ju (Jw l))))) ([.sc (.int .u8 0), .sc (.int .u8 0), .sc (.int .u8 0), .sc (.int .u8 0), .sc (.int .u8 0), .sc (.int .u8 0), .sc (.int .u8 0), .sc (.int .u8 0), .sc (.int .u8 0), .sc (.int .u8 0), .sc (.int .u8 0), .sc (.int .u8 0), .sc (.int .u8 0), .sc (.int .u8 0), .sc (.int .u8 0), .sc (.int .u8 0), .sc (.int .u8 0), .sc (.int .u8 0), .sc (.int .u8 0), .sc (.int .u8 0), .sc (.int .u8 0), .sc (.int .u8 0), .sc (.int .u8 0), .sc (.int .u8 0), .sc (.int .u8 0), .sc (.int .u8 0), .sc (.int .u8 0), .sc (.int .u8 0), .sc (.int .u8 0), .sc (.int .u8 0), .sc (.int .u8 0), .sc (.int .u8 0)]) ([.sc (.int .u32 1779033703), .sc (.int .u32 3144134277), .sc (.int .u32 1013904242), .sc (.int .u32 2773480762), .sc (.int .u32 1359893119), .sc (.int .u32 2600822924), .sc (.int .u32 528734635), .sc (.int .u32 1541459225)]) else none else none
theorem e36 (f : Nat) (nl fl : Bool) (l : List PV) (k : Res -> Option Res) : JM tau F36 Try.f36 (Try.f36.body.get!) (Jpm (Jb5 f) (Jb6 f)) [] 0 [.ro 29 nl fl l] [] k = g36 f nl fl l k := by kernel_rfl
theorem JCr (f : Nat) : Je (Try.f36.body.get!) (Jpm (Jb5 f) (Jb6 f)) = [.l Jdn Yl N36 (Jb5 f), .l Jdo Ym N36 (Jb6 f)] := by kernel_rfl
theorem JCs (f : Nat) : ∀ q ∈ Je (Try.f36.body.get!) (Jpm (Jb5 f) (Jb6 f)), q.Ok tau Try.prog 0 := by
 rw [JCr f]; simp only [List.forall_mem_cons, List.not_mem_nil, false_implies, implies_true, and_true]; exact ⟨Jyq f, Jyr f⟩
theorem Jys : Try.prog.funcs[36]? = some Try.f36 := by kernel_rfl
theorem Jyt : Try.f36.body = some (Try.f36.body.get!) := by kernel_rfl
theorem Jyu : Enters Try.prog 36 := enters_of Jys (by kernel_rfl) Jyt
-- FN sha.Sum
theorem Jdp : iv.length = 8 := rfl
theorem JrU (P : List Int) (m : Nat) (hP : P.length = 64 * m) (f : Nat) (k0 : List PV -> List PV -> Option Res) (a : List PV) : ∀ (d i n : Nat), i + d = m -> d < n ->
  Zp f k0 n (pu .u8 (P.drop (64 * i))) a (pu .u32 (Xb iv P i)) = k0 a (pu .u32 (Xb iv P m))
 | 0, i, n + 1, h, hn => by
   obtain rfl : i = m := by omega
   have hl : (P.drop (64 * i)).length = 0 := by rw [List.length_drop]; omega
   simp only [Zp, Gl, JD, hl]
   exact Jj (by decide)
 | d + 1, i, n + 1, h, hn => by
   have hl : 64 <= (P.drop (64 * i)).length := by rw [List.length_drop]; omega
   have hf := WD iv P Jdp i
   simp only [Zp, Gl, JD, Xk, JN, hf, Q0]
   refine (Ja (by simp; omega)).trans ?_
   refine (Ja (by simp at hl ⊢; omega)).trans ?_
   refine (Ja (by simp at hl ⊢; omega)).trans ?_
   refine (Ja (by simp at hl ⊢; omega)).trans ?_
   rw [List.take_of_length_le (Nat.le_refl _), JiX, List.drop_drop]
   have := JrU P m hP f k0 a d (i + 1) n (by omega) (by omega)
   rw [show 64 * i + 64 = 64 * (i + 1) from by omega]
   exact this
theorem JrV (s : List Int) (hs : s.length = 8) (f : Nat) (k0 : List PV -> List PV -> Option Res) (a : List PV) (t : List Int) (ht : t.length = 32) : ∀ (d i n : Nat), i + d = 32 -> d < n ->
  Zq f k0 n (i : Int) a (pu .u32 s) (pu .u8 (Qu (YN s) t i)) = k0 a (pu .u8 (JlX s))
 | 0, i, n + 1, h, hn => by
   obtain rfl : i = 32 := by omega
   simp only [Zq, Gm]
   refine (Jj (by decide)).trans ?_
   have := Wc (YN s) t
   rw [ht] at this; rw [this]; rfl
 | d + 1, i, n + 1, h, hn => by
   have e1 : ((i : Int)).tdiv 4 = ((i / 4 : Nat) : Int) := by rw [Int.tdiv_eq_ediv_of_nonneg (by omega)]; omega
   have e2 : ((i : Int)).tmod 4 = ((i % 4 : Nat) : Int) := by rw [Int.tmod_eq_emod_of_nonneg (by omega)]; omega
   have h1 : IntKind.i64.wrap ((i : Int) + 1) = ((i + 1 : Nat) : Int) := by rw [wrap_i64 (by omega) (by omega)]; omega
   have h2 : IntKind.i64.wrap ((i / 4 : Nat) : Int) = ((i / 4 : Nat) : Int) := wrap_i64 (by omega) (by omega)
   have h3 : IntKind.i64.wrap (8 * ((i % 4 : Nat) : Int)) = 8 * ((i % 4 : Nat) : Int) := wrap_i64 (by omega) (by omega)
   have h4 : IntKind.i64.wrap (24 - 8 * ((i % 4 : Nat) : Int)) = 24 - 8 * ((i % 4 : Nat) : Int) := wrap_i64 (by omega) (by omega)
   have g1 : ((i : Int)).toNat = i := by omega
   have g2 : (((i / 4 : Nat) : Int)).toNat = i / 4 := by omega
   have c0 : decide ((i : Int) < 32) = true := by simp; omega
   have c1 : (decide (0 <= ((i / 4 : Nat) : Int)) && decide (((i / 4 : Nat) : Int) < zi 8) && true) = true := by simp; omega
   have c2 : (decide (0 <= 24 - 8 * ((i % 4 : Nat) : Int)) && true) = true := by simp; omega
   have c3 : (decide (0 <= (i : Int)) && decide ((i : Int) < zi 32) && true) = true := by simp; omega
   simp only [Zq, Gm, e1, e2, h1, h2, h3, h4, g1, g2, Xl, c0, c1, c2, c3, Zk hs (i / 4) (by omega), PV.isInt, PV.int, decide_true, Bool.and_true, cond_true, W8]
   have := JrV s hs f k0 a t ht d (i + 1) n (by omega) (by omega)
   rw [← Qr (YN s) t i (by omega)] at this
   exact this
theorem Jub (nl fl : Bool) (l : List PV) (k : Res -> Option Res) (hl : l.all (PV.isRo 5) = true) (hn : l.length <= 140737488355328) (hi : Jl .u8 (Jw l) = true) (hs : (Jw l).length <= 140737488355000) :
  g36 ((QA (Ju (Jw l))).length / 64 + 100) nl fl l k = k ⟨.ar 37 (pu .u8 (JL (Ju (Jw l)))), [], []⟩ := by
 refine (Ja (by simp only [hl, Bool.true_and, Bool.and_eq_true, decide_eq_true_eq]; omega)).trans ?_
 refine (Ja (by simp only [hi, Bool.true_and, Bool.and_eq_true, decide_eq_true_eq, true_and]; exact hs)).trans ?_
 rw [Xk, List.take_of_length_le (Nat.le_refl _)]
 generalize hP : QA (Ju (Jw l)) = P
 have hlen : P.length = 64 * (P.length / 64) := by rw [← hP]; exact JaE _
 have h0 : ∀ k0 a, Zp (P.length / 64 + 100) k0 (P.length / 64 + 100) (pu .u8 P) a (pu .u32 iv) = k0 a (pu .u32 (Xb iv P (P.length / 64))) := fun k0 a => JrU P (P.length / 64) hlen _ k0 a (P.length / 64) 0 _ (by omega) (by omega)
 have h1 : ∀ k0 a s, s.length = 8 -> Zq (P.length / 64 + 100) k0 (P.length / 64 + 100) 0 a (pu .u32 s) (pu .u8 (List.replicate 32 0)) = k0 a (pu .u8 (JlX s)) := by
  intro k0 a s hs
  have := JrV s hs (P.length / 64 + 100) k0 a (List.replicate 32 0) (by simp) 32 0 (P.length / 64 + 100) (by omega) (by omega)
  rw [QO] at this
  exact this
 refine (h0 _ _).trans ((h1 _ _ _ (WD iv P Jdp _)).trans ?_)
 rw [Jbc, Jjd, hP]
def Jh5 : List PV -> List Ent -> (Res -> Option Res) -> Option Res
 | [.ro 29 nl fl l], [], k => bif (l.all (PV.isRo 5) && decide (l.length <= 140737488355328)) && (Jl .u8 (Jw l) && decide ((Jw l).length <= 140737488355000)) then k ⟨.ar 37 (pu .u8 (JL (Ju (Jw l)))), [], []⟩ else none
 | _, _, _ => none
def Juc : Sig := { own := [], run := Jh5 }
theorem JrW : Jh tau Try.prog 36 Juc := Jek Jr Jh4 Js Jys Jyt (fun n => Jpm (Jb5 n) (Jb6 n)) [] 0 [] Jh5 (fun n => JCs n) fun xs es k res hr => by
 unfold Jh5 at hr
 split at hr
 · rename_i nl fl l
   obtain ⟨hc, hr⟩ := JI hr
   simp only [Bool.and_eq_true, decide_eq_true_eq] at hc
   refine ⟨rfl, (QA (Ju (Jw l))).length / 64 + 100, 0, (e36 _ _ _ _ _).trans ?_⟩
   rw [Jub nl fl l k hc.1.1 hc.1.2 hc.2.1 hc.2.2]; exact hr
 · cases hr
def F13 : Fns := JG 36 Juc (JG 35 Jxu (F0))
theorem Jud : Jy tau Try.prog F13 := ((JE).add JrD Jtp).add JrW Jyu
def Jue : Nm := [(2, .any), (3, .any), (4, .any), (5, .any), (22, .any), (23, .any), (24, .any)]
def QV : An := (.seq .leaf (.seq (.cond .leaf .leaf) (.seq (.block none (.seq .leaf .leaf)) .leaf)))
def Jpp : An := (.seq .leaf (.seq .leaf (.seq (.seq .leaf (.block none (.loop Jue QV))) (.seq .leaf .leaf))))
def g13 (f : Nat) (y0 id_N y1 y2 : Int) (k : Res -> Option Res) : Option Res := bif (fTo FloatKind.f64 (fOf FloatKind.f64 y0)).isSome && decide (Int.negSucc 9223372036854775807 <= (fTo FloatKind.f64 (fOf FloatKind.f64 y0)).getD 0) && decide ((fTo FloatKind.f64 (fOf FloatKind.f64 y0)).getD 0 <= Int.ofNat (2 ^ (IntKind.i64.bits - 1) - Nat.succ 0)) && true then bif (fTo FloatKind.f64 (fOf FloatKind.f64 id_N)).isSome && decide (Int.negSucc 9223372036854775807 <= (fTo FloatKind.f64 (fOf FloatKind.f64 id_N)).getD 0) && decide ((fTo FloatKind.f64 (fOf FloatKind.f64 id_N)).getD 0 <= Int.ofNat (2 ^ (IntKind.i64.bits - 1) - Nat.succ 0)) && true then bif slB false (pu IntKind.u8 (JT ((fTo FloatKind.f64 (fOf FloatKind.f64 y0)).getD 0))) then bif (fTo FloatKind.f64 (fOf FloatKind.f64 y1)).isSome && decide (Int.negSucc 9223372036854775807 <= (fTo FloatKind.f64 (fOf FloatKind.f64 y1)).getD 0) && decide ((fTo FloatKind.f64 (fOf FloatKind.f64 y1)).getD 0 <= Int.ofNat (2 ^ (IntKind.i64.bits - 1) - Nat.succ 0)) && true then bif slB false (pu IntKind.u8 (JT ((fTo FloatKind.f64 (fOf FloatKind.f64 y0)).getD 0)) ++ pu IntKind.u8 (JT ((fTo FloatKind.f64 (fOf FloatKind.f64 id_N)).getD 0))) then bif (fTo FloatKind.f64 (fOf FloatKind.f64 y2)).isSome && decide (Int.negSucc 9223372036854775807 <= (fTo FloatKind.f64 (fOf FloatKind.f64 y2)).getD 0) && decide ((fTo FloatKind.f64 (fOf FloatKind.f64 y2)).getD 0 <= Int.ofNat (2 ^ (IntKind.i64.bits - 1) - Nat.succ 0)) && true then bif slB false (pu IntKind.u8 (JT ((fTo FloatKind.f64 (fOf FloatKind.f64 y0)).getD 0)) ++ pu IntKind.u8 (JT ((fTo FloatKind.f64 (fOf FloatKind.f64 id_N)).getD 0)) ++ pu IntKind.u8 (JT ((fTo FloatKind.f64 (fOf FloatKind.f64 y1)).getD 0))) then bif Jl IntKind.u8 (Jw [.ro 5 false false (pu IntKind.u8 (JT ((fTo FloatKind.f64 (fOf FloatKind.f64 y0)).getD 0)) ++ pu IntKind.u8 (JT ((fTo FloatKind.f64 (fOf FloatKind.f64 id_N)).getD 0)) ++ pu IntKind.u8 (JT ((fTo FloatKind.f64 (fOf FloatKind.f64 y1)).getD 0)) ++ pu IntKind.u8 (JT ((fTo FloatKind.f64 (fOf FloatKind.f64 y2)).getD 0)))]) && decide ((Jw [.ro 5 false false (pu IntKind.u8 (JT ((fTo FloatKind.f64 (fOf FloatKind.f64 y0)).getD 0)) ++ pu IntKind.u8 (JT ((fTo FloatKind.f64 (fOf FloatKind.f64 id_N)).getD 0)) ++ pu IntKind.u8 (JT ((fTo FloatKind.f64 (fOf FloatKind.f64 y1)).getD 0)) ++ pu IntKind.u8 (JT ((fTo FloatKind.f64 (fOf FloatKind.f64 y2)).getD 0)))]).length <= 140737488355000) then k (Res.mk (.st 39 [.st 34 [.sc (.int .i64 y0), .sc (.int .i64 id_N)], .sc (.string (ByteArray.mk #[])), .ro 42 false false [.st 42 [.sc (.int .i64 y1), .sc (.int .i64 y2)]], .sc (.int .i64 0), .ar 37 (pu IntKind.u8 (JL (Ju (Jw [.ro 5 false false (pu IntKind.u8 (JT ((fTo FloatKind.f64 (fOf FloatKind.f64 y0)).getD 0)) ++ pu IntKind.u8 (JT ((fTo FloatKind.f64 (fOf FloatKind.f64 id_N)).getD 0)) ++ pu IntKind.u8 (JT ((fTo FloatKind.f64 (fOf FloatKind.f64 y1)).getD 0)) ++ pu IntKind.u8 (JT ((fTo FloatKind.f64 (fOf FloatKind.f64 y2)).getD 0)))]))))]) [] []) else none else none else none else none else none else none else none else none
theorem e13 (f : Nat) (y0 id_N y1 y2 : Int) (k : Res -> Option Res) : JM tau F13 Try.f13 (Try.f13.body.get!) Jpp [.ro] 4 [.st 34 [.sc (.int .i64 y0), .sc (.int .i64 id_N)], .st 42 [.sc (.int .i64 y1), .sc (.int .i64 y2)]] [] k = g13 f y0 id_N y1 y2 k := by kernel_rfl
theorem JCt (f : Nat) : Je (Try.f13.body.get!) Jpp = [] := by kernel_rfl
theorem JCu (f : Nat) : ∀ q ∈ Je (Try.f13.body.get!) Jpp, q.Ok tau Try.prog 0 := by
 rw [JCt f]; intro q hq; cases hq
theorem Jyv : Try.prog.funcs[13]? = some Try.f13 := by kernel_rfl
theorem Jyw : Try.f13.body = some (Try.f13.body.get!) := by kernel_rfl
theorem JCv : Enters Try.prog 13 := enters_of Jyv (by kernel_rfl) Jyw
-- FN wavelet.New
theorem Jpq : (List.range 128).all (fun i => fTo .f64 (fOf .f64 (i : Int)) == some (i : Int)) = true := by kernel_rfl
theorem ZW {x : Int} (h0 : 0 <= x) (h1 : x < 128) : fTo .f64 (fOf .f64 x) = some x := by
 have := List.all_eq_true.1 Jpq x.toNat (List.mem_range.2 (by omega))
 rw [show ((x.toNat : Nat) : Int) = x from by omega] at this
 simpa using this
structure Nw4 where
 (a b c d : Int)
def Jb7 : Nw4 -> Bool := hid fun x => (decide (0 <= x.a) && decide (x.a < 128)) && (decide (0 <= x.b) && decide (x.b < 128)) && (decide (0 <= x.c) && decide (x.c < 128)) && (decide (0 <= x.d) && decide (x.d < 128))
def Jmh (x : Nw4) : List Int := JT x.a ++ JT x.b ++ JT x.c ++ JT x.d
def Jpr : Nw4 -> List Int := hid fun x => JL (Jmh x)
theorem Jps (x : Nw4) : Jpr x = JL (Jmh x) := by rw [Jpr, hid_eq]
def wnP (h n d u : Int) (s : List Int) : PV := .st 39 [.st 34 [.sc (.int .i64 h), .sc (.int .i64 n)], .sc (.string (ByteArray.mk #[])), .ro 42 false false [.st 42 [.sc (.int .i64 d), .sc (.int .i64 u)]], .sc (.int .i64 0), .ar 37 (pu .u8 s)]
theorem Juf (h n d u : Int) (hs : Jb7 ⟨h, n, d, u⟩ = true) (k : Res -> Option Res) : g13 0 h n d u k = k ⟨wnP h n d u (Jpr ⟨h, n, d, u⟩), [], []⟩ := by
 rw [Jb7, hid_eq] at hs
 simp only [Bool.and_eq_true, decide_eq_true_eq] at hs
 have c : ∀ x : Int, 0 <= x -> x < 128 -> (decide (Int.negSucc 9223372036854775807 <= x) && decide (x <= Int.ofNat (2 ^ (IntKind.i64.bits - 1) - Nat.succ 0))) = true := by
   intro x h0 h1
   have e1 : Int.ofNat (2 ^ (IntKind.i64.bits - 1) - Nat.succ 0) = 9223372036854775807 := by decide
   rw [e1]; simp; omega
 have c1 : ∀ x : Int, 0 <= x -> x < 128 -> decide (Int.negSucc 9223372036854775807 <= x) = true := fun x h0 h1 => by have := c x h0 h1; simp only [Bool.and_eq_true] at this; exact this.1
 have c2 : ∀ x : Int, 0 <= x -> x < 128 -> decide (x <= Int.ofNat (2 ^ (IntKind.i64.bits - 1) - Nat.succ 0)) = true := fun x h0 h1 => by have := c x h0 h1; simp only [Bool.and_eq_true] at this; exact this.2
 rw [Jps]
 unfold g13
 simp only [ZW hs.1.1.1.1 hs.1.1.1.2, ZW hs.1.1.2.1 hs.1.1.2.2, ZW hs.1.2.1 hs.1.2.2, ZW hs.2.1 hs.2.2, Option.isSome_some, Option.getD_some, c1 _ hs.1.1.1.1 hs.1.1.1.2, c1 _ hs.1.1.2.1 hs.1.1.2.2, c1 _ hs.1.2.1 hs.1.2.2, c1 _ hs.2.1 hs.2.2, c2 _ hs.1.1.1.1 hs.1.1.1.2, c2 _ hs.1.1.2.1 hs.1.1.2.2, c2 _ hs.1.2.1 hs.1.2.2, c2 _ hs.2.1 hs.2.2,
   Q0, JN, JD, WX, V9, PV.els, List.append_nil, List.nil_append, List.length_append, Wr, Bool.and_true, Bool.true_and, cond_true, Nat.reduceAdd, Nat.reduceLeDiff, decide_true]
 have sl : ∀ l : List PV, l.length <= 1000 -> slB false l = true := fun l h => WA.2 ⟨fun h => (by cases h), by omega⟩
 refine (Ja (sl _ (by simp))).trans ((Ja (sl _ (by simp))).trans ((Ja (sl _ (by simp))).trans ((Ja ?_).trans ?_)))
 · simp only [QF, JN]; rfl
 simp only [← JQ, Q0]
 rfl
def Jh6 : List PV -> List Ent -> (Res -> Option Res) -> Option Res
 | [.st 34 [.sc (.int .i64 h), .sc (.int .i64 n)], .st 42 [.sc (.int .i64 d), .sc (.int .i64 u)]], [], k => bif Jb7 ⟨h, n, d, u⟩ then k ⟨.st 39 [.st 34 [.sc (.int .i64 h), .sc (.int .i64 n)], .sc (.string (ByteArray.mk #[])), .ro 42 false false [.st 42 [.sc (.int .i64 d), .sc (.int .i64 u)]], .sc (.int .i64 0), .ar 37 (pu .u8 (Jpr ⟨h, n, d, u⟩))], [], []⟩ else none
 | _, _, _ => none
def Jyx : Sig := { own := [], run := Jh6 }
theorem Jyy : Jh tau Try.prog 13 Jyx := Jh.mk' fun xs es k res hl hr => by
 change Jh6 xs es k = some res at hr
 unfold Jh6 at hr
 split at hr
 · rename_i h n d u
   obtain ⟨hc, hr2⟩ := JI hr
   exact Qk Jr Jud Js Jyv Jyw Jpp [.ro] 0 4 (JCu 0) hl rfl ((e13 0 h n d u k).trans ((Juf h n d u hc k).trans hr2))
 · cases hr
def F9 : Fns := JG 13 Jyx (F0)
theorem Jyz : Jy tau Try.prog F9 := (JE).add Jyy JCv
def an9 : An := (.seq .leaf (.seq .leaf (.seq .leaf .leaf)))
def g9 (f : Nat) (k : Res -> Option Res) : Option Res := bif Jb7 (Nw4.mk 1 0 1 2) then k (Res.mk (.sc (.bool true)) [] []) else none
theorem e9 (f : Nat) (k : Res -> Option Res) : JM tau F9 Try.f9 (Try.f9.body.get!) an9 [.ro] 0 [] [] k = g9 f k := by kernel_rfl
theorem it9 (f : Nat) : Je (Try.f9.body.get!) an9 = [] := by kernel_rfl
theorem ia9 (f : Nat) : ∀ q ∈ Je (Try.f9.body.get!) an9, q.Ok tau Try.prog 0 := by
 rw [it9 f]; intro q hq; cases hq
theorem fo9 : Try.prog.funcs[9]? = some Try.f9 := by kernel_rfl
theorem bo9 : Try.f9.body = some (Try.f9.body.get!) := by kernel_rfl
theorem en9 : Enters Try.prog 9 := enters_of fo9 (by kernel_rfl) bo9
def Jug : List PV -> List Ent -> (Res -> Option Res) -> Option Res
 | [], [], k => g9 0  k
 | _, _, _ => none
def s9 : Sig := { own := [], run := Jug }
theorem ok9 : Jh tau Try.prog 9 s9 := JW Jr Jyz Js fo9 bo9 an9 [.ro] 0 [] Jug (ia9 0) fun xs es k res hr => by
 unfold Jug at hr
 split at hr
 · exact ⟨rfl, 0, (e9 0  _).trans hr⟩
 · cases hr
def F65 : Fns := JG 76 Jwo (F0)
theorem Juh : Jy tau Try.prog F65 := (JE).add Jwp JBw
def Jpt : An := (.seq .leaf (.seq .leaf .leaf))
def g65 (f : Nat) (b_z b_f : Bool) (b : List PV) (k : Res -> Option Res) : Option Res := bif slB b_z b then k (Res.mk (.ptr 16 []) [] [.box false 166 (PV.st 166 [.ro 5 b_z b_z b, .sc (.int .i64 0)])]) else none
theorem e65 (f : Nat) (b_z b_f : Bool) (b : List PV) (k : Res -> Option Res) : JM tau F65 Try.f65 (Try.f65.body.get!) Jpt [.any] 0 [.ro 5 b_z b_f b] [] k = g65 f b_z b_f b k := by kernel_rfl
theorem JCw (f : Nat) : Je (Try.f65.body.get!) Jpt = [] := by kernel_rfl
theorem JCx (f : Nat) : ∀ q ∈ Je (Try.f65.body.get!) Jpt, q.Ok tau Try.prog 0 := by
 rw [JCw f]; intro q hq; cases hq
theorem JyA : Try.prog.funcs[65]? = some Try.f65 := by kernel_rfl
theorem JyB : Try.f65.body = some (Try.f65.body.get!) := by kernel_rfl
theorem JyC : Enters Try.prog 65 := enters_of JyA (by kernel_rfl) JyB
def Jmi : List PV -> List Ent -> (Res -> Option Res) -> Option Res
 | [.ro 5 b_z b_f b], [], k => g65 0 b_z b_f b k
 | _, _, _ => none
def s65 : Sig := { own := [], run := Jmi }
theorem JyD : Jh tau Try.prog 65 s65 := JW Jr Juh Js JyA JyB Jpt [.any] 0 [] Jmi (JCx 0) fun xs es k res hr => by
 unfold Jmi at hr
 split at hr
 · exact ⟨rfl, 0, (e65 0 _ _ _  _).trans hr⟩
 · cases hr
def F67 : Fns := F0
theorem Jui : Jy tau Try.prog F67 := JE
def Jpu : An := (.seq .leaf (.seq (.seq .leaf (.cond (.seq .leaf .leaf) .leaf)) (.seq .leaf .leaf)))
def g67 (f : Nat) (y0 y1 : Bool) (r_b : List PV) (r_e : Int) (k : Res -> Option Res) : Option Res := bif r_e == 0 then bif decide (zi r_b.length > 0) then k (Res.mk (.sc (.int .i64 9)) [.box false 166 (PV.st 166 [.ro 5 y0 y1 r_b, .sc (.int .i64 r_e)])] []) else k (Res.mk (.sc (.int .i64 r_e)) [.box false 166 (PV.st 166 [.ro 5 y0 y1 r_b, .sc (.int .i64 r_e)])] []) else k (Res.mk (.sc (.int .i64 r_e)) [.box false 166 (PV.st 166 [.ro 5 y0 y1 r_b, .sc (.int .i64 r_e)])] [])
theorem e67 (f : Nat) (y0 y1 : Bool) (r_b : List PV) (r_e : Int) (k : Res -> Option Res) : JM tau F67 Try.f67 (Try.f67.body.get!) Jpu [.ro] 0 [.ptr 0 []] [.box false 166 (.st 166 [.ro 5 y0 y1 r_b, .sc (.int .i64 r_e)])] k = g67 f y0 y1 r_b r_e k := by kernel_rfl
theorem JCy (f : Nat) : Je (Try.f67.body.get!) Jpu = [] := by kernel_rfl
theorem JCz (f : Nat) : ∀ q ∈ Je (Try.f67.body.get!) Jpu, q.Ok tau Try.prog 1 := by
 rw [JCy f]; intro q hq; cases hq
theorem JyE : Try.prog.funcs[67]? = some Try.f67 := by kernel_rfl
theorem JyF : Try.f67.body = some (Try.f67.body.get!) := by kernel_rfl
theorem JyG : Enters Try.prog 67 := enters_of JyE (by kernel_rfl) JyF
def Jmj : List PV -> List Ent -> (Res -> Option Res) -> Option Res
 | [.ptr 0 []], [.box false 166 (.st 166 [.ro 5 y0 y1 r_b, .sc (.int .i64 r_e)])], k => g67 0 y0 y1 r_b r_e k
 | _, _, _ => none
def s67 : Sig := { own := [], run := Jmj }
theorem JyH : Jh tau Try.prog 67 s67 := JW Jr Jui Js JyE JyF Jpu [.ro] 1 [] Jmj (JCz 0) fun xs es k res hr => by
 unfold Jmj at hr
 split at hr
 · exact ⟨rfl, 0, (e67 0 _ _ _ _  _).trans hr⟩
 · cases hr
def JyI : Fns := F0
theorem Jpv : Jy tau Try.prog JyI := JE
def JjB : An := (.seq .leaf (.seq (.seq .leaf (.cond (.seq .leaf .leaf) .leaf)) (.seq .leaf .leaf)))
def JyJ (f : Nat) (s_z s_f : Bool) (s : List PV) (k : Res -> Option Res) : Option Res := bif s_z then k (Res.mk (.ro 113 true true []) [] []) else bif Jf (0 + s.length) 32 && true then k (Res.mk (.ro 113 false false (List.take (0 + s.length) s)) [] []) else none
theorem JCA (f : Nat) (s_z s_f : Bool) (s : List PV) (k : Res -> Option Res) : JM tau JyI Try.f120 (Try.f120.body.get!) JjB [.ro] 0 [.ro 113 s_z s_f s] [] k = JyJ f s_z s_f s k := by kernel_rfl
theorem JyK (f : Nat) : Je (Try.f120.body.get!) JjB = [] := by kernel_rfl
theorem JyL (f : Nat) : ∀ q ∈ Je (Try.f120.body.get!) JjB, q.Ok tau Try.prog 0 := by
 rw [JyK f]; intro q hq; cases hq
theorem JrX : Try.prog.funcs[120]? = some Try.f120 := by kernel_rfl
theorem JrY : Try.f120.body = some (Try.f120.body.get!) := by kernel_rfl
theorem JyM : Enters Try.prog 120 := enters_of JrX (by kernel_rfl) JrY
def Jh7 : List PV -> List Ent -> (Res -> Option Res) -> Option Res
 | [.ro 113 s_z s_f s], [], k => JyJ 0 s_z s_f s k
 | _, _, _ => none
def JyN : Sig := { own := [], run := Jh7 }
theorem JyO : Jh tau Try.prog 120 JyN := JW Jr Jpv Js JrX JrY JjB [.ro] 0 [] Jh7 (JyL 0) fun xs es k res hr => by
 unfold Jh7 at hr
 split at hr
 · exact ⟨rfl, 0, (JCA 0 _ _ _  _).trans hr⟩
 · cases hr
def N84 : Nat := 50
def F84 : Fns := JG 120 JyN (JG 107 JsW (JG 88 Joj (JG 83 Js4 (JG 82 s82 (JG 81 s81 (JG 67 s67 (JG 65 s65 (F0))))))))
theorem Jmk : Jy tau Try.prog F84 := ((((((((JE).add JyD JyC).add JyH JyG).add Jwe Jwd).add Jwi Jwh).add Jrf Jwl).add Jlu JsR).add Jq9 Jq8).add JyO JyM
def Jdq : Code := Qj (Try.f84.body.get!) [1, 1, 1, 1, 1, 1, 0, 1, 0, 0]
def Yn : Nm := [(4, .any), (5, .any), (6, .any), (7, .any), (9, .own), (25, .any), (26, .any)]
def Zr : Nm := [(4, .any), (9, .any)]
def Jgb : An := (.seq .leaf (.seq (.cond .leaf .leaf) (.seq (.block none .leaf) .leaf)))
def Jpw (r0 : QC) : An := (.seq .leaf (.seq .leaf (.seq .leaf (.seq .leaf (.seq (.seq .leaf (.cond (.seq .leaf .leaf) .leaf)) (.seq .leaf (.seq (.seq .leaf (.block none (.sum Yn N84 r0))) (.seq .leaf (.seq (.seq .leaf (.cond .leaf .leaf)) (.seq (.seq .leaf (.cond (.seq .leaf .leaf) .leaf)) (.seq .leaf .leaf)))))))))))
def Gn (f : Nat) (rc : Nat -> Int -> Int -> Bool -> Bool -> List PV -> Int -> Bool -> List PV -> Option Res) (k0 : Nat -> Bool -> Bool -> List PV -> Int -> Bool -> List PV -> Option Res) (v0 : Nat) (v1 v2 : Int) (v3 v4 : Bool) (v5 : List PV) (v6 : Int) (v7 : Bool) (v8 : List PV) : Option Res := bif decide (v2 < v1) then bif (!v3 || v4) && true && byB v5 then bif (!v3 || v4) && true && byB (Jb 1 (RS.mk v5 v6)).b then bif (!v3 || v4) && byB (Jb 8 (Jb 1 (RS.mk v5 v6))).b then bif Jf (v0 + 1) 32 && true then rc (v0 + 1) v1 (IntKind.i64.wrap (v2 + 1)) v3 v4 ((J2 (Jb 8 (Jb 1 (RS.mk v5 v6)))).b) ((J2 (Jb 8 (Jb 1 (RS.mk v5 v6)))).e) (v7 && false) (List.take v0 v8 ++ [.st 113 [.sc (.int .i64 (JB 1 (RS.mk v5 v6))), .sc (.int .i64 (JB 8 (Jb 1 (RS.mk v5 v6)))), .sc (.string (JU (Jb 8 (Jb 1 (RS.mk v5 v6)))))]]) else none else none else none else none else k0 v0 v3 v4 v5 v6 v7 v8
def XF (f : Nat) (k0 : Nat -> Bool -> Bool -> List PV -> Int -> Bool -> List PV -> Option Res) : Nat -> Nat -> Int -> Int -> Bool -> Bool -> List PV -> Int -> Bool -> List PV -> Option Res
 | 0, _, _, _, _, _, _, _, _, _ => none
 | n + 1, v0, v1, v2, v3, v4, v5, v6, v7, v8 => Gn f (XF f k0 n) k0 v0 v1 v2 v3 v4 v5 v6 v7 v8
theorem Jpx (f : Nat) (k : Kont) (n v0 : Nat) (v1 v2 : Int) (v3 v4 : Bool) (v5 : List PV) (v6 : Int) (v7 : Bool) (v8 : List PV) : Jp tau 0 Yn (fun s k => ev tau F84 0 0 Jdq (Jgb ) s k) (n + 1) (Jc Yn N84 [.ptr 816 [], PV.fn (Fn.func 82) [.ptr 816 []] [], PV.fn (Fn.func 81) [.ptr 816 []] [], PV.fn (Fn.func 83) [.ptr 816 []] [], .ow 113 817 [] 0 v0 none, .sc (.int .i64 v1), .sc (.int .i64 v2)] [(816, .box false 166 (PV.st 166 [.ro 5 v3 v4 v5, .sc (.int .i64 v6)])), (817, .vec false 113 v7 v8)]) (Jq tau 0 Zr k) = Gn f (fun v0 v1 v2 v3 v4 v5 v6 v7 v8 => Jp tau 0 Yn (fun s k => ev tau F84 0 0 Jdq (Jgb ) s k) n (Jc Yn N84 [.ptr 816 [], PV.fn (Fn.func 82) [.ptr 816 []] [], PV.fn (Fn.func 81) [.ptr 816 []] [], PV.fn (Fn.func 83) [.ptr 816 []] [], .ow 113 817 [] 0 v0 none, .sc (.int .i64 v1), .sc (.int .i64 v2)] [(816, .box false 166 (PV.st 166 [.ro 5 v3 v4 v5, .sc (.int .i64 v6)])), (817, .vec false 113 v7 v8)]) (Jq tau 0 Zr k)) (fun x0 x1 x2 x3 x4 x5 x6 => k (Ex.exit 0) (Jc Zr N84 [.ptr 816 [], .ow 113 817 [] 0 x0 none] [(816, .box false 166 (PV.st 166 [.ro 5 x1 x2 x3, .sc (.int .i64 x4)])), (817, .vec false 113 x5 x6)])) v0 v1 v2 v3 v4 v5 v6 v7 v8 := by kernel_rfl
theorem JjC (f : Nat) (k : Kont) : ∀ (n v0 : Nat) (v1 v2 : Int) (v3 v4 : Bool) (v5 : List PV) (v6 : Int) (v7 : Bool) (v8 : List PV), Jp tau 0 Yn (fun s k => ev tau F84 0 0 Jdq (Jgb ) s k) n (Jc Yn N84 [.ptr 816 [], PV.fn (Fn.func 82) [.ptr 816 []] [], PV.fn (Fn.func 81) [.ptr 816 []] [], PV.fn (Fn.func 83) [.ptr 816 []] [], .ow 113 817 [] 0 v0 none, .sc (.int .i64 v1), .sc (.int .i64 v2)] [(816, .box false 166 (PV.st 166 [.ro 5 v3 v4 v5, .sc (.int .i64 v6)])), (817, .vec false 113 v7 v8)]) (Jq tau 0 Zr k) = XF f (fun x0 x1 x2 x3 x4 x5 x6 => k (Ex.exit 0) (Jc Zr N84 [.ptr 816 [], .ow 113 817 [] 0 x0 none] [(816, .box false 166 (PV.st 166 [.ro 5 x1 x2 x3, .sc (.int .i64 x4)])), (817, .vec false 113 x5 x6)])) n v0 v1 v2 v3 v4 v5 v6 v7 v8 | 0, _, _, _, _, _, _, _, _, _ => rfl | n + 1, v0, v1, v2, v3, v4, v5, v6, v7, v8 => (Jpx f k n v0 v1 v2 v3 v4 v5 v6 v7 v8).trans (congrArg (fun r => Gn f r (fun x0 x1 x2 x3 x4 x5 x6 => k (Ex.exit 0) (Jc Zr N84 [.ptr 816 [], .ow 113 817 [] 0 x0 none] [(816, .box false 166 (PV.st 166 [.ro 5 x1 x2 x3, .sc (.int .i64 x4)])), (817, .vec false 113 x5 x6)])) v0 v1 v2 v3 v4 v5 v6 v7 v8) (by funext v0 v1 v2 v3 v4 v5 v6 v7 v8; exact JjC f k n v0 v1 v2 v3 v4 v5 v6 v7 v8))
def Jb8 (f : Nat) : List PV -> List (Nat × Ent) -> Kont -> Option Res
 | [.ptr 816 [], PV.fn (Fn.func 82) [.ptr 816 []] [], PV.fn (Fn.func 81) [.ptr 816 []] [], PV.fn (Fn.func 83) [.ptr 816 []] [], .ow 113 817 [] 0 v0 none, .sc (.int .i64 v1),
 PV.sc
  (Value.int IntKind.i64
   v2)], [(816, .box false 166 (PV.st 166 [.ro 5 v3 v4 v5, .sc (.int .i64 v6)])),
 (817,
  Ent.vec false 113 v7
   v8)], k => XF f (fun x0 x1 x2 x3 x4 x5 x6 => k (Ex.exit
 0) (Jc Zr N84 [.ptr 816 [],
 PV.ow 113 817 [] 0 x0 none] [(816, .box false 166 (PV.st 166 [.ro 5 x1 x2 x3, .sc (.int .i64 x4)])), (817, .vec false 113 x5 x6)])) f v0 v1 v2 v3 v4 v5 v6 v7 v8
 | _, _, _ => none
theorem Juj (f : Nat) : Je Jdq Jgb = [] := by kernel_rfl
theorem Juk (f : Nat) : (Item.l Jdq Yn N84 (Jb8 f)).Ok tau Try.prog 0 := JJ Jr Jmk Js (x := Jgb) (nm2 := Zr) (Jk _ _ (by rw [Juj f]; intro q hq; cases hq)) fun vs hp k res hr => by
 unfold Jb8 at hr
 split at hr
 · exact ⟨f, 0, (JjC f _ f _ _ _ _ _ _ _ _ _ ).trans hr⟩
 · cases hr
def g84 (f : Nat) (b_z b_f : Bool) (b : List PV) (k : Res -> Option Res) : Option Res := bif slB b_z b then bif (!b_z || b_z) && true && byB b then bif decide (JB 1 (RS.mk b 0) > 40) then bif (Jb 1 (RS.mk b 0)).e == 0 then XF f (fun x0_0 x1_0 x2_0 x3_0 QI x5_0 x6_0 => bif QI == 0 then bif decide (zi x3_0.length > 0) then k (Res.mk (.tup [.ro 113 true true [], .sc (.int .i64 9)]) [] []) else bif QI == 0 then bif cOk (List.take x0_0 x6_0) then bif ckO (List.take x0_0 x6_0) != 0 then k (Res.mk (.tup [.ro 113 true true [], .sc (.int .i64 (ckO (List.take x0_0 x6_0)))]) [] []) else bif (Ent.vec false 113 x5_0 x6_0).nil then k (Res.mk (.tup [.ro 113 true true [], .sc (.int .i64 0)]) [] []) else bif Jf (0 + (List.take x0_0 x6_0).length) 32 && true then k (Res.mk (.tup [.ro 113 false false (List.take (0 + (List.take x0_0 x6_0).length) (List.take x0_0 x6_0)), .sc (.int .i64 0)]) [] []) else none else none else bif QI != 0 then k (Res.mk (.tup [.ro 113 true true [], .sc (.int .i64 QI)]) [] []) else bif (Ent.vec false 113 x5_0 x6_0).nil then k (Res.mk (.tup [.ro 113 true true [], .sc (.int .i64 0)]) [] []) else bif Jf (0 + (List.take x0_0 x6_0).length) 32 && true then k (Res.mk (.tup [.ro 113 false false (List.take (0 + (List.take x0_0 x6_0).length) (List.take x0_0 x6_0)), .sc (.int .i64 0)]) [] []) else none else bif QI == 0 then bif cOk (List.take x0_0 x6_0) then bif ckO (List.take x0_0 x6_0) != 0 then k (Res.mk (.tup [.ro 113 true true [], .sc (.int .i64 (ckO (List.take x0_0 x6_0)))]) [] []) else bif (Ent.vec false 113 x5_0 x6_0).nil then k (Res.mk (.tup [.ro 113 true true [], .sc (.int .i64 0)]) [] []) else bif Jf (0 + (List.take x0_0 x6_0).length) 32 && true then k (Res.mk (.tup [.ro 113 false false (List.take (0 + (List.take x0_0 x6_0).length) (List.take x0_0 x6_0)), .sc (.int .i64 0)]) [] []) else none else none else bif QI != 0 then k (Res.mk (.tup [.ro 113 true true [], .sc (.int .i64 QI)]) [] []) else bif (Ent.vec false 113 x5_0 x6_0).nil then k (Res.mk (.tup [.ro 113 true true [], .sc (.int .i64 0)]) [] []) else bif Jf (0 + (List.take x0_0 x6_0).length) 32 && true then k (Res.mk (.tup [.ro 113 false false (List.take (0 + (List.take x0_0 x6_0).length) (List.take x0_0 x6_0)), .sc (.int .i64 0)]) [] []) else none) f (0) (0) (0) b_z b_z ((Jb 1 (RS.mk b 0)).b) (4) true ([]) else XF f (fun x0_1 x1_1 x2_1 x3_1 Wf x5_1 x6_1 => bif Wf == 0 then bif decide (zi x3_1.length > 0) then k (Res.mk (.tup [.ro 113 true true [], .sc (.int .i64 9)]) [] []) else bif Wf == 0 then bif cOk (List.take x0_1 x6_1) then bif ckO (List.take x0_1 x6_1) != 0 then k (Res.mk (.tup [.ro 113 true true [], .sc (.int .i64 (ckO (List.take x0_1 x6_1)))]) [] []) else bif (Ent.vec false 113 x5_1 x6_1).nil then k (Res.mk (.tup [.ro 113 true true [], .sc (.int .i64 0)]) [] []) else bif Jf (0 + (List.take x0_1 x6_1).length) 32 && true then k (Res.mk (.tup [.ro 113 false false (List.take (0 + (List.take x0_1 x6_1).length) (List.take x0_1 x6_1)), .sc (.int .i64 0)]) [] []) else none else none else bif Wf != 0 then k (Res.mk (.tup [.ro 113 true true [], .sc (.int .i64 Wf)]) [] []) else bif (Ent.vec false 113 x5_1 x6_1).nil then k (Res.mk (.tup [.ro 113 true true [], .sc (.int .i64 0)]) [] []) else bif Jf (0 + (List.take x0_1 x6_1).length) 32 && true then k (Res.mk (.tup [.ro 113 false false (List.take (0 + (List.take x0_1 x6_1).length) (List.take x0_1 x6_1)), .sc (.int .i64 0)]) [] []) else none else bif Wf == 0 then bif cOk (List.take x0_1 x6_1) then bif ckO (List.take x0_1 x6_1) != 0 then k (Res.mk (.tup [.ro 113 true true [], .sc (.int .i64 (ckO (List.take x0_1 x6_1)))]) [] []) else bif (Ent.vec false 113 x5_1 x6_1).nil then k (Res.mk (.tup [.ro 113 true true [], .sc (.int .i64 0)]) [] []) else bif Jf (0 + (List.take x0_1 x6_1).length) 32 && true then k (Res.mk (.tup [.ro 113 false false (List.take (0 + (List.take x0_1 x6_1).length) (List.take x0_1 x6_1)), .sc (.int .i64 0)]) [] []) else none else none else bif Wf != 0 then k (Res.mk (.tup [.ro 113 true true [], .sc (.int .i64 Wf)]) [] []) else bif (Ent.vec false 113 x5_1 x6_1).nil then k (Res.mk (.tup [.ro 113 true true [], .sc (.int .i64 0)]) [] []) else bif Jf (0 + (List.take x0_1 x6_1).length) 32 && true then k (Res.mk (.tup [.ro 113 false false (List.take (0 + (List.take x0_1 x6_1).length) (List.take x0_1 x6_1)), .sc (.int .i64 0)]) [] []) else none) f (0) (0) (0) b_z b_z ((Jb 1 (RS.mk b 0)).b) ((Jb 1 (RS.mk b 0)).e) true ([]) else XF f (fun x0_2 x1_2 x2_2 x3_2 VP x5_2 x6_2 => bif VP == 0 then bif decide (zi x3_2.length > 0) then k (Res.mk (.tup [.ro 113 true true [], .sc (.int .i64 9)]) [] []) else bif VP == 0 then bif cOk (List.take x0_2 x6_2) then bif ckO (List.take x0_2 x6_2) != 0 then k (Res.mk (.tup [.ro 113 true true [], .sc (.int .i64 (ckO (List.take x0_2 x6_2)))]) [] []) else bif (Ent.vec false 113 x5_2 x6_2).nil then k (Res.mk (.tup [.ro 113 true true [], .sc (.int .i64 0)]) [] []) else bif Jf (0 + (List.take x0_2 x6_2).length) 32 && true then k (Res.mk (.tup [.ro 113 false false (List.take (0 + (List.take x0_2 x6_2).length) (List.take x0_2 x6_2)), .sc (.int .i64 0)]) [] []) else none else none else bif VP != 0 then k (Res.mk (.tup [.ro 113 true true [], .sc (.int .i64 VP)]) [] []) else bif (Ent.vec false 113 x5_2 x6_2).nil then k (Res.mk (.tup [.ro 113 true true [], .sc (.int .i64 0)]) [] []) else bif Jf (0 + (List.take x0_2 x6_2).length) 32 && true then k (Res.mk (.tup [.ro 113 false false (List.take (0 + (List.take x0_2 x6_2).length) (List.take x0_2 x6_2)), .sc (.int .i64 0)]) [] []) else none else bif VP == 0 then bif cOk (List.take x0_2 x6_2) then bif ckO (List.take x0_2 x6_2) != 0 then k (Res.mk (.tup [.ro 113 true true [], .sc (.int .i64 (ckO (List.take x0_2 x6_2)))]) [] []) else bif (Ent.vec false 113 x5_2 x6_2).nil then k (Res.mk (.tup [.ro 113 true true [], .sc (.int .i64 0)]) [] []) else bif Jf (0 + (List.take x0_2 x6_2).length) 32 && true then k (Res.mk (.tup [.ro 113 false false (List.take (0 + (List.take x0_2 x6_2).length) (List.take x0_2 x6_2)), .sc (.int .i64 0)]) [] []) else none else none else bif VP != 0 then k (Res.mk (.tup [.ro 113 true true [], .sc (.int .i64 VP)]) [] []) else bif (Ent.vec false 113 x5_2 x6_2).nil then k (Res.mk (.tup [.ro 113 true true [], .sc (.int .i64 0)]) [] []) else bif Jf (0 + (List.take x0_2 x6_2).length) 32 && true then k (Res.mk (.tup [.ro 113 false false (List.take (0 + (List.take x0_2 x6_2).length) (List.take x0_2 x6_2)), .sc (.int .i64 0)]) [] []) else none) f (0) (JB 1 (RS.mk b 0)) (0) b_z b_z ((Jb 1 (RS.mk b 0)).b) ((Jb 1 (RS.mk b 0)).e) true ([]) else none else none
theorem e84 (f : Nat) (b_z b_f : Bool) (b : List PV) (k : Res -> Option Res) : JM tau F84 Try.f84 (Try.f84.body.get!) (Jpw (Jb8 f)) [.ro, .ro] 0 [.ro 5 b_z b_f b] [] k = g84 f b_z b_f b k := by kernel_rfl
theorem JCB (f : Nat) : Je (Try.f84.body.get!) (Jpw (Jb8 f)) = [.l Jdq Yn N84 (Jb8 f)] := by kernel_rfl
theorem JCC (f : Nat) : ∀ q ∈ Je (Try.f84.body.get!) (Jpw (Jb8 f)), q.Ok tau Try.prog 0 := by
 rw [JCB f]; simp only [List.forall_mem_cons, List.not_mem_nil, false_implies, implies_true, and_true]; exact Juk f
theorem JyP : Try.prog.funcs[84]? = some Try.f84 := by kernel_rfl
theorem JyQ : Try.f84.body = some (Try.f84.body.get!) := by kernel_rfl
theorem JCD : Enters Try.prog 84 := enters_of JyP (by kernel_rfl) JyQ




-- FN delta.OpParse | ref8.OpParse
def cpN (s : RS) : RS := J2 (Jb 8 (Jb 1 s))
def cpV (s : RS) : PV := .st 113 [.sc (.int .i64 (JB 1 s)), .sc (.int .i64 (JB 8 (Jb 1 s))), .sc (.string (JU (Jb 8 (Jb 1 s))))]
def cpR : Nat -> RS -> RS
 | 0, s => s
 | n + 1, s => cpR n (cpN s)
def cpL : Nat -> RS -> List PV
 | 0, _ => []
 | n + 1, s => cpV s :: cpL n (cpN s)
theorem Vw : ∀ (n : Nat) (s : RS), (cpL n s).length = n
 | 0, _ => rfl
 | n + 1, s => by rw [cpL, List.length_cons, Vw n]
theorem Jml : ∀ (n : Nat) (s : RS), (cpL n s).all isCp = true
 | 0, _ => rfl
 | n + 1, s => by rw [cpL, List.all_cons, Jml n, Bool.and_true]; exact JbP.2 ⟨_, _, _, rfl⟩
theorem Jpy {s : RS} (h : byB s.b = true) : byB (cpN s).b = true := Jjg (Qp (Qp h 1) 8)
def opN (b : List PV) : Nat := bif decide (JB 1 ⟨b, 0⟩ > 40) then 0 else (JB 1 ⟨b, 0⟩).toNat
def opS (b : List PV) : RS := bif decide (JB 1 ⟨b, 0⟩ > 40) then Jc9 4 (Jb 1 ⟨b, 0⟩) else Jb 1 ⟨b, 0⟩
def Gp (b : List PV) : Int := bif (cpR (opN b) (opS b)).e == 0 then (bif decide ((cpR (opN b) (opS b)).b.length > 0) then 9 else ckO (cpL (opN b) (opS b))) else (cpR (opN b) (opS b)).e
def opE : List PV -> Int := hid Gp
def opL : List PV -> List PV := hid fun b => bif Gp b == 0 then cpL (opN b) (opS b) else []
theorem Jh8 (b : List PV) : opE b = Gp b := by rw [opE, hid_eq]
theorem JeJ (b : List PV) : opL b = bif Gp b == 0 then cpL (opN b) (opS b) else [] := by rw [opL, hid_eq]
def Zs (e : Int) : PV := .tup [.ro 113 true true [], .sc (.int .i64 e)]
def opP (b : List PV) : PV := .tup [.ro 113 (opL b).isEmpty (opL b).isEmpty (opL b), .sc (.int .i64 (opE b))]
theorem JeK {b : List PV} {e : Int} (h : Gp b = e) (h0 : (e == 0) = false) : opP b = Zs e := by
 simp only [opP, Zs, JeJ, Jh8, h, h0, cond_false, List.isEmpty_nil]
theorem Jul {b : List PV} (h : Gp b = 0) : opP b = .tup [.ro 113 (cpL (opN b) (opS b)).isEmpty (cpL (opN b) (opS b)).isEmpty (cpL (opN b) (opS b)), .sc (.int .i64 0)] := by
 simp only [opP, JeJ, Jh8, h, beq_self_eq_true, cond_true]
theorem Jmm {b : List PV} (h : byB b = true) : opN b <= 40 := by
 unfold opN
 have h0 : 0 <= JB 1 ⟨b, 0⟩ := by rw [Xm]; exact (X8 (s := ⟨b, 0⟩) h (n := 1) (by omega)).1
 cases hc : decide (JB 1 ⟨b, 0⟩ > 40) with
 | true => exact Nat.zero_le _
 | false =>
  have : ¬ JB 1 ⟨b, 0⟩ > 40 := by simpa using hc
  rw [cond_false]; omega
theorem Jpz {b : List PV} (h : byB b = true) : byB (opS b).b = true := by
 have := Qp (s := ⟨b, 0⟩) h 1
 unfold opS Jc9
 cases decide (JB 1 ⟨b, 0⟩ > 40) <;> exact this
theorem JjD {n : Nat} (h : n <= 40) (s : RS) : cOk (cpL n s) = true := Wx.2 ⟨Jml n s, by rw [Vw]; omega⟩
theorem JrZ (f : Nat) (k0 : Nat -> Bool -> Bool -> List PV -> Int -> Bool -> List PV -> Option Res) (z fl : Bool) (hz : (!z || fl) = true) (N : Nat) (hN : N <= 40) : ∀ (d i n : Nat) (s : RS) (nl : Bool) (L : List PV), i + d = N -> d < n -> byB s.b = true -> L.length = i ->
  XF f k0 n L.length (N : Int) (i : Int) z fl s.b s.e nl L = k0 (L ++ cpL d s).length z fl (cpR d s).b (cpR d s).e (nl && (cpL d s).isEmpty) (L ++ cpL d s)
 | 0, i, n + 1, s, nl, L, h, hn, hb, hL => by
   obtain rfl : i = N := by omega
   simp only [XF, Gn, cpR, cpL, List.append_nil, List.isEmpty_nil, Bool.and_true]
   exact Jj (by simp)
 | d + 1, i, n + 1, s, nl, L, h, hn, hb, hL => by
   have w : IntKind.i64.wrap ((i : Int) + 1) = ((i + 1 : Nat) : Int) := by rw [wrap_i64 (by omega) (by omega)]; omega
   have hm : RS.mk s.b s.e = s := rfl
   have hn1 : J2 (Jb 8 (Jb 1 s)) = cpN s := rfl
   have hv1 : PV.st 113 [.sc (.int .i64 (JB 1 s)), .sc (.int .i64 (JB 8 (Jb 1 s))), .sc (.string (JU (Jb 8 (Jb 1 s))))] = cpV s := rfl
   simp only [XF, Gn, w, hm, hn1, hv1, List.take_length]
   refine (Ja (by simp; omega)).trans ((Ja (by rw [hb, hz]; rfl)).trans ((Ja (by rw [Qp hb 1, hz]; rfl)).trans ((Ja (by rw [Qp (Qp hb 1) 8, hz]; rfl)).trans ((Ja (by simp [Jf]; omega)).trans ?_))))
   have := JrZ f k0 z fl hz N hN d (i + 1) n (cpN s) (nl && false) (L ++ [cpV s]) (by omega) (by omega) (Jpy hb) (by simp [hL])
   rw [List.length_append] at this
   refine Eq.trans this ?_
   simp only [cpR, cpL, Bool.and_false, Bool.false_and, List.isEmpty_cons, List.append_assoc, List.cons_append, List.nil_append]
theorem Jum (z f : Bool) (b : List PV) (hz : slB z b = true) (hb : byB b = true) (k : Res -> Option Res) :
  g84 50 z f b k = k ⟨opP b, [], []⟩ := by
 have hE : Gp b = Gp b := rfl
 conv at hE => rhs; unfold Gp
 have hN := Jmm hb
 have hS := Jpz hb
 have key : ∀ (N : Nat) (s : RS) (K : Nat -> Bool -> Bool -> List PV -> Int -> Bool -> List PV -> Option Res), opN b = N -> opS b = s ->
   (∀ (e : Int) (x1 x2 : Bool), Gp b = (bif (cpR N s).e == 0 then (bif decide ((cpR N s).b.length > 0) then 9 else ckO (cpL N s)) else (cpR N s).e) -> K (cpL N s).length x1 x2 (cpR N s).b (cpR N s).e (true && (cpL N s).isEmpty) ([] ++ cpL N s) = k ⟨opP b, [], []⟩) ->
   XF 50 K 50 0 (N : Int) 0 z z s.b s.e true [] = k ⟨opP b, [], []⟩ := by
  intro N s K h1 h2 h3
  subst h1; subst h2
  refine (JrZ 50 K z z (by cases z <;> rfl) (opN b) hN (opN b) 0 50 (opS b) true [] (by omega) (by omega) hS rfl).trans ?_
  exact h3 0 z z hE
 have fin : ∀ (N : Nat) (s : RS), opN b = N -> opS b = s -> Gp b = (bif (cpR N s).e == 0 then (bif decide ((cpR N s).b.length > 0) then 9 else ckO (cpL N s)) else (cpR N s).e) ->
   (bif (cpR N s).e == 0 then
    bif decide (zi (cpR N s).b.length > 0) then k ⟨Zs 9, [], []⟩
    else bif (cpR N s).e == 0 then
     bif cOk (List.take (cpL N s).length ([] ++ cpL N s)) then
      bif ckO (List.take (cpL N s).length ([] ++ cpL N s)) != 0 then k ⟨Zs (ckO (List.take (cpL N s).length ([] ++ cpL N s))), [], []⟩
      else bif (Ent.vec false 113 (true && (cpL N s).isEmpty) ([] ++ cpL N s)).nil then k ⟨Zs 0, [], []⟩
      else bif Jf (0 + (List.take (cpL N s).length ([] ++ cpL N s)).length) 32 && true then k ⟨.tup [.ro 113 false false (List.take (0 + (List.take (cpL N s).length ([] ++ cpL N s)).length) (List.take (cpL N s).length ([] ++ cpL N s))), .sc (.int .i64 0)], [], []⟩ else none
     else none
    else bif (cpR N s).e != 0 then k ⟨Zs (cpR N s).e, [], []⟩
    else bif (Ent.vec false 113 (true && (cpL N s).isEmpty) ([] ++ cpL N s)).nil then k ⟨Zs 0, [], []⟩
      else bif Jf (0 + (List.take (cpL N s).length ([] ++ cpL N s)).length) 32 && true then k ⟨.tup [.ro 113 false false (List.take (0 + (List.take (cpL N s).length ([] ++ cpL N s)).length) (List.take (cpL N s).length ([] ++ cpL N s))), .sc (.int .i64 0)], [], []⟩ else none
   else bif (cpR N s).e == 0 then
     bif cOk (List.take (cpL N s).length ([] ++ cpL N s)) then
      bif ckO (List.take (cpL N s).length ([] ++ cpL N s)) != 0 then k ⟨Zs (ckO (List.take (cpL N s).length ([] ++ cpL N s))), [], []⟩
      else bif (Ent.vec false 113 (true && (cpL N s).isEmpty) ([] ++ cpL N s)).nil then k ⟨Zs 0, [], []⟩
      else bif Jf (0 + (List.take (cpL N s).length ([] ++ cpL N s)).length) 32 && true then k ⟨.tup [.ro 113 false false (List.take (0 + (List.take (cpL N s).length ([] ++ cpL N s)).length) (List.take (cpL N s).length ([] ++ cpL N s))), .sc (.int .i64 0)], [], []⟩ else none
     else none
    else bif (cpR N s).e != 0 then k ⟨Zs (cpR N s).e, [], []⟩
    else bif (Ent.vec false 113 (true && (cpL N s).isEmpty) ([] ++ cpL N s)).nil then k ⟨Zs 0, [], []⟩
      else bif Jf (0 + (List.take (cpL N s).length ([] ++ cpL N s)).length) 32 && true then k ⟨.tup [.ro 113 false false (List.take (0 + (List.take (cpL N s).length ([] ++ cpL N s)).length) (List.take (cpL N s).length ([] ++ cpL N s))), .sc (.int .i64 0)], [], []⟩ else none) = k ⟨opP b, [], []⟩ := by
  intro N s h1 h2 h3
  have hco : cOk (cpL N s) = true := JjD (by omega) s
  have hnl : (Ent.vec false 113 (cpL N s).isEmpty (cpL N s)).nil = (cpL N s).isEmpty := by simp [Ent.nil]
  have hlen : (cpL N s).length <= 40 := by rw [Vw]; omega
  have hz9 : decide (zi (cpR N s).b.length > 0) = decide ((cpR N s).b.length > 0) := by apply decide_eq_decide.2; simp only [zi]; omega
  simp only [List.nil_append, List.take_length, Bool.true_and, Nat.zero_add, hco, hnl, hz9, cond_true]
  cases he : ((cpR N s).e == 0) with
  | false =>
   rw [he, cond_false] at h3
   rw [JeK h3 he]
   simp only [cond_false]
   exact Ja (by rw [bne, he]; rfl)
  | true =>
   rw [he, cond_true] at h3
   cases h9 : decide ((cpR N s).b.length > 0) with
   | true =>
    rw [h9, cond_true] at h3
    rw [JeK h3 (by decide)]
    rfl
   | false =>
    rw [h9, cond_false] at h3
    simp only [cond_true, cond_false]
    cases hc : (ckO (cpL N s) == 0) with
    | false =>
     rw [JeK h3 hc]
     exact Ja (by rw [bne, hc]; rfl)
    | true =>
     have hc' : ckO (cpL N s) = 0 := by simpa using hc
     rw [hc'] at h3
     rw [Jul h3, h1, h2]
     refine (Jj (by rw [bne, hc]; rfl)).trans ?_
     cases hl : cpL N s with
     | nil => rfl
     | cons p ps =>
      rw [hl] at hlen
      refine (Jj rfl).trans ((Ja (by simp [Jf] at hlen ⊢; omega)).trans rfl)
 unfold g84
 refine (Ja hz).trans ((Ja (by rw [hb]; cases z <;> rfl)).trans ?_)
 have h0 : 0 <= JB 1 ⟨b, 0⟩ := by rw [Xm]; exact (X8 (s := ⟨b, 0⟩) hb (n := 1) (by omega)).1
 cases h4 : decide (JB 1 ⟨b, 0⟩ > 40) with
 | true =>
  have hN0 : opN b = 0 := by unfold opN; rw [h4]; rfl
  have hS0 : opS b = Jc9 4 (Jb 1 ⟨b, 0⟩) := by unfold opS; rw [h4]; rfl
  rw [cond_true]
  cases he : ((Jb 1 ⟨b, 0⟩).e == 0) with
  | true =>
   rw [cond_true]
   have hs : opS b = ⟨(Jb 1 ⟨b, 0⟩).b, 4⟩ := by rw [hS0]; unfold Jc9; rw [he]; rfl
   exact key 0 ⟨(Jb 1 ⟨b, 0⟩).b, 4⟩ _ hN0 hs fun _ _ _ h => fin 0 _ hN0 hs h
  | false =>
   rw [cond_false]
   have hs : opS b = ⟨(Jb 1 ⟨b, 0⟩).b, (Jb 1 ⟨b, 0⟩).e⟩ := by rw [hS0]; unfold Jc9; rw [he]; rfl
   exact key 0 ⟨(Jb 1 ⟨b, 0⟩).b, (Jb 1 ⟨b, 0⟩).e⟩ _ hN0 hs fun _ _ _ h => fin 0 _ hN0 hs h
 | false =>
  have hN0 : opN b = (JB 1 ⟨b, 0⟩).toNat := by unfold opN; rw [h4]; rfl
  have hS0 : opS b = Jb 1 ⟨b, 0⟩ := by unfold opS; rw [h4]; rfl
  rw [cond_false]
  have q := fun K hK => key (JB 1 ⟨b, 0⟩).toNat (Jb 1 ⟨b, 0⟩) K hN0 hS0 hK
  rw [Int.toNat_of_nonneg h0] at q
  exact q _ fun _ _ _ h => fin _ _ hN0 hS0 h
def Jh9 : List PV -> List Ent -> (Res -> Option Res) -> Option Res
 | [.ro 5 z f b], [], k => bif slB z b && byB b then k ⟨opP b, [], []⟩ else none
 | _, _, _ => none
def JyR : Sig := { own := [], run := Jh9 }
theorem JyS : Jh tau Try.prog 84 JyR := Jh.mk' fun xs es k res hl hr => by
 change Jh9 xs es k = some res at hr
 unfold Jh9 at hr
 split at hr
 · rename_i z f b
   obtain ⟨hc, hr⟩ := JI hr
   rw [Bool.and_eq_true] at hc
   have hg := (Jum z f b hc.1 hc.2 k).trans hr
   exact Qk Jr Jmk Js JyP JyQ (Jpw (Jb8 50)) [.ro, .ro] 0 0 (JCC 50) hl rfl ((e84 50 z f b k).trans hg)
 · cases hr
/-! The document's. -/
end
end Go.Proofs.Ythpmachmnoljeaa.Rx
