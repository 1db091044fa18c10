/- What the functions of this law compute, and their plain laws. Conditions: none. -/
import Derived.KernelRfl
import Derived.Test.YtcklhipdldpkhaaWaveletSamesP1
namespace Go.Proofs.Ytcklhipdldpkhaa.Rx
noncomputable section
open Go
set_option linter.unusedVariables false
set_option linter.unusedSimpArgs false
set_option maxRecDepth 100000
set_option maxHeartbeats 0
-- FN code.Byte | code.Text | code.Int | ref1.Byte | ref1.Int | ref1.Text
def ib (n i : Int) : Int := IntKind.u8.wrap (JL .u64 (IntKind.u64.wrap n) (8 * i))
def JlE (n : Int) : List Int := [ib n 0, ib n 1, ib n 2, ib n 3, ib n 4, ib n 5, ib n 6, ib n 7]
def Qc : Int -> List Int := hid JlE
theorem ZJ (n : Int) : Qc n = JlE n := by rw [Qc, hid_eq]
@[simp] theorem YY (n : Int) : (Qc n).length = 8 := by rw [ZJ]; rfl
/-- a text's bytes -/
def Joc (s : ByteArray) : List Int := s.data.toList.map fun b => (b.toNat : Int)
def bsI : ByteArray -> List Int := hid Joc
theorem Jhj (s : ByteArray) : bsI s = Joc s := by rw [bsI, hid_eq]
theorem XS (s : ByteArray) : Jn s = pu .u8 (bsI s) := by rw [Jhj]; simp [Jn, pu, Joc]
@[simp] theorem Jhk (s : ByteArray) : (bsI s).length = s.size := by rw [Jhj]; simp [Joc]
theorem Jsh (s : ByteArray) : ∀ x ∈ bsI s, 0 <= x /\ x < 256 := by
 intro x hx
 rw [Jhj] at hx
 obtain ⟨b, _, rfl⟩ := List.mem_map.1 hx
 have := b.toNat_lt
 omega
def JbL (s : ByteArray) : List Int := [IntKind.u8.wrap (zi s.size), IntKind.u8.wrap (JL .i64 (zi s.size) 8)] ++ bsI s
def Xu : ByteArray -> List Int := hid JbL
theorem V3 (s : ByteArray) : Xu s = JbL s := by rw [Xu, hid_eq]
@[simp] theorem V4 (s : ByteArray) : (Xu s).length = s.size + 2 := by rw [V3]; simp [JbL]
theorem JaW (x : Int) : 0 <= IntKind.u8.wrap x /\ IntKind.u8.wrap x < 256 := by rw [Jbu]; omega
theorem ZK (n : Int) : ∀ x ∈ Qc n, 0 <= x /\ x < 256 := by
 rw [ZJ]; intro x hx
 simp only [JlE, List.mem_cons, List.not_mem_nil, or_false] at hx
 rcases hx with h | h | h | h | h | h | h | h <;> (rw [h]; exact JaW _)
theorem JlF (s : ByteArray) : ∀ x ∈ Xu s, 0 <= x /\ x < 256 := by
 rw [V3]; intro x hx
 rcases List.mem_append.1 hx with hx | hx
 · simp only [List.mem_cons, List.not_mem_nil, or_false] at hx
   rcases hx with h | h <;> (rw [h]; exact JaW _)
 · exact Jsh s x hx
theorem Jod (f : Bool) (b : List PV) (n : Int) (k : Res -> Option Res) : g97 0 true f b n k = k ⟨.ro 5 false false (pu .u8 (Qc n)), [], []⟩ := by
 rw [ZJ]; kernel_rfl
theorem Jvz (f : Bool) (b : List PV) (hb : b.length <= 1000000000) (n : Int) (k : Res -> Option Res) : g97 0 false f b n k = k ⟨.ro 5 false false (b ++ pu .u8 (Qc n)), [], []⟩ := by
 rw [ZJ]
 unfold g97
 refine (Ji rfl).trans ?_
 repeat (refine (Jc (by simp [Jk]; omega)).trans ?_)
 repeat rw [List.take_of_length_le (by simp <;> omega)]
 simp only [List.nil_append, List.append_assoc]
 rfl
def Jhl : List PV -> List Ent -> (Res -> Option Res) -> Option Res
 | [.ro 5 z f b, .sc (.int .i64 n)], [], k => bif slB z b then k ⟨.ro 5 false false (b ++ pu .u8 (Qc n)), [], []⟩ else none
 | _, _, _ => none
def JvA : Sig := { own := [], run := Jhl }
theorem JvB : Jg tau Try.prog 97 JvA := Jg.mk' fun xs es k res hl hr => by
 change Jhl xs es k = some res at hr
 unfold Jhl at hr
 split at hr
 · rename_i z f b n
   obtain ⟨hc, hr2⟩ := JE hr
   clear hr
   obtain ⟨h1, h2⟩ := JiE.1 hc
   have hg : g97 0 z f b n k = some res := by
    cases z with
    | true => obtain rfl := h1 rfl; rw [Jod]; exact hr2
    | false => rw [Jvz f b h2]; exact hr2
   exact Qr Jp Jr3 Jq Jvn Jvo Jn7 [.ro] 0 12 (Jzh 0) hl rfl ((e97 0 z f b n k).trans hg)
 · cases hr
def V5 : List PV -> List Ent -> (Res -> Option Res) -> Option Res
 | [.ro 5 true true [], .sc (.int .i64 n)], [], k => k ⟨.ow 5 16 [] 0 1 none, [], [.vec false 5 false (pu .u8 [IntKind.u8.wrap n])]⟩
 | [.ow 5 0 [] 0 m none, .sc (.int .i64 n)], [.vec false 5 nl l], k => bif Nat.beq m l.length && Nat.ble l.length 1000000000 then k ⟨.ow 5 16 [] 0 (m + 1) none, [.dead], [.vec false 5 false (l ++ pu .u8 [IntKind.u8.wrap n])]⟩ else none
 | _, _, _ => none
def JvC : Sig := { own := [true], run := V5 }
theorem Jsi : Jg tau Try.prog 110 JvC := Jg.mk' fun xs es k res hl hr => by
 change V5 xs es k = some res at hr
 unfold V5 at hr
 split at hr
 · rename_i n
   exact Qr Jp Jn8 Jq Jqd Jqe JiS [] 0 0 (Jvr 0) hl rfl ((Jzk 0 n k).trans hr)
 · rename_i m n nl l
   obtain ⟨hc, hr⟩ := JE hr
   rw [Bool.and_eq_true, Nat.beq_eq, Nat.ble_eq] at hc
   obtain ⟨rfl, hc⟩ := hc
   have hg : Jlw 0 nl l l.length n k = some res := by
    unfold Jlw
    rw [Jc (by simp [Jk]; omega), List.take_length, Bool.and_false]
    exact hr
   exact Qr Jp Jlv Jq Jr7 Jr8 Jeb [] 1 0 (Jr6 0) hl rfl ((Jvs 0 nl l l.length n k).trans hg)
 · cases hr
def V6 : List PV -> List Ent -> (Res -> Option Res) -> Option Res
 | [.ro 5 true true [], .sc (.int .i64 n)], [], k => k ⟨.ow 5 16 [] 0 8 none, [], [.vec false 5 false (pu .u8 (Qc n))]⟩
 | [.ow 5 0 [] 0 m none, .sc (.int .i64 n)], [.vec false 5 nl l], k => bif Nat.beq m l.length && Nat.ble l.length 1000000000 then k ⟨.ow 5 16 [] 0 (m + 8) none, [.dead], [.vec false 5 false (l ++ pu .u8 (Qc n))]⟩ else none
 | _, _, _ => none
def JvD : Sig := { own := [true], run := V6 }
theorem JlG (n : Int) (k : Res -> Option Res) : Jvu 0 n k = k ⟨.ow 5 16 [] 0 8 none, [], [.vec false 5 false (pu .u8 (Qc n))]⟩ := by
 rw [ZJ]; kernel_rfl
theorem JlH (nl : Bool) (l : List PV) (hl : l.length <= 1000000000) (n : Int) (k : Res -> Option Res) : Jlz 0 nl l l.length n k = k ⟨.ow 5 16 [] 0 (l.length + 8) none, [.dead], [.vec false 5 false (l ++ pu .u8 (Qc n))]⟩ := by
 rw [ZJ]
 unfold Jlz
 repeat (refine (Jc (by simp [Jk]; omega)).trans ?_)
 repeat rw [List.take_of_length_le (by simp <;> omega)]
 simp only [Bool.and_false, List.append_assoc]
 rfl
theorem JlI : Jg tau Try.prog 108 JvD := Jg.mk' fun xs es k res hl hr => by
 change V6 xs es k = some res at hr
 unfold V6 at hr
 split at hr
 · rename_i n
   exact Qr Jp Jn9 Jq Jqh Jqi JiT [] 0 12 (Jvw 0) hl rfl ((Jzl 0 n k).trans ((JlG n k).trans hr))
 · rename_i m n nl l
   obtain ⟨hc, hr⟩ := JE hr
   rw [Bool.and_eq_true, Nat.beq_eq, Nat.ble_eq] at hc
   obtain ⟨rfl, hc⟩ := hc
   exact Qr Jp Jlx Jq Jsc Jsd Jec [] 1 12 (Jsb 0) hl rfl ((Jvx 0 nl l l.length n k).trans ((JlH nl l hc n k).trans hr))
 · cases hr
def V7 : List PV -> List Ent -> (Res -> Option Res) -> Option Res
 | [.ow 5 0 [] 0 m none, .sc (.string s)], [.vec false 5 nl l], k => bif Nat.beq m l.length && Nat.ble l.length 1000000000 && Nat.ble s.size 65535 then k ⟨.ow 5 16 [] 0 (m + (s.size + 2)) none, [.dead], [.vec false 5 false (l ++ pu .u8 (Xu s))]⟩ else none
 | _, _, _ => none
def JvE : Sig := { own := [true], run := V7 }
theorem Jsj : Jg tau Try.prog 109 JvE := Jg.mk' fun xs es k res hl hr => by
 change V7 xs es k = some res at hr
 unfold V7 at hr
 split at hr
 · rename_i m s nl l
   obtain ⟨hc, hr⟩ := JE hr
   rw [Bool.and_eq_true, Bool.and_eq_true, Nat.beq_eq, Nat.ble_eq, Nat.ble_eq] at hc
   obtain ⟨⟨rfl, hc⟩, hs⟩ := hc
   have hg : JlB 0 nl l l.length s k = some res := by
    unfold JlB
    have hob : (Jn s).length = s.size := by rw [XS]; simp
    rw [Ji (by simp only [zi, decide_eq_false_iff_not]; omega), Jc (by simp [Jk]; omega), Jc (by simp [Jk, hob]; omega), List.take_length, List.take_of_length_le (by simp), hob, Bool.and_false, Bool.false_and]
    rw [V3, JbL] at hr
    rw [XS, show l.length + 2 + s.size = l.length + (s.size + 2) from by omega]
    simpa [pu] using hr
   exact Qr Jp JlA Jq JlC JlD Jed [] 1 0 (Jsf 0) hl rfl ((Jvy 0 nl l l.length s k).trans hg)
 · cases hr

def apI : List PV -> Int -> List PV := hid fun b n => b ++ pu .u8 (Qc n)
def apY : List PV -> Int -> List PV := hid fun b n => b ++ pu .u8 [IntKind.u8.wrap n]
def apT : List PV -> ByteArray -> List PV := hid fun b s => b ++ pu .u8 (Xu s)
def okL : Nat -> List PV -> Bool := hid fun m l => Nat.beq m l.length && Nat.ble l.length 1000000000
theorem Vf (b : List PV) (n : Int) : apI b n = b ++ pu .u8 (Qc n) := by rw [apI, hid_eq]
theorem GX (b : List PV) (n : Int) : apY b n = b ++ pu .u8 [IntKind.u8.wrap n] := by rw [apY, hid_eq]
theorem YZ (b : List PV) (s : ByteArray) : apT b s = b ++ pu .u8 (Xu s) := by rw [apT, hid_eq]
theorem Jee (m : Nat) (l : List PV) : okL m l = (Nat.beq m l.length && Nat.ble l.length 1000000000) := by rw [okL, hid_eq]
def Jef : List PV -> List Ent -> (Res -> Option Res) -> Option Res
 | [.ro 5 true true [], .sc (.int .i64 n)], [], k => k ⟨.ow 5 16 [] 0 (apY [] n).length none, [], [.vec false 5 false (apY [] n)]⟩
 | [.ow 5 0 [] 0 m none, .sc (.int .i64 n)], [.vec false 5 nl l], k => bif okL m l then k ⟨.ow 5 16 [] 0 (apY l n).length none, [.dead], [.vec false 5 false (apY l n)]⟩ else none
 | _, _, _ => none
def JlJ : Sig := { own := [true], run := Jef }
theorem JlK : Jg tau Try.prog 110 JlJ := fun xs es k res hl hr => Jsi xs es k res hl (by
 change Jef xs es k = some res at hr
 show V5 xs es k = some res
 unfold Jef at hr
 split at hr
 · rw [GX] at hr; exact hr
 · rename_i m n nl l
   rw [Jee, GX] at hr
   obtain ⟨hc, hr⟩ := JE hr
   have hm : m = l.length := by rw [Bool.and_eq_true, Nat.beq_eq] at hc; exact hc.1
   have h2 : V5 [.ow 5 0 [] 0 m none, .sc (.int .i64 n)] [.vec false 5 nl l] k = k ⟨.ow 5 16 [] 0 (m + 1) none, [.dead], [.vec false 5 false (l ++ pu .u8 [IntKind.u8.wrap n])]⟩ := Jc hc
   rw [h2, ← hr, hm]; simp
 · cases hr)
def Jeg : List PV -> List Ent -> (Res -> Option Res) -> Option Res
 | [.ow 5 0 [] 0 m none, .sc (.int .i64 n)], [.vec false 5 nl l], k => bif okL m l then k ⟨.ow 5 16 [] 0 (apI l n).length none, [.dead], [.vec false 5 false (apI l n)]⟩ else none
 | _, _, _ => none
def Jql : Sig := { own := [true], run := Jeg }
theorem JlL : Jg tau Try.prog 108 Jql := fun xs es k res hl hr => JlI xs es k res hl (by
 change Jeg xs es k = some res at hr
 show V6 xs es k = some res
 unfold Jeg at hr
 split at hr
 · rename_i m n nl l
   rw [Jee, Vf] at hr
   obtain ⟨hc, hr⟩ := JE hr
   have hm : m = l.length := by rw [Bool.and_eq_true, Nat.beq_eq] at hc; exact hc.1
   have h2 : V6 [.ow 5 0 [] 0 m none, .sc (.int .i64 n)] [.vec false 5 nl l] k = k ⟨.ow 5 16 [] 0 (m + 8) none, [.dead], [.vec false 5 false (l ++ pu .u8 (Qc n))]⟩ := Jc hc
   rw [h2, ← hr, hm]; simp
 · cases hr)
def Jeh : List PV -> List Ent -> (Res -> Option Res) -> Option Res
 | [.ow 5 0 [] 0 m none, .sc (.string s)], [.vec false 5 nl l], k => bif okL m l && Nat.ble s.size 65535 then k ⟨.ow 5 16 [] 0 (apT l s).length none, [.dead], [.vec false 5 false (apT l s)]⟩ else none
 | _, _, _ => none
def Jqm : Sig := { own := [true], run := Jeh }
theorem JlM : Jg tau Try.prog 109 Jqm := fun xs es k res hl hr => Jsj xs es k res hl (by
 change Jeh xs es k = some res at hr
 show V7 xs es k = some res
 unfold Jeh at hr
 split at hr
 · rename_i m s nl l
   rw [Jee, YZ] at hr
   obtain ⟨hc, hr⟩ := JE hr
   have hm : m = l.length := by simp only [Bool.and_eq_true, Nat.beq_eq] at hc; exact hc.1.1
   have h2 : V7 [.ow 5 0 [] 0 m none, .sc (.string s)] [.vec false 5 nl l] k = k ⟨.ow 5 16 [] 0 (m + (s.size + 2)) none, [.dead], [.vec false 5 false (l ++ pu .u8 (Xu s))]⟩ := Jc hc
   rw [h2, ← hr, hm]; simp
 · cases hr)

def JvF : Fns := F0
theorem Joe : Jy tau Try.prog JvF := JD
def JiV : An := (.seq .leaf (.seq (.seq .leaf (.cond .leaf .leaf)) (.seq .leaf .leaf)))
def Jsk (f : Nat) (s : ByteArray) (k : Res -> Option Res) : Option Res := bif decide (zi s.size > 65535) then bif decide (65535 <= s.size) && true then bif Jk (2 + (Jn (s.extract 0 65535)).length) 1 && true then k (Res.mk (.ow 5 16 [] 0 (2 + (Jn (s.extract 0 65535)).length) none) [] [.vec false 5 false (.sc (.int .u8 (IntKind.u8.wrap (zi (s.extract 0 65535).size))) :: .sc (.int .u8 (IntKind.u8.wrap (JL IntKind.i64 (zi (s.extract 0 65535).size) 8))) :: id (Jn (s.extract 0 65535)))]) else none else none else bif Jk (2 + (Jn s).length) 1 && true then k (Res.mk (.ow 5 16 [] 0 (2 + (Jn s).length) none) [] [.vec false 5 false (.sc (.int .u8 (IntKind.u8.wrap (zi s.size))) :: .sc (.int .u8 (IntKind.u8.wrap (JL IntKind.i64 (zi s.size) 8))) :: id (Jn s))]) else none
theorem Jzm (f : Nat) (s : ByteArray) (k : Res -> Option Res) : JQ tau JvF Try.f109 (Try.f109.body.get!) JiV [] 0 [.ro 5 true true [], .sc (.string s)] [] k = Jsk f s k := by kernel_rfl
theorem JvG (f : Nat) : Jf (Try.f109.body.get!) JiV = [] := by kernel_rfl
theorem JvH (f : Nat) : ∀ q ∈ Jf (Try.f109.body.get!) JiV, q.Ok tau Try.prog 0 := by
 rw [JvG f]; intro q hq; cases hq
theorem Jqn : Try.prog.funcs[109]? = some Try.f109 := by kernel_rfl
theorem Jqo : Try.f109.body = some (Try.f109.body.get!) := by kernel_rfl
theorem Jqp : Enters Try.prog 109 := enters_of Jqn (by kernel_rfl) Jqo
def Jei : List PV -> List Ent -> (Res -> Option Res) -> Option Res
 | [.ro 5 true true [], .sc (.int .i64 n)], [], k => k ⟨.ow 5 16 [] 0 (apI [] n).length none, [], [.vec false 5 false (apI [] n)]⟩
 | [.ow 5 0 [] 0 m none, .sc (.int .i64 n)], [.vec false 5 nl l], k => bif okL m l then k ⟨.ow 5 16 [] 0 (apI l n).length none, [.dead], [.vec false 5 false (apI l n)]⟩ else none
 | _, _, _ => none
def JiW : Sig := { own := [true], run := Jei }
theorem Jhm : Jg tau Try.prog 108 JiW := fun xs es k res hl hr => by
 change Jei xs es k = some res at hr
 unfold Jei at hr
 split at hr
 · rename_i n
   refine JlI _ _ k res hl ?_
   rw [Vf] at hr
   show k ⟨.ow 5 16 [] 0 8 none, [], [.vec false 5 false (pu .u8 (Qc n))]⟩ = some res
   simpa using hr
 · rename_i m n nl l
   exact JlL _ _ k res hl hr
 · cases hr
def Jej : List PV -> List Ent -> (Res -> Option Res) -> Option Res
 | [.ro 5 true true [], .sc (.string s)], [], k => bif Nat.ble s.size 65535 then k ⟨.ow 5 16 [] 0 (apT [] s).length none, [], [.vec false 5 false (apT [] s)]⟩ else none
 | [.ow 5 0 [] 0 m none, .sc (.string s)], [.vec false 5 nl l], k => bif okL m l && Nat.ble s.size 65535 then k ⟨.ow 5 16 [] 0 (apT l s).length none, [.dead], [.vec false 5 false (apT l s)]⟩ else none
 | _, _, _ => none
def JlN : Sig := { own := [true], run := Jej }
theorem JlO : Jg tau Try.prog 109 JlN := Jg.mk' fun xs es k res hl hr => by
 change Jej xs es k = some res at hr
 unfold Jej at hr
 split at hr
 · rename_i s
   obtain ⟨hc, hr⟩ := JE hr
   rw [Nat.ble_eq] at hc
   have hob : (Jn s).length = s.size := by rw [XS]; simp
   have hg : Jsk 0 s k = some res := by
    unfold Jsk
    rw [Ji (by simp only [zi, decide_eq_false_iff_not]; omega), Jc (by simp [Jk, hob]; omega), hob]
    rw [YZ, V3, JbL] at hr
    simp only [List.nil_append, J4, List.length_append, JG, Jhk, List.length_cons, List.length_nil, ← XS] at hr
    rw [← hr, hob]
    simp only [id, JaR, JkQ, List.cons_append, List.nil_append, Nat.zero_add, Nat.reduceAdd]
   exact Qr Jp Joe Jq Jqn Jqo JiV [] 0 0 (JvH 0) hl rfl ((Jzm 0 s k).trans hg)
 · rename_i m s nl l
   exact JlM _ _ k res hl hr
 · cases hr

def Jcn : Nat := 34
def JlP : Fns := JH 110 JlJ (JH 109 Jqm (JH 108 Jql (F0)))
theorem JiX : Jy tau Try.prog JlP := (((JD).add JlL JiU).add JlM Jsg).add JlK Jqf
def GY : Code := Qo (Try.f111.body.get!) [1, 1, 0, 1, 0, 0]
def Wx : Nm := [(0, .any), (3, .own), (4, .any)]
def W7 : Nm := [(3, .any)]
def JbM : An := (.seq (.seq .leaf (.cond .leaf .leaf)) (.seq (.block none .leaf) .leaf))
def JiY (r0 : QE) : An := (.seq .leaf (.seq .leaf (.seq (.seq .leaf (.block none (.sum Wx Jcn r0))) (.seq .leaf .leaf))))
def Y0 (f : Nat) (rc : Bool -> Bool -> List PV -> Nat -> Int -> List PV -> Option Res) (k0 : Nat -> List PV -> Option Res) (v0 v1 : Bool) (v2 : List PV) (v3 : Nat) (v4 : Int) (v5 : List PV) : Option Res := bif decide (v4 < zi v2.length) then bif decide (0 <= v4) && decide (v4 < zi v2.length) && (PV.isSt 99 #[Field.mk "Kind" 3 0 false "" "" 0, Field.mk "N" 3 1 false "" "" 8, Field.mk "S" 9 2 false "" "" 16].size (v2.getD v4.toNat PV.top) && (PV.isInt IntKind.i64 (PV.child 0 (v2.getD v4.toNat PV.top)) && (PV.isInt IntKind.i64 (PV.child (0 + 1) (v2.getD v4.toNat PV.top)) && ((PV.child (0 + 1 + 1) (v2.getD v4.toNat PV.top)).isStr && true)))) && true then bif okL v3 v5 then bif decide (0 <= v4) && decide (v4 < zi v2.length) && (PV.isSt 99 #[Field.mk "Kind" 3 0 false "" "" 0, Field.mk "N" 3 1 false "" "" 8, Field.mk "S" 9 2 false "" "" 16].size (v2.getD v4.toNat PV.top) && (PV.isInt IntKind.i64 (PV.child 0 (v2.getD v4.toNat PV.top)) && (PV.isInt IntKind.i64 (PV.child (0 + 1) (v2.getD v4.toNat PV.top)) && ((PV.child (0 + 1 + 1) (v2.getD v4.toNat PV.top)).isStr && true)))) && true then bif okL (apY v5 (PV.child 0 (v2.getD v4.toNat PV.top)).int).length (apY v5 (PV.child 0 (v2.getD v4.toNat PV.top)).int) then bif decide (0 <= v4) && decide (v4 < zi v2.length) && (PV.isSt 99 #[Field.mk "Kind" 3 0 false "" "" 0, Field.mk "N" 3 1 false "" "" 8, Field.mk "S" 9 2 false "" "" 16].size (v2.getD v4.toNat PV.top) && (PV.isInt IntKind.i64 (PV.child 0 (v2.getD v4.toNat PV.top)) && (PV.isInt IntKind.i64 (PV.child (0 + 1) (v2.getD v4.toNat PV.top)) && ((PV.child (0 + 1 + 1) (v2.getD v4.toNat PV.top)).isStr && true)))) && true then bif okL (apI (apY v5 (PV.child 0 (v2.getD v4.toNat PV.top)).int) (PV.child (0 + 1) (v2.getD v4.toNat PV.top)).int).length (apI (apY v5 (PV.child 0 (v2.getD v4.toNat PV.top)).int) (PV.child (0 + 1) (v2.getD v4.toNat PV.top)).int) && (PV.child (0 + 1 + 1) (v2.getD v4.toNat PV.top)).str.size.ble 65535 then rc v0 v1 v2 ((apT (apI (apY v5 (PV.child 0 (v2.getD v4.toNat PV.top)).int) (PV.child (0 + 1) (v2.getD v4.toNat PV.top)).int) (PV.child (0 + 1 + 1) (v2.getD v4.toNat PV.top)).str).length) (IntKind.i64.wrap (v4 + 1)) (apT (apI (apY v5 (PV.child 0 (v2.getD v4.toNat PV.top)).int) (PV.child (0 + 1) (v2.getD v4.toNat PV.top)).int) (PV.child (0 + 1 + 1) (v2.getD v4.toNat PV.top)).str) else none else none else none else none else none else none else k0 v3 v5
def XT (f : Nat) (k0 : Nat -> List PV -> Option Res) : Nat -> Bool -> Bool -> List PV -> Nat -> Int -> List PV -> Option Res
 | 0, _, _, _, _, _, _ => none
 | n + 1, v0, v1, v2, v3, v4, v5 => Y0 f (XT f k0 n) k0 v0 v1 v2 v3 v4 v5
theorem JlQ (f : Nat) (k : Kont) (n : Nat) (v0 v1 : Bool) (v2 : List PV) (v3 : Nat) (v4 : Int) (v5 : List PV) : Jl tau 0 Wx (fun s k => ev tau JlP 0 0 GY (JbM ) s k) (n + 1) (Jd Wx Jcn [.ro 99 v0 v1 v2, .ow 5 560 [] 0 v3 none, .sc (.int .i64 v4)] [(560, .vec false 5 false v5)]) (Jo tau 0 W7 k) = Y0 f (fun v0 v1 v2 v3 v4 v5 => Jl tau 0 Wx (fun s k => ev tau JlP 0 0 GY (JbM ) s k) n (Jd Wx Jcn [.ro 99 v0 v1 v2, .ow 5 560 [] 0 v3 none, .sc (.int .i64 v4)] [(560, .vec false 5 false v5)]) (Jo tau 0 W7 k)) (fun x0 x1 => k (Ex.exit 0) (Jd W7 Jcn [.ow 5 560 [] 0 x0 none] [(560, .vec false 5 false x1)])) v0 v1 v2 v3 v4 v5 := by kernel_rfl
theorem JfJ (f : Nat) (k : Kont) : ∀ (n : Nat) (v0 v1 : Bool) (v2 : List PV) (v3 : Nat) (v4 : Int) (v5 : List PV), Jl tau 0 Wx (fun s k => ev tau JlP 0 0 GY (JbM ) s k) n (Jd Wx Jcn [.ro 99 v0 v1 v2, .ow 5 560 [] 0 v3 none, .sc (.int .i64 v4)] [(560, .vec false 5 false v5)]) (Jo tau 0 W7 k) = XT f (fun x0 x1 => k (Ex.exit 0) (Jd W7 Jcn [.ow 5 560 [] 0 x0 none] [(560, .vec false 5 false x1)])) n v0 v1 v2 v3 v4 v5 | 0, _, _, _, _, _, _ => rfl | n + 1, v0, v1, v2, v3, v4, v5 => (JlQ f k n v0 v1 v2 v3 v4 v5).trans (congrArg (fun r => Y0 f r (fun x0 x1 => k (Ex.exit 0) (Jd W7 Jcn [.ow 5 560 [] 0 x0 none] [(560, .vec false 5 false x1)])) v0 v1 v2 v3 v4 v5) (by funext v0 v1 v2 v3 v4 v5; exact JfJ f k n v0 v1 v2 v3 v4 v5))
def Vg (f : Nat) : List PV -> List (Nat × Ent) -> Kont -> Option Res
 | [.ro 99 v0 v1 v2, .ow 5 560 [] 0 v3 none,
 PV.sc
  (Value.int IntKind.i64
   v4)], [(560, .vec false 5 false v5)], k => XT f (fun x0 x1 => k (Ex.exit 0) (Jd W7 Jcn [.ow 5 560 [] 0 x0 none] [(560, .vec false 5 false x1)])) f v0 v1 v2 v3 v4 v5
 | _, _, _ => none
theorem Jof (f : Nat) : Jf GY JbM = [] := by kernel_rfl
theorem Jsl (f : Nat) : (Item.l GY Wx Jcn (Vg f)).Ok tau Try.prog 0 := Jz Jp JiX Jq (x := JbM) (nm2 := W7) (Jm _ _ (by rw [Jof f]; intro q hq; cases hq)) fun vs hp k res hr => by
 unfold Vg at hr
 split at hr
 · exact ⟨f, 0, (JfJ f _ f _ _ _ _ _ _ ).trans hr⟩
 · cases hr
def Jsm (f : Nat) (o_z o_f : Bool) (o : List PV) (k : Res -> Option Res) : Option Res := XT f (fun x0_0 x1_0 => k (Res.mk (.ow 5 16 [] 0 x0_0 none) [] [.vec false 5 false x1_0])) f o_z o_f o ((apY [] (zi o.length)).length) (0) (apY [] (zi o.length))
theorem Jzn (f : Nat) (o_z o_f : Bool) (o : List PV) (k : Res -> Option Res) : JQ tau JlP Try.f111 (Try.f111.body.get!) (JiY (Vg f)) [] 0 [.ro 99 o_z o_f o] [] k = Jsm f o_z o_f o k := by kernel_rfl
theorem JvI (f : Nat) : Jf (Try.f111.body.get!) (JiY (Vg f)) = [.l GY Wx Jcn (Vg f)] := by kernel_rfl
theorem JvJ (f : Nat) : ∀ q ∈ Jf (Try.f111.body.get!) (JiY (Vg f)), q.Ok tau Try.prog 0 := by
 rw [JvI f]; simp only [List.forall_mem_cons, List.not_mem_nil, false_implies, implies_true, and_true]; exact Jsl f
theorem Jqq : Try.prog.funcs[111]? = some Try.f111 := by kernel_rfl
theorem Jqr : Try.f111.body = some (Try.f111.body.get!) := by kernel_rfl
theorem Jqs : Enters Try.prog 111 := enters_of Jqq (by kernel_rfl) Jqr
-- FN delta.OpBytes | ref8.OpBytes
def JiZ (c : CV) : List Int := [IntKind.u8.wrap c.kd] ++ (Qc c.n ++ Xu c.s)
def XU (l : List PV) : List Int := l.flatMap fun p => JiZ (cv p)
def Jog (l : List PV) : List Int := [IntKind.u8.wrap (zi l.length)] ++ XU l
def opB : List PV -> List Int := hid Jog
theorem JlR (l : List PV) : opB l = Jog l := by rw [opB, hid_eq]
theorem V8 (c : CV) : (JiZ c).length = c.s.size + 11 := by simp [JiZ]; omega
def cBy : List PV -> Bool := hid fun l => l.all isCp && (l.all (fun p => decide ((cv p).s.size <= 65535)) && decide (l.length <= 1000))
theorem Jek {l : List PV} : cBy l = true ↔ l.all isCp = true /\ (∀ p ∈ l, (cv p).s.size <= 65535) /\ l.length <= 1000 := by
 rw [cBy, hid_eq]; simp only [Bool.and_eq_true, List.all_eq_true, decide_eq_true_eq]
theorem JbN (m : Nat) : ∀ l : List PV, (∀ p ∈ l, (cv p).s.size <= m) -> (XU l).length <= l.length * (m + 11)
 | [], _ => by simp [XU]
 | p :: l, h => by
  have h1 := h p List.mem_cons_self
  have h2 := JbN m l fun x hx => h x (List.mem_cons_of_mem _ hx)
  simp only [XU, List.flatMap_cons, List.length_append, V8, List.length_cons, Nat.add_mul] at h2 ⊢
  omega
theorem Joh (L : List PV) (p : PV) : apT (apI (apY L (PV.child 0 p).int) (PV.child (0 + 1) p).int) (PV.child (0 + 1 + 1) p).str = L ++ pu .u8 (JiZ (cv p)) := by
 rw [YZ, Vf, GX]
 show _ = L ++ pu .u8 ([IntKind.u8.wrap (PV.child 0 p).int] ++ (Qc (PV.child (0 + 1) p).int ++ Xu (PV.child (0 + 1 + 1) p).str))
 simp only [J4, List.append_assoc]
theorem JaX (L : List PV) (n : Int) : (apY L n).length = L.length + 1 := by rw [GX]; simp
theorem XV (L : List PV) (n : Int) : (apI L n).length = L.length + 8 := by rw [Vf]; simp
theorem Q5 {l : List PV} (h : l.length <= 1000000000) : okL l.length l = true := by
 rw [Jee, Bool.and_eq_true, Nat.beq_eq, Nat.ble_eq]; exact ⟨rfl, h⟩
theorem JlS (l : List PV) (h1 : l.all isCp = true) (h3 : ∀ p ∈ l, (cv p).s.size <= 65535) (h2 : l.length <= 1000) (f : Nat) (k0 : Nat -> List PV -> Option Res) (z fl : Bool) : ∀ (d i n : Nat) (L : List PV), i + d = l.length -> d < n -> L.length <= 1 + i * 65546 ->
  XT f k0 n z fl l L.length (i : Int) L = k0 (L ++ pu .u8 (XU (l.drop i))).length (L ++ pu .u8 (XU (l.drop i)))
 | 0, i, n + 1, L, hi, hn, hL => by
   rw [List.drop_of_length_le (by omega)]
   simp only [XT, Y0, XU, List.flatMap_nil, JkQ, List.append_nil]
   exact Ji (by simp [zi]; omega)
 | d + 1, i, n + 1, L, hi, hn, hL => by
   have g1 : ((i : Int)).toNat = i := by omega
   have w1 : IntKind.i64.wrap ((i : Int) + 1) = ((i + 1 : Nat) : Int) := by rw [wrap_i64 (by omega) (by omega)]; omega
   have hro : (decide (0 <= (i : Int)) && decide ((i : Int) < zi l.length) && (PV.isSt 99 #[Field.mk "Kind" 3 0 false "" "" 0, Field.mk "N" 3 1 false "" "" 8, Field.mk "S" 9 2 false "" "" 16].size (l.getD i PV.top) && (PV.isInt IntKind.i64 (PV.child 0 (l.getD i PV.top)) && (PV.isInt IntKind.i64 (PV.child (0 + 1) (l.getD i PV.top)) && ((PV.child (0 + 1 + 1) (l.getD i PV.top)).isStr && true)))) && true) = true := by
    have hq : (PV.isSt 99 #[Field.mk "Kind" 3 0 false "" "" 0, Field.mk "N" 3 1 false "" "" 8, Field.mk "S" 9 2 false "" "" 16].size (l.getD i PV.top) && (PV.isInt IntKind.i64 (PV.child 0 (l.getD i PV.top)) && (PV.isInt IntKind.i64 (PV.child (0 + 1) (l.getD i PV.top)) && ((PV.child (0 + 1 + 1) (l.getD i PV.top)).isStr && true)))) = true := GP (ZH h1 (by omega))
    rw [hq]; simp [zi]; omega
   have hd := Qf (l := l) (i := i) (by omega)
   have hmem : l.getD i .top ∈ l := by rw [List.getD_eq_getElem?_getD, List.getElem?_eq_getElem (by omega)]; exact List.getElem_mem (by omega)
   have hsz := h3 _ hmem
   have hs2 : (PV.child (0 + 1 + 1) (l.getD i PV.top)).str.size.ble 65535 = true := Nat.ble_eq.symm ▸ hsz
   have hi2 : i * 65546 <= 999 * 65546 := Nat.mul_le_mul_right _ (by omega)
   simp only [XT, Y0, g1, w1, List.take_length]
   refine (Jc (by simp [zi]; omega)).trans ((Jc hro).trans ((Jc (Q5 (by omega))).trans ((Jc hro).trans ((Jc (Q5 (by rw [JaX]; omega))).trans ((Jc hro).trans ((Jc (by rw [Q5 (by rw [XV, JaX]; omega), hs2]; rfl)).trans ?_))))))
   rw [Joh]
   refine (JlS l h1 h3 h2 f k0 z fl d (i + 1) n _ (by omega) (by omega) (by rw [List.length_append, JG, V8]; omega)).trans ?_
   rw [hd]
   simp only [XU, List.flatMap_cons, J4, List.append_assoc]
theorem JlT {l : List PV} : apY [] (zi l.length) = pu .u8 [IntKind.u8.wrap (zi l.length)] := by rw [GX]; rfl
def Jel : List PV -> List Ent -> (Res -> Option Res) -> Option Res
 | [.ro 99 z f l], [], k => bif cBy l then k ⟨.ow 5 16 [] 0 (opB l).length none, [], [.vec false 5 false (pu .u8 (opB l))]⟩ else none
 | _, _, _ => none
def JlU : Sig := { own := [], run := Jel }
theorem Joi (z f : Bool) (l : List PV) (h : cBy l = true) (k : Res -> Option Res) : Jsm 1010 z f l k = k ⟨.ow 5 16 [] 0 (opB l).length none, [], [.vec false 5 false (pu .u8 (opB l))]⟩ := by
 obtain ⟨h1, h3, h2⟩ := Jek.1 h
 have hY := JlT (l := l)
 rw [JlR]
 unfold Jsm
 refine (JlS l h1 h3 h2 1010 _ z f l.length 0 1010 _ (by omega) (by omega) (by rw [JaX]; simp)).trans ?_
 rw [List.drop_zero, hY, ← J4]
 rw [show [IntKind.u8.wrap (zi l.length)] ++ XU l = Jog l from rfl, JG]
theorem JlV : Jg tau Try.prog 111 JlU := Jg.mk' fun xs es k res hl hr => by
 change Jel xs es k = some res at hr
 unfold Jel at hr
 split at hr
 · rename_i z f l
   obtain ⟨hc, hr⟩ := JE hr
   exact Qr Jp JiX Jq Jqq Jqr (JiY (Vg 1010)) [] 0 0 (JvJ 1010) hl rfl ((Jzn 1010 z f l k).trans ((Joi z f l hc k).trans hr))
 · cases hr

def F53 : Fns := JH 111 JlU (JH 110 JlJ (JH 109 JlN (JH 108 JiW (F0))))
theorem Jsn : Jy tau Try.prog F53 := ((((JD).add Jhm JiU).add JlO Jqp).add JlK Jqf).add JlV Jqs
def Joj : An := (.seq .leaf (.seq .leaf (.seq .leaf (.seq .leaf (.seq .leaf (.seq .leaf .leaf))))))
def g53 (f : Nat) (y0 y1 d_Id y2 : Int) (y3 : List PV) (y4 : Int) (y5 y6 : Bool) (d_Op : List PV) (y7 y8 : Int) (k : Res -> Option Res) : Option Res := bif okL (apI [] y0).length (apI [] y0) then bif okL (apI (apI [] y0) y1).length (apI (apI [] y0) y1) then bif okL (apI (apI (apI [] y0) y1) d_Id).length (apI (apI (apI [] y0) y1) d_Id) then bif Jk ((apI (apI (apI (apI [] y0) y1) d_Id) y2).length + (List.take 32 y3).length) 1 && true then bif okL ((apI (apI (apI (apI [] y0) y1) d_Id) y2).length + (List.take 32 y3).length) (List.take (apI (apI (apI (apI [] y0) y1) d_Id) y2).length (apI (apI (apI (apI [] y0) y1) d_Id) y2) ++ List.take 32 y3) then bif cBy d_Op then bif Jj IntKind.u8 (List.take (opB d_Op).length (pu IntKind.u8 (opB d_Op))) && true then bif okL (apY (List.take (apI (apI (apI (apI [] y0) y1) d_Id) y2).length (apI (apI (apI (apI [] y0) y1) d_Id) y2) ++ List.take 32 y3) y4).length (apY (List.take (apI (apI (apI (apI [] y0) y1) d_Id) y2).length (apI (apI (apI (apI [] y0) y1) d_Id) y2) ++ List.take 32 y3) y4) && (ByteArray.mk (Array.mk (JC ((Ent.vec false 5 false (pu IntKind.u8 (opB d_Op))).nil, List.take (opB d_Op).length (List.drop 0 (pu IntKind.u8 (opB d_Op)))).snd))).size.ble 65535 then bif okL (apT (apY (List.take (apI (apI (apI (apI [] y0) y1) d_Id) y2).length (apI (apI (apI (apI [] y0) y1) d_Id) y2) ++ List.take 32 y3) y4) (ByteArray.mk (Array.mk (JC ((Ent.vec false 5 false (pu IntKind.u8 (opB d_Op))).nil, List.take (opB d_Op).length (List.drop 0 (pu IntKind.u8 (opB d_Op)))).snd)))).length (apT (apY (List.take (apI (apI (apI (apI [] y0) y1) d_Id) y2).length (apI (apI (apI (apI [] y0) y1) d_Id) y2) ++ List.take 32 y3) y4) (ByteArray.mk (Array.mk (JC ((Ent.vec false 5 false (pu IntKind.u8 (opB d_Op))).nil, List.take (opB d_Op).length (List.drop 0 (pu IntKind.u8 (opB d_Op)))).snd)))) then bif okL (apI (apT (apY (List.take (apI (apI (apI (apI [] y0) y1) d_Id) y2).length (apI (apI (apI (apI [] y0) y1) d_Id) y2) ++ List.take 32 y3) y4) (ByteArray.mk (Array.mk (JC ((Ent.vec false 5 false (pu IntKind.u8 (opB d_Op))).nil, List.take (opB d_Op).length (List.drop 0 (pu IntKind.u8 (opB d_Op)))).snd)))) y7).length (apI (apT (apY (List.take (apI (apI (apI (apI [] y0) y1) d_Id) y2).length (apI (apI (apI (apI [] y0) y1) d_Id) y2) ++ List.take 32 y3) y4) (ByteArray.mk (Array.mk (JC ((Ent.vec false 5 false (pu IntKind.u8 (opB d_Op))).nil, List.take (opB d_Op).length (List.drop 0 (pu IntKind.u8 (opB d_Op)))).snd)))) y7) then k (Res.mk (.ow 5 16 [] 0 (apI (apI (apT (apY (List.take (apI (apI (apI (apI [] y0) y1) d_Id) y2).length (apI (apI (apI (apI [] y0) y1) d_Id) y2) ++ List.take 32 y3) y4) (ByteArray.mk (Array.mk (JC ((Ent.vec false 5 false (pu IntKind.u8 (opB d_Op))).nil, List.take (opB d_Op).length (List.drop 0 (pu IntKind.u8 (opB d_Op)))).snd)))) y7) y8).length none) [] [.vec false 5 false (apI (apI (apT (apY (List.take (apI (apI (apI (apI [] y0) y1) d_Id) y2).length (apI (apI (apI (apI [] y0) y1) d_Id) y2) ++ List.take 32 y3) y4) (ByteArray.mk (Array.mk (JC ((Ent.vec false 5 false (pu IntKind.u8 (opB d_Op))).nil, List.take (opB d_Op).length (List.drop 0 (pu IntKind.u8 (opB d_Op)))).snd)))) y7) y8)]) else none else none else none else none else none else none else none else none else none else none
theorem e53 (f : Nat) (y0 y1 d_Id y2 : Int) (y3 : List PV) (y4 : Int) (y5 y6 : Bool) (d_Op : List PV) (y7 y8 : Int) (k : Res -> Option Res) : JQ tau F53 Try.f53 (Try.f53.body.get!) Joj [] 0 [.st 73 [.st 45 [.sc (.int .i64 y0), .sc (.int .i64 y1)], .sc (.int .i64 d_Id), .sc (.int .i64 y2), .ar 37 y3, .sc (.int .i64 y4), .ro 99 y5 y6 d_Op, .st 45 [.sc (.int .i64 y7), .sc (.int .i64 y8)]]] [] k = g53 f y0 y1 d_Id y2 y3 y4 y5 y6 d_Op y7 y8 k := by kernel_rfl
theorem Jzo (f : Nat) : Jf (Try.f53.body.get!) Joj = [] := by kernel_rfl
theorem Jzp (f : Nat) : ∀ q ∈ Jf (Try.f53.body.get!) Joj, q.Ok tau Try.prog 0 := by
 rw [Jzo f]; intro q hq; cases hq
theorem JvK : Try.prog.funcs[53]? = some Try.f53 := by kernel_rfl
theorem JvL : Try.f53.body = some (Try.f53.body.get!) := by kernel_rfl
theorem Jzq : Enters Try.prog 53 := enters_of JvK (by kernel_rfl) JvL

def F59 : Fns := JH 111 JlU (JH 109 JlN (JH 108 JiW (F0)))
theorem Jso : Jy tau Try.prog F59 := (((JD).add Jhm JiU).add JlO Jqp).add JlV Jqs
def Jok : An := (.seq .leaf (.seq .leaf (.seq .leaf .leaf)))
def g59 (f : Nat) (y0 y1 : Bool) (y2 y3 : List PV) (e_At : Int) (y4 y5 : Bool) (e_Op y6 y7 : List PV) (k : Res -> Option Res) : Option Res := bif Jj IntKind.u8 y2 && true then bif (ByteArray.mk (Array.mk (JC (y0, y2).snd))).size.ble 65535 then bif Jk ((apT [] (ByteArray.mk (Array.mk (JC (y0, y2).snd)))).length + (List.take 32 y3).length) 1 && true then bif okL ((apT [] (ByteArray.mk (Array.mk (JC (y0, y2).snd)))).length + (List.take 32 y3).length) (List.take (apT [] (ByteArray.mk (Array.mk (JC (y0, y2).snd)))).length (apT [] (ByteArray.mk (Array.mk (JC (y0, y2).snd)))) ++ List.take 32 y3) then bif cBy e_Op then bif Jj IntKind.u8 (List.take (opB e_Op).length (pu IntKind.u8 (opB e_Op))) && true then bif okL (apI (List.take (apT [] (ByteArray.mk (Array.mk (JC (y0, y2).snd)))).length (apT [] (ByteArray.mk (Array.mk (JC (y0, y2).snd)))) ++ List.take 32 y3) e_At).length (apI (List.take (apT [] (ByteArray.mk (Array.mk (JC (y0, y2).snd)))).length (apT [] (ByteArray.mk (Array.mk (JC (y0, y2).snd)))) ++ List.take 32 y3) e_At) && (ByteArray.mk (Array.mk (JC ((Ent.vec false 5 false (pu IntKind.u8 (opB e_Op))).nil, List.take (opB e_Op).length (List.drop 0 (pu IntKind.u8 (opB e_Op)))).snd))).size.ble 65535 then k (Res.mk (.ow 5 16 [] 0 (apT (apI (List.take (apT [] (ByteArray.mk (Array.mk (JC (y0, y2).snd)))).length (apT [] (ByteArray.mk (Array.mk (JC (y0, y2).snd)))) ++ List.take 32 y3) e_At) (ByteArray.mk (Array.mk (JC ((Ent.vec false 5 false (pu IntKind.u8 (opB e_Op))).nil, List.take (opB e_Op).length (List.drop 0 (pu IntKind.u8 (opB e_Op)))).snd)))).length none) [] [.vec false 5 false (apT (apI (List.take (apT [] (ByteArray.mk (Array.mk (JC (y0, y2).snd)))).length (apT [] (ByteArray.mk (Array.mk (JC (y0, y2).snd)))) ++ List.take 32 y3) e_At) (ByteArray.mk (Array.mk (JC ((Ent.vec false 5 false (pu IntKind.u8 (opB e_Op))).nil, List.take (opB e_Op).length (List.drop 0 (pu IntKind.u8 (opB e_Op)))).snd))))]) else none else none else none else none else none else none else none
theorem e59 (f : Nat) (y0 y1 : Bool) (y2 y3 : List PV) (e_At : Int) (y4 y5 : Bool) (e_Op y6 y7 : List PV) (k : Res -> Option Res) : JQ tau F59 Try.f59 (Try.f59.body.get!) Jok [] 0 [.st 93 [.st 77 [.ro 5 y0 y1 y2, .ar 37 y3], .sc (.int .i64 e_At), .ro 99 y4 y5 e_Op, .ar 37 y6, .ar 37 y7]] [] k = g59 f y0 y1 y2 y3 e_At y4 y5 e_Op y6 y7 k := by kernel_rfl
theorem Jzr (f : Nat) : Jf (Try.f59.body.get!) Jok = [] := by kernel_rfl
theorem Jzs (f : Nat) : ∀ q ∈ Jf (Try.f59.body.get!) Jok, q.Ok tau Try.prog 0 := by
 rw [Jzr f]; intro q hq; cases hq
theorem JvM : Try.prog.funcs[59]? = some Try.f59 := by kernel_rfl
theorem JvN : Try.f59.body = some (Try.f59.body.get!) := by kernel_rfl
theorem JvO : Enters Try.prog 59 := enters_of JvM (by kernel_rfl) JvN
-- FN sign.Core | ref9.Core
def tx (l : List PV) : ByteArray := ByteArray.mk (Array.mk (JC l))
theorem ZL (l : List PV) : (tx l).size = l.length := YV l
structure EV where
 (b m : List PV) (at1 : Int) (o : List PV)
def Jem (e : EV) : List Int := Xu (tx e.b) ++ (Jw e.m ++ (Qc e.at1 ++ Xu (tx (pu .u8 (opB e.o)))))
def Jr : EV -> List Int := hid Jem
theorem JfK (e : EV) : Jr e = Jem e := by rw [Jr, hid_eq]
def eOk : EV -> Bool := hid fun e => Jj .u8 e.b && (decide (e.b.length <= 65535) && (Jj .u8 e.m && (decide (e.m.length = 32) && (cBy e.o && decide ((opB e.o).length <= 65535)))))
theorem XW {e : EV} : eOk e = true ↔ Jj .u8 e.b = true /\ e.b.length <= 65535 /\ Jj .u8 e.m = true /\ e.m.length = 32 /\ cBy e.o = true /\ (opB e.o).length <= 65535 := by
 rw [eOk, hid_eq]; simp only [Bool.and_eq_true, decide_eq_true_eq]
theorem V9 {e : EV} (h : eOk e = true) : (Jr e).length = e.b.length + (opB e.o).length + 44 := by
 obtain ⟨h1, h2, h3, h4, h5, h6⟩ := XW.1 h
 rw [JfK]
 simp only [Jem, List.length_append, V4, Wd, YY, ZL, JG, h4]; omega
theorem Jhn {e : EV} (h : eOk e = true) : apT (apI (apT [] (tx e.b) ++ List.take 32 e.m) e.at1) (tx (pu .u8 (opB e.o))) = pu .u8 (Jr e) := by
 obtain ⟨h1, h2, h3, h4, h5, h6⟩ := XW.1 h
 rw [JfK, YZ, Vf, YZ, List.take_of_length_le (by omega)]
 simp only [Jem, J4, List.nil_append, List.append_assoc, ← Qp h3]
def Jho : List PV -> List Ent -> (Res -> Option Res) -> Option Res
 | [.st 93 [.st 77 [.ro 5 bz bf b, .ar 37 m], .sc (.int .i64 at1), .ro 99 oz of o, .ar 37 h, .ar 37 mc]], [], k => bif eOk ⟨b, m, at1, o⟩ then k ⟨.ow 5 16 [] 0 (Jr ⟨b, m, at1, o⟩).length none, [], [.vec false 5 false (pu .u8 (Jr ⟨b, m, at1, o⟩))]⟩ else none
 | _, _, _ => none
def Jsp : Sig := { own := [], run := Jho }
theorem Jsq (bz bf : Bool) (b m : List PV) (at1 : Int) (oz of : Bool) (o h mc : List PV) (he : eOk ⟨b, m, at1, o⟩ = true) (k : Res -> Option Res) : g59 0 bz bf b m at1 oz of o h mc k = k ⟨.ow 5 16 [] 0 (Jr ⟨b, m, at1, o⟩).length none, [], [.vec false 5 false (pu .u8 (Jr ⟨b, m, at1, o⟩))]⟩ := by
 have hl := V9 he
 have hp := Jhn he
 obtain ⟨h1, h2, h3, h4, h5, h6⟩ := XW.1 he
 simp only at hl hp h1 h2 h3 h4 h5 h6
 have ht : ∀ l : List PV, ByteArray.mk (Array.mk (JC l)) = tx l := fun l => rfl
 have hm : List.take 32 m = m := List.take_of_length_le (by omega)
 have l1 : (apT [] (tx b)).length = b.length + 2 := by rw [YZ]; simp [ZL]
 have l2 : ∀ (L : List PV) (n : Int), (apI L n).length = L.length + 8 := XV
 have htp : ∀ l : List Int, List.take l.length (pu .u8 l) = pu .u8 l := fun l => List.take_of_length_le (by simp)
 have hcat : ∀ n, n = (apT [] (tx b)).length + m.length -> List.take n (apT [] (tx b) ++ m) = apT [] (tx b) ++ m := fun n hn => List.take_of_length_le (by simp; omega)
 rw [hm] at hp
 unfold g59
 simp only [ht, hm, List.take_length, htp, List.drop_zero, hcat _ rfl, ZL, JG]
 refine (Jc (by rw [h1]; rfl)).trans ((Jc (by rw [Nat.ble_eq]; exact h2)).trans ((Jc (by simp only [Jk, Nat.mul_one, Bool.and_true, decide_eq_true_eq, l1]; omega)).trans ((Jc (by rw [show (apT [] (tx b)).length + m.length = (apT [] (tx b) ++ m).length from (List.length_append).symm, Q5 (by rw [List.length_append, l1]; omega)])).trans ((Jc h5).trans ((Jc (by rw [JR]; rfl)).trans ((Jc (by rw [Q5 (by rw [l2, List.length_append, l1]; omega), Bool.true_and, Nat.ble_eq]; exact h6)).trans ?_))))))
 rw [hp]
 rw [JG]
theorem Jqt : Jg tau Try.prog 59 Jsp := Jg.mk' fun xs es k res hl hr => by
 change Jho xs es k = some res at hr
 unfold Jho at hr
 split at hr
 · rename_i bz bf b m at1 oz of o h mc
   obtain ⟨hc, hr⟩ := JE hr
   exact Qr Jp Jso Jq JvM JvN Jok [] 0 0 (Jzs 0) hl rfl ((e59 0 bz bf b m at1 oz of o h mc k).trans ((Jsq bz bf b m at1 oz of o h mc hc k).trans hr))
 · cases hr
-- FN delta.Bytes | ref8.Bytes
structure DV where
 (ad au id ve : Int) (h : List PV) (kd : Int) (o : List PV) (wd wu : Int)
def JlW (d : DV) : List Int := Qc d.ad ++ (Qc d.au ++ (Qc d.id ++ (Qc d.ve ++ (Jw d.h ++ ([IntKind.u8.wrap d.kd] ++ (Xu (tx (pu .u8 (opB d.o))) ++ (Qc d.wd ++ Qc d.wu)))))))
def dlB : DV -> List Int := hid JlW
theorem Jhp (d : DV) : dlB d = JlW d := by rw [dlB, hid_eq]
def dOk : DV -> Bool := hid fun d => Jj .u8 d.h && (decide (d.h.length = 32) && (cBy d.o && decide ((opB d.o).length <= 65535)))
theorem XX {d : DV} : dOk d = true ↔ Jj .u8 d.h = true /\ d.h.length = 32 /\ cBy d.o = true /\ (opB d.o).length <= 65535 := by
 rw [dOk, hid_eq]; simp only [Bool.and_eq_true, decide_eq_true_eq]
theorem Vh {d : DV} (h : dOk d = true) : (dlB d).length = (opB d.o).length + 83 := by
 obtain ⟨h1, h2, h3, h4⟩ := XX.1 h
 rw [Jhp]
 simp only [JlW, List.length_append, V4, Wd, YY, ZL, JG, h2, List.length_cons, List.length_nil]; omega
theorem JlX {d : DV} (h : dOk d = true) : apI (apI (apT (apY (apI (apI (apI (apI [] d.ad) d.au) d.id) d.ve ++ List.take 32 d.h) d.kd) (tx (pu .u8 (opB d.o)))) d.wd) d.wu = pu .u8 (dlB d) := by
 obtain ⟨h1, h2, h3, h4⟩ := XX.1 h
 rw [Jhp, List.take_of_length_le (by omega)]
 simp only [YZ, Vf, GX, JlW, J4, List.nil_append, List.append_assoc, ← Qp h1]
def Jhq : List PV -> List Ent -> (Res -> Option Res) -> Option Res
 | [.st 73 [.st 45 [.sc (.int .i64 ad), .sc (.int .i64 au)], .sc (.int .i64 id1), .sc (.int .i64 ve), .ar 37 h, .sc (.int .i64 kd), .ro 99 oz of o, .st 45 [.sc (.int .i64 wd), .sc (.int .i64 wu)]]], [], k => bif dOk ⟨ad, au, id1, ve, h, kd, o, wd, wu⟩ then k ⟨.ow 5 16 [] 0 (dlB ⟨ad, au, id1, ve, h, kd, o, wd, wu⟩).length none, [], [.vec false 5 false (pu .u8 (dlB ⟨ad, au, id1, ve, h, kd, o, wd, wu⟩))]⟩ else none
 | _, _, _ => none
def JvP : Sig := { own := [], run := Jhq }
theorem Jsr (ad au id1 ve : Int) (h : List PV) (kd : Int) (oz of : Bool) (o : List PV) (wd wu : Int) (he : dOk ⟨ad, au, id1, ve, h, kd, o, wd, wu⟩ = true) (k : Res -> Option Res) : g53 0 ad au id1 ve h kd oz of o wd wu k = k ⟨.ow 5 16 [] 0 (dlB ⟨ad, au, id1, ve, h, kd, o, wd, wu⟩).length none, [], [.vec false 5 false (pu .u8 (dlB ⟨ad, au, id1, ve, h, kd, o, wd, wu⟩))]⟩ := by
 have hl := Vh he
 have hp := JlX he
 obtain ⟨h1, h2, h3, h4⟩ := XX.1 he
 simp only at hl hp h1 h2 h3 h4
 have ht : ∀ l : List PV, ByteArray.mk (Array.mk (JC l)) = tx l := fun l => rfl
 have hm : List.take 32 h = h := List.take_of_length_le (by omega)
 have l1 : ∀ (L : List PV) (n : Int), (apY L n).length = L.length + 1 := JaX
 have l2 : ∀ (L : List PV) (n : Int), (apI L n).length = L.length + 8 := XV
 have l3 : ∀ (L : List PV), (apT L (tx (pu .u8 (opB o)))).length = L.length + ((opB o).length + 2) := fun L => by rw [YZ]; simp [ZL]
 have htp : ∀ l : List Int, List.take l.length (pu .u8 l) = pu .u8 l := fun l => List.take_of_length_le (by simp)
 have hcat : ∀ L : List PV, List.take (L.length + h.length) (L ++ h) = L ++ h := fun L => List.take_of_length_le (by simp)
 rw [hm] at hp
 unfold g53
 simp only [ht, hm, List.take_length, htp, List.drop_zero, hcat, ZL, JG]
 refine (Jc (Q5 (by simp only [l2, List.length_nil]; omega))).trans ((Jc (Q5 (by simp only [l2, List.length_nil]; omega))).trans ((Jc (Q5 (by simp only [l2, List.length_nil]; omega))).trans ?_))
 refine (Jc (by simp only [Jk, Nat.mul_one, Bool.and_true, decide_eq_true_eq, l2, List.length_nil]; omega)).trans ?_
 refine (Jc (by rw [show ∀ L : List PV, L.length + h.length = (L ++ h).length from fun L => (List.length_append).symm, Q5 (by simp only [List.length_append, l2, List.length_nil]; omega)])).trans ((Jc h3).trans ((Jc (by rw [JR]; rfl)).trans ?_))
 refine (Jc (by rw [Q5 (by simp only [l1, List.length_append, l2, List.length_nil]; omega), Bool.true_and, Nat.ble_eq]; exact h4)).trans ?_
 refine (Jc (Q5 (by rw [l3]; simp only [l1, List.length_append, l2, List.length_nil]; omega))).trans ?_
 refine (Jc (Q5 (by rw [l2, l3]; simp only [l1, List.length_append, l2, List.length_nil]; omega))).trans ?_
 rw [hp]
 rw [JG]
theorem JvQ : Jg tau Try.prog 53 JvP := Jg.mk' fun xs es k res hl hr => by
 change Jhq xs es k = some res at hr
 unfold Jhq at hr
 split at hr
 · rename_i ad au id1 ve h kd oz of o wd wu
   obtain ⟨hc, hr⟩ := JE hr
   exact Qr Jp Jsn Jq JvK JvL Joj [] 0 0 (Jzp 0) hl rfl ((e53 0 ad au id1 ve h kd oz of o wd wu k).trans ((Jsr ad au id1 ve h kd oz of o wd wu hc k).trans hr))
 · cases hr
-- FN delta.Check | ref8.Check
def Jss (d : DV) : Int :=
 bif inZ d.ad 2 && (inZ d.au 7 && (inZ d.id 1073741824 && inZ d.ve 1048576)) then
  (bif d.kd == 1 then (bif ckO d.o == 0 then (bif d.wd == 0 && d.wu == 0 then 0 else 1) else ckO d.o)
  else bif d.kd == 2 || d.kd == 3 then (bif d.o.isEmpty && (inZ d.wd 2 && inZ d.wu 7) then 0 else 1)
  else 3)
 else 1
def dCk : DV -> Int := hid Jss
theorem Jst (d : DV) : dCk d = Jss d := by rw [dCk, hid_eq]
theorem Ji0 (x m : Int) : inZ x m = (decide (x >= 0) && decide (x <= m)) := rfl
theorem Jzt (x : Int) : decide (x < 0) = !decide (x >= 0) := by rw [← decide_not]; apply decide_eq_decide.2; omega
theorem Jzu (x m : Int) : decide (x > m) = !decide (x <= m) := by rw [← decide_not]; apply decide_eq_decide.2; omega
theorem JlY (l : List PV) : decide (zi l.length > 0) = !l.isEmpty := by
 cases l with
 | nil => rfl
 | cons p ps => exact decide_eq_true (by simp only [zi, List.length_cons]; omega)
theorem Jol (ad au id1 ve : Int) (h : List PV) (kd : Int) (oz of : Bool) (o : List PV) (wd wu : Int) (hc : cOk o = true) (k : Res -> Option Res) : JnG 0 ad au id1 ve h kd oz of o wd wu k = k ⟨.sc (.int .i64 (dCk ⟨ad, au, id1, ve, h, kd, o, wd, wu⟩)), [], []⟩ := by
 rw [Jst]
 unfold JnG Jss
 simp only [hc, JlY, cond_true, bne]
 simp only [Ji0, JiA, Jzt, Jzu]
 have h2 : (kd == 2) = true -> (kd == 1) = false := fun h => by
     have : kd = 2 := by simpa using h
     rw [this]; decide
 generalize o.isEmpty = e0
 generalize (kd == 1) = d1 at *
 generalize (kd == 2) = d2 at *
 generalize (kd == 3) = d3
 generalize (wd == 0) = w0
 generalize (wu == 0) = w1
 generalize hck : ckO o = ck
 cases decide (ad >= 0)
 · rfl
 cases decide (ad <= 2)
 · rfl
 cases decide (au >= 0)
 · rfl
 cases decide (au <= 7)
 · rfl
 cases decide (id1 >= 0)
 · rfl
 cases decide (id1 <= 1073741824)
 · rfl
 cases decide (ve >= 0)
 · rfl
 cases decide (ve <= 1048576)
 · rfl
 cases d1
 · cases d2
   · cases d3
     · rfl
     · cases e0 <;> cases decide (wd >= 0) <;> cases decide (wd <= 2) <;> cases decide (wu >= 0) <;> cases decide (wu <= 7) <;> rfl
   · cases e0 <;> cases decide (wd >= 0) <;> cases decide (wd <= 2) <;> cases decide (wu >= 0) <;> cases decide (wu <= 7) <;> rfl
 · cases ck == 0 <;> cases w0 <;> cases w1 <;> rfl
def Jen : List PV -> List Ent -> (Res -> Option Res) -> Option Res
 | [.st 73 [.st 45 [.sc (.int .i64 ad), .sc (.int .i64 au)], .sc (.int .i64 id1), .sc (.int .i64 ve), .ar 37 h, .sc (.int .i64 kd), .ro 99 oz of o, .st 45 [.sc (.int .i64 wd), .sc (.int .i64 wu)]]], [], k => bif cOk o then k ⟨.sc (.int .i64 (dCk ⟨ad, au, id1, ve, h, kd, o, wd, wu⟩)), [], []⟩ else none
 | _, _, _ => none
def Jqu : Sig := { own := [], run := Jen }
theorem Jsu : Jg tau Try.prog 107 Jqu := Juu.of fun xs es k res hr => by
 change Jen xs es k = some res at hr
 unfold Jen at hr
 split at hr
 · rename_i ad au id1 ve h kd oz of o wd wu
   obtain ⟨hc, hr⟩ := JE hr
   exact (Jol ad au id1 ve h kd oz of o wd wu hc k).trans hr
 · cases hr
-- FN ref12.below | ref12.Has
structure AV where
 (d u : Int)
def XY : PV -> Bool
 | .st t [.sc (.int .i64 _), .sc (.int .i64 _)] => t == 45
 | _ => false
def adP (a : AV) : PV := .st 45 [.sc (.int .i64 a.d), .sc (.int .i64 a.u)]
def av (p : PV) : AV := ⟨(p.child 0).int, (p.child 1).int⟩
theorem JbO {p : PV} : XY p = true ↔ ∃ a, p = adP a := by
 constructor
 · intro h
   unfold XY at h
   split at h
   · rename_i t d u
     obtain rfl : t = 45 := by simpa using h
     exact ⟨⟨d, u⟩, rfl⟩
   · cases h
 · rintro ⟨a, rfl⟩; rfl
theorem Jeo {p : PV} (h : XY p = true) : adP (av p) = p := by obtain ⟨a, rfl⟩ := JbO.1 h; rfl
def GZ (p : PV) : Bool := PV.isSt 45 #[Field.mk "D" 3 0 false "" "" 0, Field.mk "U" 3 1 false "" "" 8].size p && (PV.isInt IntKind.i64 (PV.child 0 p) && (PV.isInt IntKind.i64 (PV.child (0 + 1) p) && true))
theorem Xv {p : PV} (h : XY p = true) : GZ p = true := by
 obtain ⟨a, rfl⟩ := JbO.1 h
 rfl
theorem WH {l : List PV} (h : l.all XY = true) {i : Nat} (hi : i < l.length) : XY (l.getD i .top) = true := by
 rw [List.getD_eq_getElem?_getD, List.getElem?_eq_getElem hi]
 exact List.all_eq_true.1 h _ (List.getElem_mem hi)
def eqA (x y : AV) : Bool := x.d == y.d && (x.u == y.u && true)
theorem Jep {x y : AV} : eqA x y = true ↔ x = y := by
 obtain ⟨a, b⟩ := x; obtain ⟨c, d⟩ := y
 simp [eqA]
def ltA (x y : AV) : Bool := decide (x.d < y.d) || (x.d == y.d && decide (x.u < y.u))
theorem Jeq {x y : AV} : ltA x y = true ↔ x.d < y.d ∨ (x.d = y.d /\ x.u < y.u) := by simp [ltA]
def srt : List PV -> Bool
 | [] => true
 | p :: ps => ps.all (fun q => ltA (av p) (av q)) && srt ps
def pOk : List PV -> Bool := hid fun l => l.all XY && (srt l && decide (l.length <= 8))
theorem Q9 {l : List PV} : pOk l = true ↔ l.all XY = true /\ srt l = true /\ l.length <= 8 := by
 rw [pOk, hid_eq]; simp only [Bool.and_eq_true, decide_eq_true_eq]
structure PH where
 (l : List PV) (a : AV)
def hasL (l : List PV) (a : AV) : Bool := l.any fun p => eqA (av p) a
def hasP : PH -> Bool := hid fun x => hasL x.l x.a
theorem hasP_eq (x : PH) : hasP x = hasL x.l x.a := by rw [hasP, hid_eq]
def Jom : AV -> AV -> Bool := hid ltA
theorem Ji1 (x y : AV) : Jom x y = ltA x y := by rw [Jom, hid_eq]
theorem JlZ (l : List PV) (d u : Int) (h1 : l.all XY = true) (h2 : l.length <= 1000) (f : Nat) (k0 : Bool -> Option Res) (k1 : Option Res) (z fl : Bool) : ∀ (e i n : Nat), i + e = l.length -> e < n ->
  XL f k0 k1 n z fl l (i : Int) d u = bif hasL (l.drop i) ⟨d, u⟩ then k0 true else k1
 | 0, i, n + 1, hi, hn => by
   rw [List.drop_of_length_le (by omega)]
   simp only [XL, YM]
   exact Ji (by simp [zi]; omega)
 | e + 1, i, n + 1, hi, hn => by
   have g1 : ((i : Int)).toNat = i := by omega
   have w1 : IntKind.i64.wrap ((i : Int) + 1) = ((i + 1 : Nat) : Int) := by rw [wrap_i64 (by omega) (by omega)]; omega
   have hd := Qf (l := l) (i := i) (by omega)
   have hc := Xv (WH h1 (i := i) (by omega))
   unfold GZ at hc
   rw [hd]
   simp only [XL, YM, g1, w1]
   refine (Jc (by simp [zi]; omega)).trans ((Jc (by rw [hc]; simp [zi]; omega)).trans ?_)
   have he : ((PV.child 0 (l.getD i PV.top)).int == d && ((PV.child (0 + 1) (l.getD i PV.top)).int == u && true)) = eqA (av (l.getD i .top)) ⟨d, u⟩ := rfl
   rw [he]
   have hh : hasL (l.getD i .top :: l.drop (i + 1)) ⟨d, u⟩ = (eqA (av (l.getD i .top)) ⟨d, u⟩ || hasL (l.drop (i + 1)) ⟨d, u⟩) := rfl
   rw [hh]
   cases eqA (av (l.getD i .top)) ⟨d, u⟩ with
   | true => rfl
   | false => exact (Ji rfl).trans (JlZ l d u h1 h2 f k0 k1 z fl e (i + 1) n (by omega) (by omega))
def Jer : List PV -> List Ent -> (Res -> Option Res) -> Option Res
 | [.ro 45 z f l, .st 45 [.sc (.int .i64 d), .sc (.int .i64 u)]], [], k => bif pOk l then k ⟨.sc (.bool (hasP ⟨l, ⟨d, u⟩⟩)), [], []⟩ else none
 | _, _, _ => none
def Ji2 : Sig := { own := [], run := Jer }
theorem Jon (z f : Bool) (l : List PV) (d u : Int) (h : pOk l = true) (k : Res -> Option Res) : JrA 20 z f l d u k = k ⟨.sc (.bool (hasP ⟨l, ⟨d, u⟩⟩)), [], []⟩ := by
 obtain ⟨h1, _, h3⟩ := Q9.1 h
 unfold JrA
 rw [hasP_eq]
 refine (JlZ l d u h1 (by omega) 20 _ _ z f l.length 0 20 (by omega) (by omega)).trans ?_
 rw [List.drop_zero]
 cases hasL l ⟨d, u⟩ <;> rfl
theorem Jhr : Jg tau Try.prog 116 Ji2 := Jg.mk' fun xs es k res hl hr => by
 change Jer xs es k = some res at hr
 unfold Jer at hr
 split at hr
 · rename_i z f l d u
   obtain ⟨hc, hr⟩ := JE hr
   exact Qr Jp Jiu Jq JpJ JpK (Jiv (Z9 20)) [.ro] 0 0 (Juf 20) hl rfl ((JyG 20 z f l d u k).trans ((Jon z f l d u hc k).trans hr))
 · cases hr
def Jes : List PV -> List Ent -> (Res -> Option Res) -> Option Res
 | [.st 45 [.sc (.int .i64 d), .sc (.int .i64 u)], .st 45 [.sc (.int .i64 d2), .sc (.int .i64 u2)]], [], k => k ⟨.sc (.bool (Jom ⟨d, u⟩ ⟨d2, u2⟩)), [], []⟩
 | _, _, _ => none
def Jqv : Sig := { own := [], run := Jes }
theorem Jsv : Jg tau Try.prog 148 Jqv := Jud.of fun xs es k res hr => by
 change Jes xs es k = some res at hr
 unfold Jes at hr
 split at hr
 · rename_i d u d2 u2
   refine Eq.trans ?_ hr
   show Jnw 0 d u d2 u2 k = _
   unfold Jnw
   rw [Ji1]
   show _ = k ⟨.sc (.bool (decide (d < d2) || (d == d2 && decide (u < u2)))), [], []⟩
   cases decide (d < d2) <;> cases (d == d2) <;> rfl
 · cases hr
-- FN slices.Equal[[]api.Addr,api.Addr]
structure AA where
 (a b : List PV)
def WS : List PV -> List PV -> Bool
 | [], [] => true
 | p :: ps, q :: qs => eqA (av p) (av q) && WS ps qs
 | _, _ => false
def JfL : AA -> Bool := hid fun x => WS x.a x.b
theorem ZM (x : AA) : JfL x = WS x.a x.b := by rw [JfL, hid_eq]
def JbP : List PV -> Bool := hid fun l => l.all XY && decide (l.length <= 1000)
theorem Y1 {l : List PV} : JbP l = true ↔ l.all XY = true /\ l.length <= 1000 := by
 rw [JbP, hid_eq, Bool.and_eq_true, decide_eq_true_eq]
theorem Jc3 : ∀ l : List PV, WS l l = true
 | [] => rfl
 | p :: ps => by simp only [WS, Jc3 ps, Jep.2 rfl, Bool.and_self]
theorem Ga : ∀ {a b : List PV}, WS a b = true -> a.length = b.length
 | [], [], _ => rfl
 | p :: ps, q :: qs, h => by
  simp only [WS, Bool.and_eq_true] at h
  simp [Ga h.2]
 | [], _ :: _, h => by simp [WS] at h
 | _ :: _, [], h => by simp [WS] at h
theorem JbQ : ∀ {a b : List PV}, a.all XY = true -> b.all XY = true -> (WS a b = true ↔ a = b)
 | [], [], _, _ => by simp [WS]
 | [], _ :: _, _, _ => by simp [WS]
 | _ :: _, [], _, _ => by simp [WS]
 | p :: ps, q :: qs, ha, hb => by
  simp only [List.all_cons, Bool.and_eq_true] at ha hb
  simp only [WS, Bool.and_eq_true, Jep, JbQ ha.2 hb.2]
  constructor
  · rintro ⟨h1, h2⟩; rw [h2, ← Jeo ha.1, ← Jeo hb.1, h1]
  · intro h; injection h with h1 h2; exact ⟨by rw [h1], h2⟩
theorem Jqw (a b : List PV) (ha : a.all XY = true) (hb : b.all XY = true) (hl : a.length = b.length) (h2 : a.length <= 1000) (f : Nat) (k0 : Bool -> Option Res) (k1 : Option Res) (z fl z' fl' : Bool) : ∀ (d i n : Nat), i + d = a.length -> d < n ->
  Z8 f k0 k1 n z fl a z' fl' b (zi a.length) (i : Int) = bif WS (a.drop i) (b.drop i) then k1 else k0 false
 | 0, i, n + 1, hi, hn => by
   rw [List.drop_of_length_le (l := a) (by omega), List.drop_of_length_le (l := b) (by omega)]
   simp only [Z8, VP]
   exact Ji (by simp [zi]; omega)
 | d + 1, i, n + 1, hi, hn => by
   have g1 : ((i : Int)).toNat = i := by omega
   have w1 : IntKind.i64.wrap ((i : Int) + 1) = ((i + 1 : Nat) : Int) := by rw [wrap_i64 (by omega) (by omega)]; omega
   have hro : ∀ l : List PV, l.all XY = true -> l.length = a.length -> (decide (0 <= (i : Int)) && decide ((i : Int) < zi l.length) && (PV.isSt 45 #[Field.mk "D" 3 0 false "" "" 0, Field.mk "U" 3 1 false "" "" 8].size (l.getD i PV.top) && (PV.isInt IntKind.i64 (PV.child 0 (l.getD i PV.top)) && (PV.isInt IntKind.i64 (PV.child (0 + 1) (l.getD i PV.top)) && true))) && true) = true := by
    intro l h1 h3
    have hq := Xv (WH h1 (i := i) (by omega))
    unfold GZ at hq
    rw [hq]; simp [zi]; omega
   have hs : ((PV.child 0 (a.getD i PV.top)).int == (PV.child 0 (b.getD i PV.top)).int && ((PV.child (0 + 1) (a.getD i PV.top)).int == (PV.child (0 + 1) (b.getD i PV.top)).int && true)) = eqA (av (a.getD i .top)) (av (b.getD i .top)) := rfl
   simp only [Z8, VP, g1, w1, hs]
   refine (Jc (by simp [zi]; omega)).trans ((Jc (hro a ha rfl)).trans ((Jc (hro b hb hl.symm)).trans ?_))
   rw [Qf (l := a) (i := i) (by omega), Qf (l := b) (i := i) (by omega), WS]
   cases eqA (av (a.getD i .top)) (av (b.getD i .top)) with
   | false => rfl
   | true =>
    rw [Bool.true_and]
    exact (Ji rfl).trans (Jqw a b ha hb hl h2 f k0 k1 z fl z' fl' d (i + 1) n (by omega) (by omega))
def Jhs : List PV -> List Ent -> (Res -> Option Res) -> Option Res
 | [.ro 45 z f a, .ro 45 z' f' b], [], k => bif JbP a && JbP b then k ⟨.sc (.bool (JfL ⟨a, b⟩)), [], []⟩ else none
 | _, _, _ => none
def JvR : Sig := { own := [], run := Jhs }
theorem Jsw (z f z' f' : Bool) (a b : List PV) (ha : JbP a = true) (hb : JbP b = true) (k : Res -> Option Res) : g67 (a.length + 2) z f a z' f' b k = k ⟨.sc (.bool (JfL ⟨a, b⟩)), [], []⟩ := by
 obtain ⟨h1, h2⟩ := Y1.1 ha
 obtain ⟨h3, h4⟩ := Y1.1 hb
 unfold g67
 rw [ZM]
 by_cases hl : a.length = b.length
 · refine (Ji (by simp [zi, hl])).trans ?_
   refine (Jqw a b h1 h3 hl h2 (a.length + 2) _ _ z f z' f' a.length 0 (a.length + 2) (by omega) (by omega)).trans ?_
   rw [List.drop_zero, List.drop_zero]
   cases WS a b <;> rfl
 · have hs : WS a b = false := by
    cases h : WS a b with
    | false => rfl
    | true => exact absurd (Ga h) hl
   rw [hs]
   exact Jc (by simp [zi]; omega)
theorem JvS : Jg tau Try.prog 67 JvR := Jg.mk' fun xs es k res hl hr => by
 change Jhs xs es k = some res at hr
 unfold Jhs at hr
 split at hr
 · rename_i z f a z' f' b
   obtain ⟨hc, hr⟩ := JE hr
   rw [Bool.and_eq_true] at hc
   exact Qr Jp JkT Jq Jt7 Jt8 (Jnt (Jbw (a.length + 2))) [.ro] 0 0 (JyC (a.length + 2)) hl rfl ((e67 (a.length + 2) z f a z' f' b k).trans ((Jsw z f z' f' a b hc.1 hc.2 k).trans hr))
 · cases hr
def F23 : Fns := JH 67 JvR (F0)
theorem Jsx : Jy tau Try.prog F23 := (JD).add JvS JyD
def Joo : An := (.seq .leaf (.seq .leaf .leaf))
def g23 (f : Nat) (y0 y1 : Int) (y2 : ByteArray) (y3 y4 : Bool) (y5 : List PV) (y6 : Int) (y7 : List PV) (y8 y9 : Int) (y10 : ByteArray) (y11 y12 : Bool) (y13 : List PV) (y14 : Int) (y15 : List PV) (k : Res -> Option Res) : Option Res := bif y0 == y8 && (y1 == y9 && true) then bif Yw y2 y10 then bif JbP y5 && JbP y13 then bif JfL (AA.mk y5 y13) then bif y6 == y14 then bif decide (y7.length = 32) && decide (y15.length = 32) && Jj IntKind.u8 y7 && Jj IntKind.u8 y15 && true then k (Res.mk (.sc (.bool (Qa y7 y15))) [] []) else none else k (Res.mk (.sc (.bool false)) [] []) else k (Res.mk (.sc (.bool false)) [] []) else none else k (Res.mk (.sc (.bool false)) [] []) else k (Res.mk (.sc (.bool false)) [] [])
theorem e23 (f : Nat) (y0 y1 : Int) (y2 : ByteArray) (y3 y4 : Bool) (y5 : List PV) (y6 : Int) (y7 : List PV) (y8 y9 : Int) (y10 : ByteArray) (y11 y12 : Bool) (y13 : List PV) (y14 : Int) (y15 : List PV) (k : Res -> Option Res) : JQ tau F23 Try.f23 (Try.f23.body.get!) Joo [.ro] 0 [.st 39 [.st 34 [.sc (.int .i64 y0), .sc (.int .i64 y1)], .sc (.string y2), .ro 45 y3 y4 y5, .sc (.int .i64 y6), .ar 37 y7], .st 39 [.st 34 [.sc (.int .i64 y8), .sc (.int .i64 y9)], .sc (.string y10), .ro 45 y11 y12 y13, .sc (.int .i64 y14), .ar 37 y15]] [] k = g23 f y0 y1 y2 y3 y4 y5 y6 y7 y8 y9 y10 y11 y12 y13 y14 y15 k := by kernel_rfl
theorem Jzv (f : Nat) : Jf (Try.f23.body.get!) Joo = [] := by kernel_rfl
theorem Jzw (f : Nat) : ∀ q ∈ Jf (Try.f23.body.get!) Joo, q.Ok tau Try.prog 0 := by
 rw [Jzv f]; intro q hq; cases hq
theorem JvT : Try.prog.funcs[23]? = some Try.f23 := by kernel_rfl
theorem JvU : Try.f23.body = some (Try.f23.body.get!) := by kernel_rfl
theorem Jzx : Enters Try.prog 23 := enters_of JvT (by kernel_rfl) JvU
def Jl0 : List PV -> List Ent -> (Res -> Option Res) -> Option Res
 | [.st 39 [.st 34 [.sc (.int .i64 y0), .sc (.int .i64 y1)], .sc (.string y2), .ro 45 y3 y4 y5, .sc (.int .i64 y6), .ar 37 y7], .st 39 [.st 34 [.sc (.int .i64 y8), .sc (.int .i64 y9)], .sc (.string y10), .ro 45 y11 y12 y13, .sc (.int .i64 y14), .ar 37 y15]], [], k => g23 0 y0 y1 y2 y3 y4 y5 y6 y7 y8 y9 y10 y11 y12 y13 y14 y15 k
 | _, _, _ => none
def s23 : Sig := { own := [], run := Jl0 }
theorem Jzy : Jg tau Try.prog 23 s23 := J0 Jp Jsx Jq JvT JvU Joo [.ro] 0 [] Jl0 (Jzw 0) fun xs es k res hr => by
 unfold Jl0 at hr
 split at hr
 · exact ⟨rfl, 0, (e23 0 _ _ _ _ _ _ _ _ _ _ _ _ _ _ _ _  _).trans hr⟩
 · cases hr
def JvV : Fns := F0
theorem Jop : Jy tau Try.prog JvV := JD
def Ji3 : An := (.seq .leaf (.seq .leaf .leaf))
def JvW (f : Nat) (k : Res -> Option Res) : Option Res := k (Res.mk (.ar 118 [.sc (.int .u32 1116352408), .sc (.int .u32 1899447441), .sc (.int .u32 3049323471), .sc (.int .u32 3921009573), .sc (.int .u32 961987163), .sc (.int .u32 1508970993), .sc (.int .u32 2453635748), .sc (.int .u32 2870763221), .sc (.int .u32 3624381080), .sc (.int .u32 310598401), .sc (.int .u32 607225278), .sc (.int .u32 1426881987), .sc (.int .u32 1925078388), .sc (.int .u32 2162078206), .sc (.int .u32 2614888103), .sc (.int .u32 3248222580), .sc (.int .u32 3835390401), .sc (.int .u32 4022224774), .sc (.int .u32 264347078), .sc (.int .u32 604807628), .sc (.int .u32 770255983), .sc (.int .u32 1249150122), .sc (.int .u32 1555081692), .sc (.int .u32 1996064986), .sc (.int .u32 2554220882), .sc (.int .u32 2821834349), .sc (.int .u32 2952996808), .sc (.int .u32 3210313671), .sc (.int .u32 3336571891), .sc (.int .u32 3584528711), .sc (.int .u32 113926993), .sc (.int .u32 338241895), .sc (.int .u32 666307205), .sc (.int .u32 773529912), .sc (.int .u32 1294757372), .sc (.int .u32 1396182291), .sc (.int .u32 1695183700), .sc (.int .u32 1986661051), .sc (.int .u32 2177026350), .sc (.int .u32 2456956037), .sc (.int .u32 2730485921), .sc (.int .u32 2820302411), .sc (.int .u32 3259730800), .sc (.int .u32 3345764771), .sc (.int .u32 3516065817), .sc (.int .u32 3600352804), .sc (.int .u32 4094571909), .sc (.int .u32 275423344), .sc (.int .u32 430227734), .sc (.int .u32 506948616), .sc (.int .u32 659060556), .sc (.int .u32 883997877), .sc (.int .u32 958139571), .sc (.int .u32 1322822218), .sc (.int .u32 1537002063), .sc (.int .u32 1747873779), .sc (.int .u32 1955562222), .sc (.int .u32 2024104815), .sc (.int .u32 2227730452), .sc (.int .u32 2361852424), .sc (.int .u32 2428436474), .sc (.int .u32 2756734187), .sc (.int .u32 3204031479), .sc (.int .u32 3329325298)]) [] [])
theorem Jzz (f : Nat) (k : Res -> Option Res) : JQ tau JvV Try.f123 (Try.f123.body.get!) Ji3 [.ro] 0 [] [] k = JvW f k := by kernel_rfl
theorem JvX (f : Nat) : Jf (Try.f123.body.get!) Ji3 = [] := by kernel_rfl
theorem JvY (f : Nat) : ∀ q ∈ Jf (Try.f123.body.get!) Ji3, q.Ok tau Try.prog 0 := by
 rw [JvX f]; intro q hq; cases hq
theorem Jqx : Try.prog.funcs[123]? = some Try.f123 := by kernel_rfl
theorem Jqy : Try.f123.body = some (Try.f123.body.get!) := by kernel_rfl
theorem JvZ : Enters Try.prog 123 := enters_of Jqx (by kernel_rfl) Jqy
def Jht : List PV -> List Ent -> (Res -> Option Res) -> Option Res
 | [], [], k => JvW 0  k
 | _, _, _ => none
def Jv0 : Sig := { own := [], run := Jht }
theorem Jv1 : Jg tau Try.prog 123 Jv0 := J0 Jp Jop Jq Jqx Jqy Ji3 [.ro] 0 [] Jht (JvY 0) fun xs es k res hr => by
 unfold Jht at hr
 split at hr
 · exact ⟨rfl, 0, (Jzz 0  _).trans hr⟩
 · cases hr
def N71 : Nat := 113
def F71 : Fns := JH 123 Jv0 (JH 122 Jp4 (JH 124 Jli F0))
theorem Jhu : Jy tau Try.prog F71 := ((JD.add Jlj Jp1).add JrT Ju2).add Jv1 JvZ
def Jc4 : Code := Qo (Try.f71.body.get!) [1, 1, 1, 0, 1, 0, 0]
def XZ : Nm := [(2, .any), (4, .any), (5, .any), (6, .any), (7, .any), (18, .any)]
def Y2 : Nm := [(2, .any), (4, .any), (7, .any)]
def JfM : An := (.seq .leaf (.seq (.cond .leaf .leaf) (.seq (.block none (.seq .leaf (.seq .leaf (.seq .leaf (.seq .leaf .leaf))))) .leaf)))
def Jc5 : Code := Qo (Try.f71.body.get!) [1, 1, 1, 1, 0, 1, 0, 0]
def X0 : Nm := [(2, .any), (4, .any), (7, .any), (100, .any)]
def Y3 : Nm := [(4, .any), (7, .any)]
def JfN : An := (.seq .leaf (.seq (.cond .leaf .leaf) (.seq (.block none (.seq .leaf .leaf)) .leaf)))
def Jsy (r0 : QE) (r1 : QE) : An := (.seq .leaf (.seq .leaf (.seq .leaf (.seq (.seq .leaf (.block none (.sum XZ N71 r0))) (.seq (.seq .leaf (.block none (.sum X0 N71 r1))) (.seq .leaf .leaf))))))
def Gb (f : Nat) (rc : Int -> List PV -> List PV -> List PV -> List PV -> List PV -> Option Res) (k0 : List PV -> List PV -> List PV -> Option Res) (v0 : Int) (v1 v2 v3 v4 v5 : List PV) : Option Res := bif decide (v0 < 64) then bif PV.isInt IntKind.u32 (Jb (PV.ar 113 v5) [4]) && true then bif PV.isInt IntKind.u32 (Jb (PV.ar 113 v5) [0]) && true then bif PV.isInt IntKind.u32 (Jb (PV.ar 113 v5) [7]) && true then bif PV.isInt IntKind.u32 (Jb (PV.ar 113 v5) [5]) && true then bif PV.isInt IntKind.u32 (Jb (PV.ar 113 v5) [6]) && true then bif decide (0 <= v0) && decide (v0 < zi 64) && true then bif PV.isInt IntKind.u32 (Jb (PV.ar 118 v4) [v0.toNat]) && true then bif decide (0 <= v0) && decide (v0 < zi 64) && true then bif PV.isInt IntKind.u32 (Jb (PV.ar 118 v3) [v0.toNat]) && true then bif PV.isInt IntKind.u32 (Jb (PV.ar 113 v5) [1]) && true then bif PV.isInt IntKind.u32 (Jb (PV.ar 113 v5) [2]) && true then bif PV.isInt IntKind.u32 (Jb (PV.ar 113 v5) [1]) && true then bif PV.isInt IntKind.u32 (Jb (PV.ar 113 v5) [2]) && true then bif PV.isInt IntKind.u32 (Jb (PV.ar 113 v5) [0]) && true then bif PV.isInt IntKind.u32 (Jb (PV.ar 113 v5) [1]) && true then bif PV.isInt IntKind.u32 (Jb (PV.ar 113 v5) [2]) && true then bif PV.isInt IntKind.u32 (Jb (PV.ar 113 v5) [3]) && true then bif PV.isInt IntKind.u32 (Jb (PV.ar 113 v5) [4]) && true then bif PV.isInt IntKind.u32 (Jb (PV.ar 113 v5) [5]) && true then bif PV.isInt IntKind.u32 (Jb (PV.ar 113 v5) [6]) && true then rc (IntKind.i64.wrap (v0 + 1)) v1 v2 v3 v4 ([.sc (.int .u32 (IntKind.u32.wrap (IntKind.u32.wrap (IntKind.u32.wrap (IntKind.u32.wrap (IntKind.u32.wrap ((Jb (PV.ar 113 v5) [7]).int + JA BinOp.xor IntKind.u32 (JA BinOp.xor IntKind.u32 (rr (Jb (PV.ar 113 v5) [4]).int 6) (rr (Jb (PV.ar 113 v5) [4]).int 11)) (rr (Jb (PV.ar 113 v5) [4]).int 25)) + JA BinOp.xor IntKind.u32 (JA BinOp.and IntKind.u32 (Jb (PV.ar 113 v5) [4]).int (Jb (PV.ar 113 v5) [5]).int) (JA BinOp.and IntKind.u32 (JA BinOp.xor IntKind.u32 (Int.ofNat (2 ^ IntKind.u32.bits - Nat.succ 0)) (Jb (PV.ar 113 v5) [4]).int) (Jb (PV.ar 113 v5) [6]).int)) + (Jb (PV.ar 118 v4) [v0.toNat]).int) + (Jb (PV.ar 118 v3) [v0.toNat]).int) + IntKind.u32.wrap (JA BinOp.xor IntKind.u32 (JA BinOp.xor IntKind.u32 (rr (Jb (PV.ar 113 v5) [0]).int 2) (rr (Jb (PV.ar 113 v5) [0]).int 13)) (rr (Jb (PV.ar 113 v5) [0]).int 22) + JA BinOp.xor IntKind.u32 (JA BinOp.xor IntKind.u32 (JA BinOp.and IntKind.u32 (Jb (PV.ar 113 v5) [0]).int (Jb (PV.ar 113 v5) [1]).int) (JA BinOp.and IntKind.u32 (Jb (PV.ar 113 v5) [0]).int (Jb (PV.ar 113 v5) [2]).int)) (JA BinOp.and IntKind.u32 (Jb (PV.ar 113 v5) [1]).int (Jb (PV.ar 113 v5) [2]).int))))), .sc (.int .u32 (Jb (PV.ar 113 v5) [0]).int), .sc (.int .u32 (Jb (PV.ar 113 v5) [1]).int), .sc (.int .u32 (Jb (PV.ar 113 v5) [2]).int), .sc (.int .u32 (IntKind.u32.wrap ((Jb (PV.ar 113 v5) [3]).int + IntKind.u32.wrap (IntKind.u32.wrap (IntKind.u32.wrap (IntKind.u32.wrap ((Jb (PV.ar 113 v5) [7]).int + JA BinOp.xor IntKind.u32 (JA BinOp.xor IntKind.u32 (rr (Jb (PV.ar 113 v5) [4]).int 6) (rr (Jb (PV.ar 113 v5) [4]).int 11)) (rr (Jb (PV.ar 113 v5) [4]).int 25)) + JA BinOp.xor IntKind.u32 (JA BinOp.and IntKind.u32 (Jb (PV.ar 113 v5) [4]).int (Jb (PV.ar 113 v5) [5]).int) (JA BinOp.and IntKind.u32 (JA BinOp.xor IntKind.u32 (Int.ofNat (2 ^ IntKind.u32.bits - Nat.succ 0)) (Jb (PV.ar 113 v5) [4]).int) (Jb (PV.ar 113 v5) [6]).int)) + (Jb (PV.ar 118 v4) [v0.toNat]).int) + (Jb (PV.ar 118 v3) [v0.toNat]).int)))), .sc (.int .u32 (Jb (PV.ar 113 v5) [4]).int), .sc (.int .u32 (Jb (PV.ar 113 v5) [5]).int), .sc (.int .u32 (Jb (PV.ar 113 v5) [6]).int)]) else none else none else none else none else none else none else none else none else none else none else none else none else none else none else none else none else none else none else none else none else k0 v1 v2 v5
def Y4 (f : Nat) (k0 : List PV -> List PV -> List PV -> Option Res) : Nat -> Int -> List PV -> List PV -> List PV -> List PV -> List PV -> Option Res
 | 0, _, _, _, _, _, _ => none
 | n + 1, v0, v1, v2, v3, v4, v5 => Gb f (Y4 f k0 n) k0 v0 v1 v2 v3 v4 v5
theorem Joq (f : Nat) (k : Kont) (n : Nat) (v0 : Int) (v1 v2 v3 v4 v5 : List PV) : Jl tau 0 XZ (fun s k => ev tau F71 0 0 Jc4 (JfM ) s k) (n + 1) (Jd XZ N71 [.ptr 1824 [], .ptr 1825 [], .ptr 1826 [], .ptr 1827 [], .ptr 1828 [], .sc (.int .i64 v0)] [(1824, .box false 113 (PV.ar 113 v1)), (1825, .box false 113 (PV.ar 113 v2)), (1826, .box false 118 (PV.ar 118 v3)), (1827, .box false 118 (PV.ar 118 v4)), (1828, .box false 113 (PV.ar 113 v5))]) (Jo tau 0 Y2 k) = Gb f (fun v0 v1 v2 v3 v4 v5 => Jl tau 0 XZ (fun s k => ev tau F71 0 0 Jc4 (JfM ) s k) n (Jd XZ N71 [.ptr 1824 [], .ptr 1825 [], .ptr 1826 [], .ptr 1827 [], .ptr 1828 [], .sc (.int .i64 v0)] [(1824, .box false 113 (PV.ar 113 v1)), (1825, .box false 113 (PV.ar 113 v2)), (1826, .box false 118 (PV.ar 118 v3)), (1827, .box false 118 (PV.ar 118 v4)), (1828, .box false 113 (PV.ar 113 v5))]) (Jo tau 0 Y2 k)) (fun x0 x1 x2 => k (Ex.exit 0) (Jd Y2 N71 [.ptr 1824 [], .ptr 1825 [], .ptr 1826 []] [(1824, .box false 113 (PV.ar 113 x0)), (1825, .box false 113 (PV.ar 113 x1)), (1826, .box false 113 (PV.ar 113 x2))])) v0 v1 v2 v3 v4 v5 := by kernel_rfl
theorem Ji4 (f : Nat) (k : Kont) : ∀ (n : Nat) (v0 : Int) (v1 v2 v3 v4 v5 : List PV), Jl tau 0 XZ (fun s k => ev tau F71 0 0 Jc4 (JfM ) s k) n (Jd XZ N71 [.ptr 1824 [], .ptr 1825 [], .ptr 1826 [], .ptr 1827 [], .ptr 1828 [], .sc (.int .i64 v0)] [(1824, .box false 113 (PV.ar 113 v1)), (1825, .box false 113 (PV.ar 113 v2)), (1826, .box false 118 (PV.ar 118 v3)), (1827, .box false 118 (PV.ar 118 v4)), (1828, .box false 113 (PV.ar 113 v5))]) (Jo tau 0 Y2 k) = Y4 f (fun x0 x1 x2 => k (Ex.exit 0) (Jd Y2 N71 [.ptr 1824 [], .ptr 1825 [], .ptr 1826 []] [(1824, .box false 113 (PV.ar 113 x0)), (1825, .box false 113 (PV.ar 113 x1)), (1826, .box false 113 (PV.ar 113 x2))])) n v0 v1 v2 v3 v4 v5 | 0, _, _, _, _, _, _ => rfl | n + 1, v0, v1, v2, v3, v4, v5 => (Joq f k n v0 v1 v2 v3 v4 v5).trans (congrArg (fun r => Gb f r (fun x0 x1 x2 => k (Ex.exit 0) (Jd Y2 N71 [.ptr 1824 [], .ptr 1825 [], .ptr 1826 []] [(1824, .box false 113 (PV.ar 113 x0)), (1825, .box false 113 (PV.ar 113 x1)), (1826, .box false 113 (PV.ar 113 x2))])) v0 v1 v2 v3 v4 v5) (by funext v0 v1 v2 v3 v4 v5; exact Ji4 f k n v0 v1 v2 v3 v4 v5))
def Jc6 (f : Nat) : List PV -> List (Nat × Ent) -> Kont -> Option Res
 | [.ptr 1824 [], .ptr 1825 [], .ptr 1826 [], .ptr 1827 [], .ptr 1828 [],
 PV.sc
  (Value.int IntKind.i64
   v0)], [(1824, .box false 113 (PV.ar 113 v1)), (1825, .box false 113 (PV.ar 113 v2)), (1826, .box false 118 (PV.ar 118 v3)), (1827, .box false 118 (PV.ar 118 v4)),
 (1828,
  Ent.box false 113
   (PV.ar 113
    v5))], k => Y4 f (fun x0 x1 x2 => k (Ex.exit
 0) (Jd Y2 N71 [.ptr 1824 [], .ptr 1825 [],
 PV.ptr 1826 []] [(1824, .box false 113 (PV.ar 113 x0)), (1825, .box false 113 (PV.ar 113 x1)), (1826, .box false 113 (PV.ar 113 x2))])) f v0 v1 v2 v3 v4 v5
 | _, _, _ => none
theorem Jsz (f : Nat) : Jf Jc4 JfM = [] := by kernel_rfl
theorem Jv2 (f : Nat) : (Item.l Jc4 XZ N71 (Jc6 f)).Ok tau Try.prog 0 := Jz Jp Jhu Jq (x := JfM) (nm2 := Y2) (Jm _ _ (by rw [Jsz f]; intro q hq; cases hq)) fun vs hp k res hr => by
 unfold Jc6 at hr
 split at hr
 · exact ⟨f, 0, (Ji4 f _ f _ _ _ _ _ _ ).trans hr⟩
 · cases hr
def Gc (f : Nat) (rc : Int -> List PV -> List PV -> List PV -> Option Res) (k0 : List PV -> List PV -> Option Res) (v0 : Int) (v1 v2 v3 : List PV) : Option Res := bif decide (v0 < 8) then bif decide (0 <= v0) && decide (v0 < zi 8) && true then bif PV.isInt IntKind.u32 (Jb (PV.ar 113 v3) [v0.toNat]) && true then bif decide (0 <= v0) && decide (v0 < zi 8) && true then bif PV.isInt IntKind.u32 (Jb (PV.ar 113 v1) [v0.toNat]) && true then bif decide (0 <= v0) && decide (v0 < zi 8) && true then rc (IntKind.i64.wrap (v0 + 1)) v1 v2 (v3.set v0.toNat (.sc (.int .u32 (IntKind.u32.wrap ((Jb (PV.ar 113 v3) [v0.toNat]).int + (Jb (PV.ar 113 v1) [v0.toNat]).int))))) else none else none else none else none else none else k0 v2 v3
def Y5 (f : Nat) (k0 : List PV -> List PV -> Option Res) : Nat -> Int -> List PV -> List PV -> List PV -> Option Res
 | 0, _, _, _, _ => none
 | n + 1, v0, v1, v2, v3 => Gc f (Y5 f k0 n) k0 v0 v1 v2 v3
theorem Jor (f : Nat) (k : Kont) (n : Nat) (v0 : Int) (v1 v2 v3 : List PV) : Jl tau 0 X0 (fun s k => ev tau F71 0 0 Jc5 (JfN ) s k) (n + 1) (Jd X0 N71 [.ptr 1824 [], .ptr 1825 [], .ptr 1826 [], .sc (.int .i64 v0)] [(1824, .box false 113 (PV.ar 113 v1)), (1825, .box false 113 (PV.ar 113 v2)), (1826, .box false 113 (PV.ar 113 v3))]) (Jo tau 0 Y3 k) = Gc f (fun v0 v1 v2 v3 => Jl tau 0 X0 (fun s k => ev tau F71 0 0 Jc5 (JfN ) s k) n (Jd X0 N71 [.ptr 1824 [], .ptr 1825 [], .ptr 1826 [], .sc (.int .i64 v0)] [(1824, .box false 113 (PV.ar 113 v1)), (1825, .box false 113 (PV.ar 113 v2)), (1826, .box false 113 (PV.ar 113 v3))]) (Jo tau 0 Y3 k)) (fun x0 x1 => k (Ex.exit 2) (Jd Y3 N71 [.ptr 1824 [], .ptr 1825 []] [(1824, .box false 113 (PV.ar 113 x0)), (1825, .box false 113 (PV.ar 113 x1))])) v0 v1 v2 v3 := by kernel_rfl
theorem Ji5 (f : Nat) (k : Kont) : ∀ (n : Nat) (v0 : Int) (v1 v2 v3 : List PV), Jl tau 0 X0 (fun s k => ev tau F71 0 0 Jc5 (JfN ) s k) n (Jd X0 N71 [.ptr 1824 [], .ptr 1825 [], .ptr 1826 [], .sc (.int .i64 v0)] [(1824, .box false 113 (PV.ar 113 v1)), (1825, .box false 113 (PV.ar 113 v2)), (1826, .box false 113 (PV.ar 113 v3))]) (Jo tau 0 Y3 k) = Y5 f (fun x0 x1 => k (Ex.exit 2) (Jd Y3 N71 [.ptr 1824 [], .ptr 1825 []] [(1824, .box false 113 (PV.ar 113 x0)), (1825, .box false 113 (PV.ar 113 x1))])) n v0 v1 v2 v3 | 0, _, _, _, _ => rfl | n + 1, v0, v1, v2, v3 => (Jor f k n v0 v1 v2 v3).trans (congrArg (fun r => Gc f r (fun x0 x1 => k (Ex.exit 2) (Jd Y3 N71 [.ptr 1824 [], .ptr 1825 []] [(1824, .box false 113 (PV.ar 113 x0)), (1825, .box false 113 (PV.ar 113 x1))])) v0 v1 v2 v3) (by funext v0 v1 v2 v3; exact Ji5 f k n v0 v1 v2 v3))
def Jc7 (f : Nat) : List PV -> List (Nat × Ent) -> Kont -> Option Res
 | [.ptr 1824 [], .ptr 1825 [], .ptr 1826 [],
 PV.sc
  (Value.int IntKind.i64
   v0)], [(1824, .box false 113 (PV.ar 113 v1)), (1825, .box false 113 (PV.ar 113 v2)),
 (1826,
  Ent.box false 113
   (PV.ar 113
    v3))], k => Y5 f (fun x0 x1 => k (Ex.exit
 2) (Jd Y3 N71 [.ptr 1824 [], .ptr 1825 []] [(1824, .box false 113 (PV.ar 113 x0)), (1825, .box false 113 (PV.ar 113 x1))])) f v0 v1 v2 v3
 | _, _, _ => none
theorem JsA (f : Nat) : Jf Jc5 JfN = [] := by kernel_rfl
theorem Jv3 (f : Nat) : (Item.l Jc5 X0 N71 (Jc7 f)).Ok tau Try.prog 0 := Jz Jp Jhu Jq (x := JfN) (nm2 := Y3) (Jm _ _ (by rw [JsA f]; intro q hq; cases hq)) fun vs hp k res hr => by
 unfold Jc7 at hr
 split at hr
 · exact ⟨f, 0, (Ji5 f _ f _ _ _ _ ).trans hr⟩
 · cases hr
def g71 (f : Nat) (s : List PV) (nl fl : Bool) (b : List PV) (k : Res -> Option Res) : Option Res := bif Jj IntKind.u8 b && decide (b.length = 64) then Y4 f (fun x0_0 x1_0 x2_0 => Y5 f (fun x0_1 x1_1 => k (Res.mk (.ar 113 x1_1) [] [])) f (0) x0_0 x1_0 x2_0) f (0) s ([.sc (.int .u32 0), .sc (.int .u32 0), .sc (.int .u32 0), .sc (.int .u32 0), .sc (.int .u32 0), .sc (.int .u32 0), .sc (.int .u32 0), .sc (.int .u32 0)]) (pu IntKind.u32 (J8 (Jw b))) ([.sc (.int .u32 1116352408), .sc (.int .u32 1899447441), .sc (.int .u32 3049323471), .sc (.int .u32 3921009573), .sc (.int .u32 961987163), .sc (.int .u32 1508970993), .sc (.int .u32 2453635748), .sc (.int .u32 2870763221), .sc (.int .u32 3624381080), .sc (.int .u32 310598401), .sc (.int .u32 607225278), .sc (.int .u32 1426881987), .sc (.int .u32 1925078388), .sc (.int .u32 2162078206), .sc (.int .u32 2614888103), .sc (.int .u32 3248222580), .sc (.int .u32 3835390401), .sc (.int .u32 4022224774), .sc (.int .u32 264347078), .sc (.int .u32 604807628), .sc (.int .u32 770255983), .sc (.int .u32 1249150122), .sc (.int .u32 1555081692), .sc (.int .u32 1996064986), .sc (.int .u32 2554220882), .sc (.int .u32 2821834349), .sc (.int .u32 2952996808), .sc (.int .u32 3210313671), .sc (.int .u32 3336571891), .sc (.int .u32 3584528711), .sc (.int .u32 113926993), .sc (.int .u32 338241895), .sc (.int .u32 666307205), .sc (.int .u32 773529912), .sc (.int .u32 1294757372), .sc (.int .u32 1396182291), .sc (.int .u32 1695183700), .sc (.int .u32 1986661051), .sc (.int .u32 2177026350), .sc (.int .u32 2456956037), .sc (.int .u32 2730485921), .sc (.int .u32 2820302411), .sc (.int .u32 3259730800), .sc (.int .u32 3345764771), .sc (.int .u32 3516065817), .sc (.int .u32 3600352804), .sc (.int .u32 4094571909), .sc (.int .u32 275423344), .sc (.int .u32 430227734), .sc (.int .u32 506948616), .sc (.int .u32 659060556), .sc (.int .u32 883997877), .sc (.int .u32 958139571), .sc (.int .u32 1322822218), .sc (.int .u32 1537002063), .sc (.int .u32 1747873779), .sc (.int .u32 1955562222), .sc (.int .u32 2024104815), .sc (.int .u32 2227730452), .sc (.int .u32 2361852424), .sc (.int .u32 2428436474), .sc (.int .u32 2756734187), .sc (.int .u32 3204031479), .sc (.int .u32 3329325298)]) s else none
theorem e71 (f : Nat) (s : List PV) (nl fl : Bool) (b : List PV) (k : Res -> Option Res) : JQ tau F71 Try.f71 (Try.f71.body.get!) (Jsy (Jc6 f) (Jc7 f)) [] 0 [.ar 113 s, .ro 5 nl fl b] [] k = g71 f s nl fl b k := by kernel_rfl
theorem JzA (f : Nat) : Jf (Try.f71.body.get!) (Jsy (Jc6 f) (Jc7 f)) = [.l Jc4 XZ N71 (Jc6 f), .l Jc5 X0 N71 (Jc7 f)] := by kernel_rfl
theorem JzB (f : Nat) : ∀ q ∈ Jf (Try.f71.body.get!) (Jsy (Jc6 f) (Jc7 f)), q.Ok tau Try.prog 0 := by
 rw [JzA f]; simp only [List.forall_mem_cons, List.not_mem_nil, false_implies, implies_true, and_true]; exact ⟨Jv2 f, Jv3 f⟩
theorem Jv4 : Try.prog.funcs[71]? = some Try.f71 := by kernel_rfl
theorem Jv5 : Try.f71.body = some (Try.f71.body.get!) := by kernel_rfl
theorem JzC : Enters Try.prog 71 := enters_of Jv4 (by kernel_rfl) Jv5
-- FN (sha.state).add
theorem Y6 {R : List Int} (h : R.length = 8) (j : Nat) (hj : j < 8) : (pu .u32 R).getD j .top = .sc (.int .u32 (R.getD j 0)) := YK (by omega)
theorem Jqz (W s : List Int) (hW : W.length = 64) (hs : s.length = 8) (f : Nat) (k0 : List PV -> List PV -> List PV -> Option Res) (a b : List PV) : ∀ (d i n : Nat), i + d = 64 -> d < n ->
  Y4 f k0 n (i : Int) a b (pu .u32 W) (pu .u32 kks) (pu .u32 (GU W s i)) = k0 a b (pu .u32 (GU W s 64))
 | 0, i, n + 1, h, hn => by
   obtain rfl : i = 64 := by omega
   simp only [Y4, Gb]
   exact Ji (by decide)
 | d + 1, i, n + 1, h, hn => by
   have hl := W6 W s hs i
   have h1 : IntKind.i64.wrap ((i : Int) + 1) = ((i + 1 : Nat) : Int) := by rw [wrap_i64 (by omega) (by omega)]; omega
   have hk : (pu .u32 kks).getD i .top = .sc (.int .u32 (kks.getD i 0)) := YK (by show i < 64; omega)
   have hw : (pu .u32 W).getD i .top = .sc (.int .u32 (W.getD i 0)) := YK (by omega)
   have c1 : decide ((i : Int) < 64) = true := by simp; omega
   have c2 : decide (0 <= (i : Int)) = true := by simp
   have c3 : decide ((i : Int) < zi 64) = true := by simp; omega
   simp only [Y4, Gb, W1, Int.toNat_natCast, h1, hk, hw, c1, c2, c3, Y6 hl 0 (by omega), Y6 hl 1 (by omega), Y6 hl 2 (by omega), Y6 hl 3 (by omega), Y6 hl 4 (by omega), Y6 hl 5 (by omega), Y6 hl 6 (by omega), Y6 hl 7 (by omega), PV.isInt, PV.int, decide_true, Bool.and_true, cond_true]
   exact Jqz W s hW hs f k0 a b d (i + 1) n (by omega) (by omega)
theorem JqA (t s : List Int) (ht : t.length = 8) (hs : s.length = 8) (f : Nat) (k0 : List PV -> List PV -> Option Res) (a : List PV) : ∀ (d i n : Nat), i + d = 8 -> d < n ->
  Y5 f k0 n (i : Int) (pu .u32 s) a (pu .u32 (Qx (fun j => ww (t.getD j 0 + s.getD j 0)) t i)) = k0 a (pu .u32 (Qx (fun j => ww (t.getD j 0 + s.getD j 0)) t 8))
 | 0, i, n + 1, h, hn => by
   obtain rfl : i = 8 := by omega
   simp only [Y5, Gc]
   exact Ji (by decide)
 | d + 1, i, n + 1, h, hn => by
   have hl : (Qx (fun j => ww (t.getD j 0 + s.getD j 0)) t i).length = 8 := by rw [VZ _ _ _ (by omega), ht]
   have h1 : IntKind.i64.wrap ((i : Int) + 1) = ((i + 1 : Nat) : Int) := by rw [wrap_i64 (by omega) (by omega)]; omega
   have c1 : decide ((i : Int) < 8) = true := by simp; omega
   have c2 : decide (0 <= (i : Int)) = true := by simp
   have c3 : decide ((i : Int) < zi 8) = true := by simp; omega
   have g1 : ((i : Int)).toNat = i := by omega
   simp only [Y5, Gc, W1, g1, h1, c1, c2, c3, Y6 hl i (by omega), Y6 hs i (by omega), JcY _ t i (by omega), PV.isInt, PV.int, decide_true, Bool.and_true, cond_true, WO]
   have := JqA t s ht hs f k0 a d (i + 1) n (by omega) (by omega)
   rw [← Qu _ t i (by omega)] at this
   exact this
theorem JsB (s bs : List Int) (hs : s.length = 8) (hb : bs.length = 64) (nl fl : Bool) (k : Res -> Option Res) : g71 100 (pu .u32 s) nl fl (pu .u8 bs) k = k ⟨.ar 113 (pu .u32 (Jhe s bs)), [], []⟩ := by
 have hW : (J8 bs).length = 64 := J3 bs 48
 have hc : (Jj .u8 (pu .u8 bs) && decide ((pu .u8 bs).length = 64)) = true := by simp [hb]
 refine (Jc hc).trans ?_
 rw [Q7]
 have h0 : ∀ k0 a b, Y4 100 k0 100 0 a b (pu .u32 (J8 bs)) (pu .u32 kks) (pu .u32 s) = k0 a b (pu .u32 (GU (J8 bs) s 64)) := fun k0 a b => Jqz (J8 bs) s hW hs 100 k0 a b 64 0 100 (by omega) (by omega)
 have ht := W6 (J8 bs) s hs 64
 have h1 : ∀ k0 a, Y5 100 k0 100 0 (pu .u32 s) a (pu .u32 (GU (J8 bs) s 64)) = k0 a (pu .u32 (Jhe s bs)) := by
  intro k0 a
  have := JqA (GU (J8 bs) s 64) s ht hs 100 k0 a 8 0 100 (by omega) (by omega)
  rw [QO] at this
  refine this.trans ?_
  have h2 := Q4 (fun j => ww ((GU (J8 bs) s 64).getD j 0 + s.getD j 0)) (GU (J8 bs) s 64)
  rw [ht] at h2; rw [h2]; rfl
 exact (h0 _ _ _).trans (h1 _ _)
def Jhv : List PV -> List Ent -> (Res -> Option Res) -> Option Res
 | [.ar 113 s, .ro 5 nl fl b], [], k => bif (Jj .u32 s && decide (s.length = 8)) && (Jj .u8 b && decide (b.length = 64)) then k ⟨.ar 113 (pu .u32 (Jhe (Jw s) (Jw b))), [], []⟩ else none
 | _, _, _ => none
def Jv6 : Sig := { own := [], run := Jhv }
theorem Jv7 : Jg tau Try.prog 71 Jv6 := J0 Jp Jhu Jq Jv4 Jv5 _ [] 0 [] Jhv (JzB 100) fun xs es k res hr => by
 unfold Jhv at hr
 split at hr
 · obtain ⟨hc, hr⟩ := JE hr
   simp only [Bool.and_eq_true, decide_eq_true_eq] at hc
   refine ⟨rfl, 0, (e71 100 _ _ _ _ _).trans ?_⟩
   rw [Qp hc.2.1, Qp hc.1.1, JsB _ _ (by simpa using hc.1.2) (by simpa using hc.2.2)]
   exact hr
 · cases hr
def N69 : Nat := 33
def F69 : Fns := F0
theorem Jhw : Jy tau Try.prog F69 := JD
def JbR : Code := Qo (Try.f69.body.get!) [1, 0, 1, 1, 1, 1, 0, 1, 0, 0]
def Xh : Nm := [(0, .any), (3, .any), (19, .any)]
def Y7 : Nm := [(0, .any)]
def JfO : An := (.seq .leaf (.seq (.cond .leaf .leaf) (.seq (.block none (.seq .leaf .leaf)) .leaf)))
def Gd : Code := Qo (Try.f69.body.get!) [1, 0]
def X1 : Nm := [(0, .any), (3, .any)]
def Y8 : Nm := [(2, .any)]
def Jc8 (r1 : QE) : An := (.seq .leaf (.seq .leaf (.seq .leaf (.seq (.seq .leaf (.cond (.seq .leaf .leaf) .leaf)) (.seq (.seq .leaf (.block none (.sum Xh N69 r1))) (.seq .leaf .leaf))))))
def JsC (r0 : Jyz) (r1 : QE) : An := (.seq .leaf (.ssum X1 N69 (Jc8 r1) r0))
def Ge (f : Nat) (rc : Nat -> Int -> Int -> Bool -> List PV -> Option Res) (k0 : Nat -> Bool -> List PV -> Option Res) (v0 : Nat) (v1 v2 : Int) (v3 : Bool) (v4 : List PV) : Option Res := bif decide (v2 < 8) then bif decide (0 <= IntKind.i64.wrap (56 - IntKind.i64.wrap (8 * v2))) && true then bif Jk (v0 + 1) 1 && true then rc (v0 + 1) v1 (IntKind.i64.wrap (v2 + 1)) (v3 && false) (List.take v0 v4 ++ [.sc (.int .u8 (IntKind.u8.wrap (JL IntKind.u64 v1 (IntKind.i64.wrap (56 - IntKind.i64.wrap (8 * v2))))))]) else none else none else k0 v0 v3 v4
def Xi (f : Nat) (k0 : Nat -> Bool -> List PV -> Option Res) : Nat -> Nat -> Int -> Int -> Bool -> List PV -> Option Res
 | 0, _, _, _, _, _ => none
 | n + 1, v0, v1, v2, v3, v4 => Ge f (Xi f k0 n) k0 v0 v1 v2 v3 v4
theorem Jos (f : Nat) (k : Kont) (n v0 : Nat) (v1 v2 : Int) (v3 : Bool) (v4 : List PV) : Jl tau 1 Xh (fun s k => ev tau F69 1 0 JbR (JfO ) s k) (n + 1) (Jd Xh N69 [.ow 5 545 [] 0 v0 none, .sc (.int .u64 v1), .sc (.int .i64 v2)] [(0, .dead), (545, .vec false 5 v3 v4)]) (Jo tau 1 Y7 k) = Ge f (fun v0 v1 v2 v3 v4 => Jl tau 1 Xh (fun s k => ev tau F69 1 0 JbR (JfO ) s k) n (Jd Xh N69 [.ow 5 545 [] 0 v0 none, .sc (.int .u64 v1), .sc (.int .i64 v2)] [(0, .dead), (545, .vec false 5 v3 v4)]) (Jo tau 1 Y7 k)) (fun x0 x1 x2 => k (Ex.exit 0) (Jd Y7 N69 [.ow 5 545 [] 0 x0 none] [(0, .dead), (545, .vec false 5 x1 x2)])) v0 v1 v2 v3 v4 := by kernel_rfl
theorem Ji6 (f : Nat) (k : Kont) : ∀ (n v0 : Nat) (v1 v2 : Int) (v3 : Bool) (v4 : List PV), Jl tau 1 Xh (fun s k => ev tau F69 1 0 JbR (JfO ) s k) n (Jd Xh N69 [.ow 5 545 [] 0 v0 none, .sc (.int .u64 v1), .sc (.int .i64 v2)] [(0, .dead), (545, .vec false 5 v3 v4)]) (Jo tau 1 Y7 k) = Xi f (fun x0 x1 x2 => k (Ex.exit 0) (Jd Y7 N69 [.ow 5 545 [] 0 x0 none] [(0, .dead), (545, .vec false 5 x1 x2)])) n v0 v1 v2 v3 v4 | 0, _, _, _, _, _ => rfl | n + 1, v0, v1, v2, v3, v4 => (Jos f k n v0 v1 v2 v3 v4).trans (congrArg (fun r => Ge f r (fun x0 x1 x2 => k (Ex.exit 0) (Jd Y7 N69 [.ow 5 545 [] 0 x0 none] [(0, .dead), (545, .vec false 5 x1 x2)])) v0 v1 v2 v3 v4) (by funext v0 v1 v2 v3 v4; exact Ji6 f k n v0 v1 v2 v3 v4))
def Yq (f : Nat) : List PV -> List (Nat × Ent) -> Kont -> Option Res
 | [.ow 5 545 [] 0 v0 none, .sc (.int .u64 v1),
 PV.sc
  (Value.int IntKind.i64
   v2)], [(0, .dead),
 (545, .vec false 5 v3 v4)], k => Xi f (fun x0 x1 x2 => k (Ex.exit 0) (Jd Y7 N69 [.ow 5 545 [] 0 x0 none] [(0, .dead), (545, .vec false 5 x1 x2)])) f v0 v1 v2 v3 v4
 | _, _, _ => none
theorem JsD (f : Nat) : Jf JbR JfO = [] := by kernel_rfl
theorem JqB (f : Nat) : (Item.l JbR Xh N69 (Yq f)).Ok tau Try.prog 1 := Jz Jp Jhw Jq (x := JfO) (nm2 := Y7) (Jm _ _ (by rw [JsD f]; intro q hq; cases hq)) fun vs hp k res hr => by
 unfold Yq at hr
 split at hr
 · exact ⟨f, 0, (Ji6 f _ f _ _ _ _ _ ).trans hr⟩
 · cases hr
def Gf (f : Nat) (rc : Nat -> Int -> Bool -> List PV -> Option Res) (k0 : Nat -> Bool -> List PV -> Option Res) (v0 : Nat) (v1 : Int) (v2 : Bool) (v3 : List PV) : Option Res := bif (zi v0).tmod 64 != 56 then bif Jk (v0 + 1) 1 && true then rc (v0 + 1) v1 (v2 && false) (List.take v0 v3 ++ [.sc (.int .u8 0)]) else none else Xi f (fun x0_0 x1_0 x2_0 => k0 x0_0 x1_0 x2_0) f v0 v1 (0) v2 v3
def Vi (f : Nat) (k0 : Nat -> Bool -> List PV -> Option Res) : Nat -> Nat -> Int -> Bool -> List PV -> Option Res
 | 0, _, _, _, _ => none
 | n + 1, v0, v1, v2, v3 => Gf f (Vi f k0 n) k0 v0 v1 v2 v3
theorem Jot (f : Nat) (k : Kont) (n v0 : Nat) (v1 : Int) (v2 : Bool) (v3 : List PV) : Wo tau 1 X1 (hasLabel Gd) (fun l s k => Qd tau F69 1 0 Gd (Jc8 (Yq f)) l s k) (n + 1) 0 (Jd X1 N69 [.ow 5 545 [] 0 v0 none, .sc (.int .u64 v1)] [(0, .dead), (545, .vec false 5 v2 v3)]) (Jo tau 1 Y8 k) = Gf f (fun v0 v1 v2 v3 => Wo tau 1 X1 (hasLabel Gd) (fun l s k => Qd tau F69 1 0 Gd (Jc8 (Yq f)) l s k) n 0 (Jd X1 N69 [.ow 5 545 [] 0 v0 none, .sc (.int .u64 v1)] [(0, .dead), (545, .vec false 5 v2 v3)]) (Jo tau 1 Y8 k)) (fun x0 x1 x2 => k Ex.ret (Jd Y8 N69 [.ow 5 545 [] 0 x0 none] [(0, .dead), (545, .vec false 5 x1 x2)])) v0 v1 v2 v3 := by kernel_rfl
theorem Ji7 (f : Nat) (k : Kont) : ∀ (n v0 : Nat) (v1 : Int) (v2 : Bool) (v3 : List PV), Wo tau 1 X1 (hasLabel Gd) (fun l s k => Qd tau F69 1 0 Gd (Jc8 (Yq f)) l s k) n 0 (Jd X1 N69 [.ow 5 545 [] 0 v0 none, .sc (.int .u64 v1)] [(0, .dead), (545, .vec false 5 v2 v3)]) (Jo tau 1 Y8 k) = Vi f (fun x0 x1 x2 => k Ex.ret (Jd Y8 N69 [.ow 5 545 [] 0 x0 none] [(0, .dead), (545, .vec false 5 x1 x2)])) n v0 v1 v2 v3 | 0, _, _, _, _ => rfl | n + 1, v0, v1, v2, v3 => (Jot f k n v0 v1 v2 v3).trans (congrArg (fun r => Gf f r (fun x0 x1 x2 => k Ex.ret (Jd Y8 N69 [.ow 5 545 [] 0 x0 none] [(0, .dead), (545, .vec false 5 x1 x2)])) v0 v1 v2 v3) (by funext v0 v1 v2 v3; exact Ji7 f k n v0 v1 v2 v3))
def Jc9 (f : Nat) : Nat -> List PV -> List (Nat × Ent) -> Kont -> Option Res
 | 0, [.ow 5 545 [] 0 v0 none,
 PV.sc
  (Value.int IntKind.u64
   v1)], [(0, .dead),
 (545, .vec false 5 v2 v3)], k => Vi f (fun x0 x1 x2 => k Ex.ret (Jd Y8 N69 [.ow 5 545 [] 0 x0 none] [(0, .dead), (545, .vec false 5 x1 x2)])) f v0 v1 v2 v3
 | _, _, _, _ => none
theorem JsE (f : Nat) : Jf Gd (Jc8 (Yq f)) = [.l JbR Xh N69 (Yq f)] := by kernel_rfl
theorem Jv8 (f : Nat) : (Item.s Gd X1 N69 (Jc9 f)).Ok tau Try.prog 1 := JgU Jp Jhw Jq (x := (Jc8 (Yq f))) (nm2 := Y8) (Jm _ _ (by rw [JsE f]; simp only [List.forall_mem_cons, List.not_mem_nil, false_implies, implies_true, and_true]; exact JqB f)) fun l vs hp k res hr => by
 unfold Jc9 at hr
 split at hr
 · exact ⟨f, 0, (Ji7 f _ f _ _ _ _ ).trans hr⟩
 · cases hr
def g69 (f : Nat) (nl : Bool) (l : List PV) (n : Nat) (k : Res -> Option Res) : Option Res := bif Jk (n + 1) 1 && true then bif (zi (n + 1)).tmod 64 != 56 then bif Jk (n + 1 + 1) 1 && true then Vi f (fun x0_1 x1_1 x2_1 => k (Res.mk (.ow 5 16 [] 0 x0_1 none) [.dead] [.vec false 5 x1_1 x2_1])) f (n + 1 + 1) (IntKind.u64.wrap (IntKind.u64.wrap (zi n) * 8)) (nl && false && false) (List.take (n + 1) (List.take n l ++ [.sc (.int .u8 128)]) ++ [.sc (.int .u8 0)]) else none else Xi f (fun x0_2 x1_2 x2_2 => k (Res.mk (.ow 5 16 [] 0 x0_2 none) [.dead] [.vec false 5 x1_2 x2_2])) f (n + 1) (IntKind.u64.wrap (IntKind.u64.wrap (zi n) * 8)) (0) (nl && false) (List.take n l ++ [.sc (.int .u8 128)]) else none
theorem e69 (f : Nat) (nl : Bool) (l : List PV) (n : Nat) (k : Res -> Option Res) : JQ tau F69 Try.f69 (Try.f69.body.get!) (JsC (Jc9 f) (Yq f)) [] 0 [.ow 5 0 [] 0 n none] [.vec false 5 nl l] k = g69 f nl l n k := by kernel_rfl
theorem JzD (f : Nat) : Jf (Try.f69.body.get!) (JsC (Jc9 f) (Yq f)) = [.s Gd X1 N69 (Jc9 f), .l JbR Xh N69 (Yq f)] := by kernel_rfl
theorem JzE (f : Nat) : ∀ q ∈ Jf (Try.f69.body.get!) (JsC (Jc9 f) (Yq f)), q.Ok tau Try.prog 1 := by
 rw [JzD f]; simp only [List.forall_mem_cons, List.not_mem_nil, false_implies, implies_true, and_true]; exact ⟨Jv8 f, JqB f⟩
theorem Jv9 : Try.prog.funcs[69]? = some Try.f69 := by kernel_rfl
theorem Jwa : Try.f69.body = some (Try.f69.body.get!) := by kernel_rfl
theorem JzF : Enters Try.prog 69 := enters_of Jv9 (by kernel_rfl) Jwa
-- FN sha.padded
def JsF (n : Int) (i : Nat) : Int := IntKind.u8.wrap (JL .u64 n (56 - 8 * (i : Int)))
theorem JqC (f : Nat) (N : Int) (k0 : Nat -> Bool -> List PV -> Option Res) (L : List Int) (hL : L.length <= 140737488355300) : ∀ (d i n : Nat) (z : Bool), i + d = 8 -> d < n -> (d = 0 -> z = false) ->
  Xi f k0 n (L.length + i) N (i : Int) z (pu .u8 (L ++ (List.range i).map (JsF N))) = k0 (L.length + 8) false (pu .u8 (L ++ (List.range 8).map (JsF N)))
 | 0, i, n + 1, z, h, hn, hz => by
   obtain rfl : i = 8 := by omega
   simp only [Xi, Ge]
   rw [hz rfl]
   exact Ji (by decide)
 | d + 1, i, n + 1, z, h, hn, hz => by
   have h1 : IntKind.i64.wrap ((i : Int) + 1) = ((i + 1 : Nat) : Int) := by rw [wrap_i64 (by omega) (by omega)]; omega
   have h8 : IntKind.i64.wrap (8 * (i : Int)) = 8 * (i : Int) := wrap_i64 (by omega) (by omega)
   have h9 : IntKind.i64.wrap (56 - 8 * (i : Int)) = 56 - 8 * (i : Int) := wrap_i64 (by omega) (by omega)
   have c1 : decide ((i : Int) < 8) = true := by simp; omega
   have c2 : decide (0 <= 56 - 8 * (i : Int)) = true := by simp; omega
   have c3 : Jk (L.length + i + 1) 1 = true := by simp [Jk]; omega
   have hlen : (L ++ (List.range i).map (JsF N)).length = L.length + i := by simp
   simp only [Xi, Ge, h1, h8, h9, c1, c2, c3, Bool.and_true, cond_true, W0, Bool.and_false]
   rw [List.take_of_length_le (by omega)]
   have := JqC f N k0 L hL d (i + 1) n false (by omega) (by omega) (fun _ => rfl)
   rw [List.range_succ, List.map_append, ← List.append_assoc, J4] at this
   exact this
theorem JqD (f : Nat) (N : Int) (k0 : Nat -> Bool -> List PV -> Option Res) (hf : 9 <= f) : ∀ (d n : Nat) (L : List Int) (z : Bool), zs L.length = d -> d < n -> L.length + d <= 140737488355200 ->
  Vi f k0 n L.length N z (pu .u8 L) = Xi f k0 f (L.length + d) N 0 (z && decide (d = 0)) (pu .u8 (L ++ List.replicate d 0))
 | 0, n + 1, L, z, hd, hn, hL => by
   simp only [Vi, Gf, JbF]
   refine (Ji (by simp [zs] at hd ⊢; omega)).trans ?_
   simp
 | d + 1, n + 1, L, z, hd, hn, hL => by
   have hlt : d + 1 < 64 := by rw [← hd]; unfold zs; omega
   have c3 : Jk (L.length + 1) 1 = true := by simp [Jk]; omega
   simp only [Vi, Gf, JbF, c3, Bool.and_true, cond_true, W0, Bool.and_false]
   refine (Jc (by simp [zs] at hd ⊢; omega)).trans ?_
   rw [List.take_of_length_le (Nat.le_refl _)]
   have := JqD f N k0 hf d n (L ++ [0]) false (by simp [zs] at hd ⊢; omega) (by omega) (by simp; omega)
   simp only [List.length_append, List.length_cons, List.length_nil, Nat.zero_add, J4] at this
   refine this.trans ?_
   rw [show L.length + 1 + d = L.length + (d + 1) from by omega, List.replicate_succ]
   simp
theorem JsG (nl : Bool) (bs : List Int) (hb : bs.length <= 140737488355000) (k : Res -> Option Res) : g69 100 nl (pu .u8 bs) bs.length k = k ⟨.ow 5 16 [] 0 (QF bs).length none, [.dead], [.vec false 5 false (pu .u8 (QF bs))]⟩ := by
 have c1 : (Jk (bs.length + 1) 1 && true) = true := by simp [Jk]; omega
 have c2 : (Jk (bs.length + 1 + 1) 1 && true) = true := by simp [Jk]; omega
 have hlen : (QF bs).length = bs.length + 1 + zs (bs.length + 1) + 8 := by simp [QF, Jn1]; omega
 have hz : zs (bs.length + 1) < 64 := by unfold zs; omega
 refine (Jc c1).trans ?_
 rw [JbF, W0, List.take_of_length_le (Nat.le_refl _)]
 have fin : ∀ z, Xi 100 (fun x0_2 x1_2 x2_2 => k (Res.mk (PV.ow 5 16 [] 0 x0_2 none) [Ent.dead] [Ent.vec false 5 x1_2 x2_2])) 100 (bs.length + 1 + zs (bs.length + 1)) (IntKind.u64.wrap (IntKind.u64.wrap (zi bs.length) * 8)) 0 z (pu .u8 (bs ++ [128] ++ List.replicate (zs (bs.length + 1)) 0)) = k ⟨.ow 5 16 [] 0 (QF bs).length none, [.dead], [.vec false 5 false (pu .u8 (QF bs))]⟩ := by
  intro z
  have := JqC 100 (IntKind.u64.wrap (IntKind.u64.wrap (zi bs.length) * 8)) (fun x0_2 x1_2 x2_2 => k (Res.mk (PV.ow 5 16 [] 0 x0_2 none) [Ent.dead] [Ent.vec false 5 x1_2 x2_2])) (bs ++ [128] ++ List.replicate (zs (bs.length + 1)) 0) (by simp; omega) 8 0 100 z (by omega) (by omega) (by omega)
  have hl2 : (bs ++ [128] ++ List.replicate (zs (bs.length + 1)) 0).length = bs.length + 1 + zs (bs.length + 1) := by simp; omega
  rw [hl2] at this
  simp only [List.range_zero, List.map_nil, List.append_nil, Nat.add_zero] at this
  rw [hlen]
  exact this
 cases hc : (((((bs.length + 1) % 64 : Nat) : Int)) != 56) with
 | true =>
  refine (Jc rfl).trans ((Jc c2).trans ?_)
  have hc' : ((bs.length + 1) % 64 : Nat) ≠ 56 := by simp at hc; omega
  have hz1 : zs (bs.length + 1 + 1) + 1 = zs (bs.length + 1) := by unfold zs; omega
  have := JqD 100 (IntKind.u64.wrap (IntKind.u64.wrap (zi bs.length) * 8)) (fun x0_1 x1_1 x2_1 => k (Res.mk (PV.ow 5 16 [] 0 x0_1 none) [Ent.dead] [Ent.vec false 5 x1_1 x2_1])) (by omega) (zs (bs.length + 1 + 1)) 100 (bs ++ [128] ++ [0]) (nl && false && false) (by simp) (by unfold zs; omega) (by simp; omega)
  have h0 : pu .u8 (bs ++ [128] ++ [0]) = List.take (bs.length + 1) (pu .u8 bs ++ [PV.sc (Value.int IntKind.u8 128)]) ++ [PV.sc (Value.int IntKind.u8 0)] := by
   rw [List.take_of_length_le (by simp)]; simp
  rw [h0] at this
  simp only [List.length_append, List.length_cons, List.length_nil, Nat.zero_add] at this
  refine this.trans ?_
  have h3 : bs ++ [128] ++ [0] ++ List.replicate (zs (bs.length + 1 + 1)) 0 = bs ++ [128] ++ List.replicate (zs (bs.length + 1)) 0 := by
   rw [← hz1, List.replicate_succ]; simp
  rw [h3, show bs.length + 1 + 1 + zs (bs.length + 1 + 1) = bs.length + 1 + zs (bs.length + 1) from by omega]
  exact fin _
 | false =>
  refine (Ji rfl).trans ?_
  have hc' : ((bs.length + 1) % 64 : Nat) = 56 := by simp at hc; omega
  have hz0 : zs (bs.length + 1) = 0 := by unfold zs; omega
  have := fin (nl && false)
  rw [hz0] at this
  simpa using this
def Jhx : List PV -> List Ent -> (Res -> Option Res) -> Option Res
 | [.ow 5 0 [] 0 n none], [.vec false 5 nl l], k => bif Jj .u8 l && (decide (n = l.length) && decide (l.length <= 140737488355000)) then k ⟨.ow 5 16 [] 0 (QF (Jw l)).length none, [.dead], [.vec false 5 false (pu .u8 (QF (Jw l)))]⟩ else none
 | _, _, _ => none
def Jwb : Sig := { own := [true], run := Jhx }
theorem Jwc : Jg tau Try.prog 69 Jwb := J0 Jp Jhw Jq Jv9 Jwa _ [] 1 [true] Jhx (JzE 100) fun xs es k res hr => by
 unfold Jhx at hr
 split at hr
 · obtain ⟨hc, hr⟩ := JE hr
   simp only [Bool.and_eq_true, decide_eq_true_eq] at hc
   refine ⟨rfl, 0, (e69 100 _ _ _ _).trans ?_⟩
   rw [hc.2.1, Qp hc.1, JG, JsG _ _ (by simpa using hc.2.2)]
   exact hr
 · cases hr
def F68 : Fns := F0
theorem JsH : Jy tau Try.prog F68 := JD
def Jou : An := (.seq .leaf (.seq .leaf .leaf))
def g68 (f : Nat) (k : Res -> Option Res) : Option Res := k (Res.mk (.ar 113 [.sc (.int .u32 1779033703), .sc (.int .u32 3144134277), .sc (.int .u32 1013904242), .sc (.int .u32 2773480762), .sc (.int .u32 1359893119), .sc (.int .u32 2600822924), .sc (.int .u32 528734635), .sc (.int .u32 1541459225)]) [] [])
theorem e68 (f : Nat) (k : Res -> Option Res) : JQ tau F68 Try.f68 (Try.f68.body.get!) Jou [.ro] 0 [] [] k = g68 f k := by kernel_rfl
theorem JzG (f : Nat) : Jf (Try.f68.body.get!) Jou = [] := by kernel_rfl
theorem JzH (f : Nat) : ∀ q ∈ Jf (Try.f68.body.get!) Jou, q.Ok tau Try.prog 0 := by
 rw [JzG f]; intro q hq; cases hq
theorem Jwd : Try.prog.funcs[68]? = some Try.f68 := by kernel_rfl
theorem Jwe : Try.f68.body = some (Try.f68.body.get!) := by kernel_rfl
theorem JzI : Enters Try.prog 68 := enters_of Jwd (by kernel_rfl) Jwe
def Jl1 : List PV -> List Ent -> (Res -> Option Res) -> Option Res
 | [], [], k => g68 0  k
 | _, _, _ => none
def s68 : Sig := { own := [], run := Jl1 }
theorem JzJ : Jg tau Try.prog 68 s68 := J0 Jp JsH Jq Jwd Jwe Jou [.ro] 0 [] Jl1 (JzH 0) fun xs es k res hr => by
 unfold Jl1 at hr
 split at hr
 · exact ⟨rfl, 0, (e68 0  _).trans hr⟩
 · cases hr
def N27 : Nat := 37
def F27 : Fns := JH 68 s68 (JH 69 Jwb (JH 70 Jvj (JH 71 Jv6 F0)))
theorem Jhy : Jy tau Try.prog F27 := (((JD.add Jv7 JzC).add Jvk Jzf).add Jwc JzF).add JzJ JzI
def Jda : Code := Qo (Try.f27.body.get!) [1, 1, 0, 1, 0, 0]
def X2 : Nm := [(2, .any), (3, .any), (4, .ro)]
def Y9 : Nm := [(2, .any), (3, .any)]
def JfP : An := (.seq (.seq .leaf (.cond .leaf .leaf)) (.seq (.block none .leaf) .leaf))
def Jdb : Code := Qo (Try.f27.body.get!) [1, 1, 1, 1, 0, 1, 0, 0]
def X3 : Nm := [(2, .any), (3, .any), (5, .any), (20, .any)]
def Za : Nm := [(2, .any), (5, .any)]
def JfQ : An := (.seq .leaf (.seq (.cond .leaf .leaf) (.seq (.block none (.seq .leaf .leaf)) .leaf)))
def Jov (r0 : QE) (r1 : QE) : An := (.seq .leaf (.seq .leaf (.seq (.seq .leaf (.block none (.sum X2 N27 r0))) (.seq .leaf (.seq (.seq .leaf (.block none (.sum X3 N27 r1))) (.seq .leaf .leaf))))))
def Gg (f : Nat) (rc : List PV -> List PV -> List PV -> Option Res) (k0 : List PV -> List PV -> Option Res) (v0 v1 v2 : List PV) : Option Res := bif decide (zi v0.length > 0) then bif decide (64 <= v0.length) && true then bif Jj IntKind.u32 v2 && decide (v2.length = 8) && (Jj IntKind.u8 (List.take 64 v0) && decide ((List.take 64 v0).length = 64)) then bif decide (64 <= v0.length) && decide (v0.length <= v0.length) && true then rc (List.drop 64 (List.take v0.length v0)) v1 (pu IntKind.u32 (Jhe (Jw v2) (Jw (List.take 64 v0)))) else none else none else none else k0 v1 v2
def Zb (f : Nat) (k0 : List PV -> List PV -> Option Res) : Nat -> List PV -> List PV -> List PV -> Option Res
 | 0, _, _, _ => none
 | n + 1, v0, v1, v2 => Gg f (Zb f k0 n) k0 v0 v1 v2
theorem Jow (f : Nat) (k : Kont) (n : Nat) (v0 v1 v2 : List PV) : Jl tau 0 X2 (fun s k => ev tau F27 0 0 Jda (JfP ) s k) (n + 1) (Jd X2 N27 [.ptr 608 [], .ptr 609 [], .ro 5 false false v0] [(608, .box false 37 (PV.ar 37 v1)), (609, .box false 113 (PV.ar 113 v2))]) (Jo tau 0 Y9 k) = Gg f (fun v0 v1 v2 => Jl tau 0 X2 (fun s k => ev tau F27 0 0 Jda (JfP ) s k) n (Jd X2 N27 [.ptr 608 [], .ptr 609 [], .ro 5 false false v0] [(608, .box false 37 (PV.ar 37 v1)), (609, .box false 113 (PV.ar 113 v2))]) (Jo tau 0 Y9 k)) (fun x0 x1 => k (Ex.exit 0) (Jd Y9 N27 [.ptr 608 [], .ptr 609 []] [(608, .box false 37 (PV.ar 37 x0)), (609, .box false 113 (PV.ar 113 x1))])) v0 v1 v2 := by kernel_rfl
theorem Ji8 (f : Nat) (k : Kont) : ∀ (n : Nat) (v0 v1 v2 : List PV), Jl tau 0 X2 (fun s k => ev tau F27 0 0 Jda (JfP ) s k) n (Jd X2 N27 [.ptr 608 [], .ptr 609 [], .ro 5 false false v0] [(608, .box false 37 (PV.ar 37 v1)), (609, .box false 113 (PV.ar 113 v2))]) (Jo tau 0 Y9 k) = Zb f (fun x0 x1 => k (Ex.exit 0) (Jd Y9 N27 [.ptr 608 [], .ptr 609 []] [(608, .box false 37 (PV.ar 37 x0)), (609, .box false 113 (PV.ar 113 x1))])) n v0 v1 v2 | 0, _, _, _ => rfl | n + 1, v0, v1, v2 => (Jow f k n v0 v1 v2).trans (congrArg (fun r => Gg f r (fun x0 x1 => k (Ex.exit 0) (Jd Y9 N27 [.ptr 608 [], .ptr 609 []] [(608, .box false 37 (PV.ar 37 x0)), (609, .box false 113 (PV.ar 113 x1))])) v0 v1 v2) (by funext v0 v1 v2; exact Ji8 f k n v0 v1 v2))
def JbS (f : Nat) : List PV -> List (Nat × Ent) -> Kont -> Option Res
 | [.ptr 608 [], .ptr 609 [],
 PV.ro 5 false false
  v0], [(608, .box false 37 (PV.ar 37 v1)),
 (609,
  Ent.box false 113
   (PV.ar 113
    v2))], k => Zb f (fun x0 x1 => k (Ex.exit 0) (Jd Y9 N27 [.ptr 608 [], .ptr 609 []] [(608, .box false 37 (PV.ar 37 x0)), (609, .box false 113 (PV.ar 113 x1))])) f v0 v1 v2
 | _, _, _ => none
theorem JsI (f : Nat) : Jf Jda JfP = [] := by kernel_rfl
theorem Jwf (f : Nat) : (Item.l Jda X2 N27 (JbS f)).Ok tau Try.prog 0 := Jz Jp Jhy Jq (x := JfP) (nm2 := Y9) (Jm _ _ (by rw [JsI f]; intro q hq; cases hq)) fun vs hp k res hr => by
 unfold JbS at hr
 split at hr
 · exact ⟨f, 0, (Ji8 f _ f _ _ _ ).trans hr⟩
 · cases hr
def Gh (f : Nat) (rc : Int -> List PV -> List PV -> List PV -> Option Res) (k0 : List PV -> List PV -> Option Res) (v0 : Int) (v1 v2 v3 : List PV) : Option Res := bif decide (v0 < 32) then bif decide (0 <= IntKind.i64.wrap (v0.tdiv 4)) && decide (IntKind.i64.wrap (v0.tdiv 4) < zi 8) && true then bif PV.isInt IntKind.u32 (Jb (PV.ar 113 v2) [(IntKind.i64.wrap (v0.tdiv 4)).toNat]) && true then bif decide (0 <= IntKind.i64.wrap (24 - IntKind.i64.wrap (8 * v0.tmod 4))) && true then bif decide (0 <= v0) && decide (v0 < zi 32) && true then rc (IntKind.i64.wrap (v0 + 1)) v1 v2 (v3.set v0.toNat (.sc (.int .u8 (IntKind.u8.wrap (JL IntKind.u32 (Jb (PV.ar 113 v2) [(IntKind.i64.wrap (v0.tdiv 4)).toNat]).int (IntKind.i64.wrap (24 - IntKind.i64.wrap (8 * v0.tmod 4)))))))) else none else none else none else none else k0 v1 v3
def Zc (f : Nat) (k0 : List PV -> List PV -> Option Res) : Nat -> Int -> List PV -> List PV -> List PV -> Option Res
 | 0, _, _, _, _ => none
 | n + 1, v0, v1, v2, v3 => Gh f (Zc f k0 n) k0 v0 v1 v2 v3
theorem Jox (f : Nat) (k : Kont) (n : Nat) (v0 : Int) (v1 v2 v3 : List PV) : Jl tau 0 X3 (fun s k => ev tau F27 0 0 Jdb (JfQ ) s k) (n + 1) (Jd X3 N27 [.ptr 608 [], .ptr 609 [], .ptr 610 [], .sc (.int .i64 v0)] [(608, .box false 37 (PV.ar 37 v1)), (609, .box false 113 (PV.ar 113 v2)), (610, .box false 37 (PV.ar 37 v3))]) (Jo tau 0 Za k) = Gh f (fun v0 v1 v2 v3 => Jl tau 0 X3 (fun s k => ev tau F27 0 0 Jdb (JfQ ) s k) n (Jd X3 N27 [.ptr 608 [], .ptr 609 [], .ptr 610 [], .sc (.int .i64 v0)] [(608, .box false 37 (PV.ar 37 v1)), (609, .box false 113 (PV.ar 113 v2)), (610, .box false 37 (PV.ar 37 v3))]) (Jo tau 0 Za k)) (fun x0 x1 => k (Ex.exit 2) (Jd Za N27 [.ptr 608 [], .ptr 609 []] [(608, .box false 37 (PV.ar 37 x0)), (609, .box false 37 (PV.ar 37 x1))])) v0 v1 v2 v3 := by kernel_rfl
theorem Ji9 (f : Nat) (k : Kont) : ∀ (n : Nat) (v0 : Int) (v1 v2 v3 : List PV), Jl tau 0 X3 (fun s k => ev tau F27 0 0 Jdb (JfQ ) s k) n (Jd X3 N27 [.ptr 608 [], .ptr 609 [], .ptr 610 [], .sc (.int .i64 v0)] [(608, .box false 37 (PV.ar 37 v1)), (609, .box false 113 (PV.ar 113 v2)), (610, .box false 37 (PV.ar 37 v3))]) (Jo tau 0 Za k) = Zc f (fun x0 x1 => k (Ex.exit 2) (Jd Za N27 [.ptr 608 [], .ptr 609 []] [(608, .box false 37 (PV.ar 37 x0)), (609, .box false 37 (PV.ar 37 x1))])) n v0 v1 v2 v3 | 0, _, _, _, _ => rfl | n + 1, v0, v1, v2, v3 => (Jox f k n v0 v1 v2 v3).trans (congrArg (fun r => Gh f r (fun x0 x1 => k (Ex.exit 2) (Jd Za N27 [.ptr 608 [], .ptr 609 []] [(608, .box false 37 (PV.ar 37 x0)), (609, .box false 37 (PV.ar 37 x1))])) v0 v1 v2 v3) (by funext v0 v1 v2 v3; exact Ji9 f k n v0 v1 v2 v3))
def JbT (f : Nat) : List PV -> List (Nat × Ent) -> Kont -> Option Res
 | [.ptr 608 [], .ptr 609 [], .ptr 610 [],
 PV.sc
  (Value.int IntKind.i64
   v0)], [(608, .box false 37 (PV.ar 37 v1)), (609, .box false 113 (PV.ar 113 v2)),
 (610,
  Ent.box false 37
   (PV.ar 37
    v3))], k => Zc f (fun x0 x1 => k (Ex.exit 2) (Jd Za N27 [.ptr 608 [], .ptr 609 []] [(608, .box false 37 (PV.ar 37 x0)), (609, .box false 37 (PV.ar 37 x1))])) f v0 v1 v2 v3
 | _, _, _ => none
theorem JsJ (f : Nat) : Jf Jdb JfQ = [] := by kernel_rfl
theorem Jwg (f : Nat) : (Item.l Jdb X3 N27 (JbT f)).Ok tau Try.prog 0 := Jz Jp Jhy Jq (x := JfQ) (nm2 := Za) (Jm _ _ (by rw [JsJ f]; intro q hq; cases hq)) fun vs hp k res hr => by
 unfold JbT at hr
 split at hr
 · exact ⟨f, 0, (Ji9 f _ f _ _ _ _ ).trans hr⟩
 · cases hr
def g27 (f : Nat) (nl fl : Bool) (l : List PV) (k : Res -> Option Res) : Option Res := bif l.all (PV.isRo 5) && (decide ((JS l).length <= 140737488355328) && decide (l.length <= 140737488355328)) then bif Jj IntKind.u8 (JS l) && (decide ((JS l).length = (JS l).length) && decide ((JS l).length <= 140737488355000)) then Zb f (fun x0_0 x1_0 => Zc f (fun x0_1 x1_1 => k (Res.mk (.ar 37 x1_1) [] [])) f (0) x0_0 x1_0 ([.sc (.int .u8 0), .sc (.int .u8 0), .sc (.int .u8 0), .sc (.int .u8 0), .sc (.int .u8 0), .sc (.int .u8 0), .sc (.int .u8 0), .sc (.int .u8 0), .sc (.int .u8 0), .sc (.int .u8 0), .sc (.int .u8 0), .sc (.int .u8 0), .sc (.int .u8 0), .sc (.int .u8 0), .sc (.int .u8 0), .sc (.int .u8 0), .sc (.int .u8 0), .sc (.int .u8 0), .sc (.int .u8 0), .sc (.int .u8 0), .sc (.int .u8 0), .sc (.int .u8 0), .sc (.int .u8 0), .sc (.int .u8 0), .sc (.int .u8 0), .sc (.int .u8 0), .sc (.int .u8 0), .sc (.int .u8 0), .sc (.int .u8 0), .sc (.int .u8 0), .sc (.int .u8 0), .sc (.int .u8 0)])) f (List.take (QF (Jw (JS l))).length (pu IntKind.u8 (QF (Jw (JS l))))) ([.sc (.int .u8 0), .sc (.int .u8 0), .sc (.int .u8 0), .sc (.int .u8 0), .sc (.int .u8 0), .sc (.int .u8 0), .sc (.int .u8 0), .sc (.int .u8 0), .sc (.int .u8 0), .sc (.int .u8 0), .sc (.int .u8 0), .sc (.int .u8 0), .sc (.int .u8 0), .sc (.int .u8 0), .sc (.int .u8 0), .sc (.int .u8 0), .sc (.int .u8 0), .sc (.int .u8 0), .sc (.int .u8 0), .sc (.int .u8 0), .sc (.int .u8 0), .sc (.int .u8 0), .sc (.int .u8 0), .sc (.int .u8 0), .sc (.int .u8 0), .sc (.int .u8 0), .sc (.int .u8 0), .sc (.int .u8 0), .sc (.int .u8 0), .sc (.int .u8 0), .sc (.int .u8 0), .sc (.int .u8 0)]) ([.sc (.int .u32 1779033703), .sc (.int .u32 3144134277), .sc (.int .u32 1013904242), .sc (.int .u32 2773480762), .sc (.int .u32 1359893119), .sc (.int .u32 2600822924), .sc (.int .u32 528734635), .sc (.int .u32 1541459225)]) else none else none
theorem e27 (f : Nat) (nl fl : Bool) (l : List PV) (k : Res -> Option Res) : JQ tau F27 Try.f27 (Try.f27.body.get!) (Jov (JbS f) (JbT f)) [] 0 [.ro 29 nl fl l] [] k = g27 f nl fl l k := by kernel_rfl
theorem JzK (f : Nat) : Jf (Try.f27.body.get!) (Jov (JbS f) (JbT f)) = [.l Jda X2 N27 (JbS f), .l Jdb X3 N27 (JbT f)] := by kernel_rfl
theorem JzL (f : Nat) : ∀ q ∈ Jf (Try.f27.body.get!) (Jov (JbS f) (JbT f)), q.Ok tau Try.prog 0 := by
 rw [JzK f]; simp only [List.forall_mem_cons, List.not_mem_nil, false_implies, implies_true, and_true]; exact ⟨Jwf f, Jwg f⟩
theorem Jwh : Try.prog.funcs[27]? = some Try.f27 := by kernel_rfl
theorem Jwi : Try.f27.body = some (Try.f27.body.get!) := by kernel_rfl
theorem JzM : Enters Try.prog 27 := enters_of Jwh (by kernel_rfl) Jwi
-- FN sha.Sum
theorem Jdc : iv.length = 8 := rfl
theorem JqE (P : List Int) (m : Nat) (hP : P.length = 64 * m) (f : Nat) (k0 : List PV -> List PV -> Option Res) (a : List PV) : ∀ (d i n : Nat), i + d = m -> d < n ->
  Zb f k0 n (pu .u8 (P.drop (64 * i))) a (pu .u32 (WQ iv P i)) = k0 a (pu .u32 (WQ iv P m))
 | 0, i, n + 1, h, hn => by
   obtain rfl : i = m := by omega
   have hl : (P.drop (64 * i)).length = 0 := by rw [List.length_drop]; omega
   simp only [Zb, Gg, JG, hl]
   exact Ji (by decide)
 | d + 1, i, n + 1, h, hn => by
   have hl : 64 <= (P.drop (64 * i)).length := by rw [List.length_drop]; omega
   have hf := Ww iv P Jdc i
   simp only [Zb, Gg, JG, W0, JR, hf, Q7]
   refine (Jc (by simp; omega)).trans ?_
   refine (Jc (by simp at hl ⊢; omega)).trans ?_
   refine (Jc (by simp at hl ⊢; omega)).trans ?_
   refine (Jc (by simp at hl ⊢; omega)).trans ?_
   rw [List.take_of_length_le (Nat.le_refl _), Jiq, List.drop_drop]
   have := JqE P m hP f k0 a d (i + 1) n (by omega) (by omega)
   rw [show 64 * i + 64 = 64 * (i + 1) from by omega]
   exact this
theorem JqF (s : List Int) (hs : s.length = 8) (f : Nat) (k0 : List PV -> List PV -> Option Res) (a : List PV) (t : List Int) (ht : t.length = 32) : ∀ (d i n : Nat), i + d = 32 -> d < n ->
  Zc f k0 n (i : Int) a (pu .u32 s) (pu .u8 (Qx (Yu s) t i)) = k0 a (pu .u8 (Jlp s))
 | 0, i, n + 1, h, hn => by
   obtain rfl : i = 32 := by omega
   simp only [Zc, Gh]
   refine (Ji (by decide)).trans ?_
   have := Q4 (Yu s) t
   rw [ht] at this; rw [this]; rfl
 | d + 1, i, n + 1, h, hn => by
   have e1 : ((i : Int)).tdiv 4 = ((i / 4 : Nat) : Int) := by rw [Int.tdiv_eq_ediv_of_nonneg (by omega)]; omega
   have e2 : ((i : Int)).tmod 4 = ((i % 4 : Nat) : Int) := by rw [Int.tmod_eq_emod_of_nonneg (by omega)]; omega
   have h1 : IntKind.i64.wrap ((i : Int) + 1) = ((i + 1 : Nat) : Int) := by rw [wrap_i64 (by omega) (by omega)]; omega
   have h2 : IntKind.i64.wrap ((i / 4 : Nat) : Int) = ((i / 4 : Nat) : Int) := wrap_i64 (by omega) (by omega)
   have h3 : IntKind.i64.wrap (8 * ((i % 4 : Nat) : Int)) = 8 * ((i % 4 : Nat) : Int) := wrap_i64 (by omega) (by omega)
   have h4 : IntKind.i64.wrap (24 - 8 * ((i % 4 : Nat) : Int)) = 24 - 8 * ((i % 4 : Nat) : Int) := wrap_i64 (by omega) (by omega)
   have g1 : ((i : Int)).toNat = i := by omega
   have g2 : (((i / 4 : Nat) : Int)).toNat = i / 4 := by omega
   have c0 : decide ((i : Int) < 32) = true := by simp; omega
   have c1 : (decide (0 <= ((i / 4 : Nat) : Int)) && decide (((i / 4 : Nat) : Int) < zi 8) && true) = true := by simp; omega
   have c2 : (decide (0 <= 24 - 8 * ((i % 4 : Nat) : Int)) && true) = true := by simp; omega
   have c3 : (decide (0 <= (i : Int)) && decide ((i : Int) < zi 32) && true) = true := by simp; omega
   simp only [Zc, Gh, e1, e2, h1, h2, h3, h4, g1, g2, W1, c0, c1, c2, c3, Y6 hs (i / 4) (by omega), PV.isInt, PV.int, decide_true, Bool.and_true, cond_true, WO]
   have := JqF s hs f k0 a t ht d (i + 1) n (by omega) (by omega)
   rw [← Qu (Yu s) t i (by omega)] at this
   exact this
theorem JsK (nl fl : Bool) (l : List PV) (k : Res -> Option Res) (hl : l.all (PV.isRo 5) = true) (hn : l.length <= 140737488355328) (hi : Jj .u8 (JS l) = true) (hs : (JS l).length <= 140737488355000) :
  g27 ((QF (Jw (JS l))).length / 64 + 100) nl fl l k = k ⟨.ar 37 (pu .u8 (JT (Jw (JS l)))), [], []⟩ := by
 refine (Jc (by simp only [hl, Bool.true_and, Bool.and_eq_true, decide_eq_true_eq]; omega)).trans ?_
 refine (Jc (by simp only [hi, Bool.true_and, Bool.and_eq_true, decide_eq_true_eq, true_and]; exact hs)).trans ?_
 rw [W0, List.take_of_length_le (Nat.le_refl _)]
 generalize hP : QF (Jw (JS l)) = P
 have hlen : P.length = 64 * (P.length / 64) := by rw [← hP]; exact Jas _
 have h0 : ∀ k0 a, Zb (P.length / 64 + 100) k0 (P.length / 64 + 100) (pu .u8 P) a (pu .u32 iv) = k0 a (pu .u32 (WQ iv P (P.length / 64))) := fun k0 a => JqE P (P.length / 64) hlen _ k0 a (P.length / 64) 0 _ (by omega) (by omega)
 have h1 : ∀ k0 a s, s.length = 8 -> Zc (P.length / 64 + 100) k0 (P.length / 64 + 100) 0 a (pu .u32 s) (pu .u8 (List.replicate 32 0)) = k0 a (pu .u8 (Jlp s)) := by
  intro k0 a s hs
  have := JqF s hs (P.length / 64 + 100) k0 a (List.replicate 32 0) (by simp) 32 0 (P.length / 64 + 100) (by omega) (by omega)
  rw [QO] at this
  exact this
 refine (h0 _ _).trans ((h1 _ _ _ (Ww iv P Jdc _)).trans ?_)
 rw [JaV, JiL, hP]
def Jhz : List PV -> List Ent -> (Res -> Option Res) -> Option Res
 | [.ro 29 nl fl l], [], k => bif (l.all (PV.isRo 5) && decide (l.length <= 140737488355328)) && (Jj .u8 (JS l) && decide ((JS l).length <= 140737488355000)) then k ⟨.ar 37 (pu .u8 (JT (Jw (JS l)))), [], []⟩ else none
 | _, _, _ => none
def Jwj : Sig := { own := [], run := Jhz }
theorem Jwk : Jg tau Try.prog 27 Jwj := JgV Jp Jhy Jq Jwh Jwi (fun n => Jov (JbS n) (JbT n)) [] 0 [] Jhz (fun n => JzL n) fun xs es k res hr => by
 unfold Jhz at hr
 split at hr
 · rename_i nl fl l
   obtain ⟨hc, hr⟩ := JE hr
   simp only [Bool.and_eq_true, decide_eq_true_eq] at hc
   refine ⟨rfl, (QF (Jw (JS l))).length / 64 + 100, 0, (e27 _ _ _ _ _).trans ?_⟩
   rw [JsK nl fl l k hc.1.1 hc.1.2 hc.2.1 hc.2.2]; exact hr
 · cases hr
def F63 : Fns := JH 97 JvA (JH 27 Jwj (F0))
theorem JsL : Jy tau Try.prog F63 := ((JD).add Jwk JzM).add JvB Jzi
def JsM : Nm := [(2, .any), (3, .any), (4, .any), (5, .any), (22, .any), (23, .any), (24, .any)]
def Jwl : An := (.seq .leaf (.seq (.cond .leaf .leaf) (.seq (.block none (.seq .leaf .leaf)) .leaf)))
def Joy : An := (.seq .leaf (.seq .leaf (.seq (.seq .leaf (.block none (.loop JsM Jwl))) (.seq .leaf .leaf))))
def g63 (f : Nat) (y0 id_N y1 y2 : Int) (k : Res -> Option Res) : Option Res := bif (fTo FloatKind.f64 (fOf FloatKind.f64 y0)).isSome && decide (Int.negSucc 9223372036854775807 <= (fTo FloatKind.f64 (fOf FloatKind.f64 y0)).getD 0) && decide ((fTo FloatKind.f64 (fOf FloatKind.f64 y0)).getD 0 <= Int.ofNat (2 ^ (IntKind.i64.bits - 1) - Nat.succ 0)) && true then bif (fTo FloatKind.f64 (fOf FloatKind.f64 id_N)).isSome && decide (Int.negSucc 9223372036854775807 <= (fTo FloatKind.f64 (fOf FloatKind.f64 id_N)).getD 0) && decide ((fTo FloatKind.f64 (fOf FloatKind.f64 id_N)).getD 0 <= Int.ofNat (2 ^ (IntKind.i64.bits - 1) - Nat.succ 0)) && true then bif slB false (pu IntKind.u8 (Qc ((fTo FloatKind.f64 (fOf FloatKind.f64 y0)).getD 0))) then bif (fTo FloatKind.f64 (fOf FloatKind.f64 y1)).isSome && decide (Int.negSucc 9223372036854775807 <= (fTo FloatKind.f64 (fOf FloatKind.f64 y1)).getD 0) && decide ((fTo FloatKind.f64 (fOf FloatKind.f64 y1)).getD 0 <= Int.ofNat (2 ^ (IntKind.i64.bits - 1) - Nat.succ 0)) && true then bif slB false (pu IntKind.u8 (Qc ((fTo FloatKind.f64 (fOf FloatKind.f64 y0)).getD 0)) ++ pu IntKind.u8 (Qc ((fTo FloatKind.f64 (fOf FloatKind.f64 id_N)).getD 0))) then bif (fTo FloatKind.f64 (fOf FloatKind.f64 y2)).isSome && decide (Int.negSucc 9223372036854775807 <= (fTo FloatKind.f64 (fOf FloatKind.f64 y2)).getD 0) && decide ((fTo FloatKind.f64 (fOf FloatKind.f64 y2)).getD 0 <= Int.ofNat (2 ^ (IntKind.i64.bits - 1) - Nat.succ 0)) && true then bif slB false (pu IntKind.u8 (Qc ((fTo FloatKind.f64 (fOf FloatKind.f64 y0)).getD 0)) ++ pu IntKind.u8 (Qc ((fTo FloatKind.f64 (fOf FloatKind.f64 id_N)).getD 0)) ++ pu IntKind.u8 (Qc ((fTo FloatKind.f64 (fOf FloatKind.f64 y1)).getD 0))) then bif Jj IntKind.u8 (JS [.ro 5 false false (pu IntKind.u8 (Qc ((fTo FloatKind.f64 (fOf FloatKind.f64 y0)).getD 0)) ++ pu IntKind.u8 (Qc ((fTo FloatKind.f64 (fOf FloatKind.f64 id_N)).getD 0)) ++ pu IntKind.u8 (Qc ((fTo FloatKind.f64 (fOf FloatKind.f64 y1)).getD 0)) ++ pu IntKind.u8 (Qc ((fTo FloatKind.f64 (fOf FloatKind.f64 y2)).getD 0)))]) && decide ((JS [.ro 5 false false (pu IntKind.u8 (Qc ((fTo FloatKind.f64 (fOf FloatKind.f64 y0)).getD 0)) ++ pu IntKind.u8 (Qc ((fTo FloatKind.f64 (fOf FloatKind.f64 id_N)).getD 0)) ++ pu IntKind.u8 (Qc ((fTo FloatKind.f64 (fOf FloatKind.f64 y1)).getD 0)) ++ pu IntKind.u8 (Qc ((fTo FloatKind.f64 (fOf FloatKind.f64 y2)).getD 0)))]).length <= 140737488355000) then k (Res.mk (.st 39 [.st 34 [.sc (.int .i64 y0), .sc (.int .i64 id_N)], .sc (.string (ByteArray.mk #[])), .ro 45 false false [.st 45 [.sc (.int .i64 y1), .sc (.int .i64 y2)]], .sc (.int .i64 0), .ar 37 (pu IntKind.u8 (JT (Jw (JS [.ro 5 false false (pu IntKind.u8 (Qc ((fTo FloatKind.f64 (fOf FloatKind.f64 y0)).getD 0)) ++ pu IntKind.u8 (Qc ((fTo FloatKind.f64 (fOf FloatKind.f64 id_N)).getD 0)) ++ pu IntKind.u8 (Qc ((fTo FloatKind.f64 (fOf FloatKind.f64 y1)).getD 0)) ++ pu IntKind.u8 (Qc ((fTo FloatKind.f64 (fOf FloatKind.f64 y2)).getD 0)))]))))]) [] []) else none else none else none else none else none else none else none else none
theorem e63 (f : Nat) (y0 id_N y1 y2 : Int) (k : Res -> Option Res) : JQ tau F63 Try.f63 (Try.f63.body.get!) Joy [.ro] 4 [.st 34 [.sc (.int .i64 y0), .sc (.int .i64 id_N)], .st 45 [.sc (.int .i64 y1), .sc (.int .i64 y2)]] [] k = g63 f y0 id_N y1 y2 k := by kernel_rfl
theorem JzN (f : Nat) : Jf (Try.f63.body.get!) Joy = [] := by kernel_rfl
theorem JzO (f : Nat) : ∀ q ∈ Jf (Try.f63.body.get!) Joy, q.Ok tau Try.prog 0 := by
 rw [JzN f]; intro q hq; cases hq
theorem Jwm : Try.prog.funcs[63]? = some Try.f63 := by kernel_rfl
theorem Jwn : Try.f63.body = some (Try.f63.body.get!) := by kernel_rfl
theorem JzP : Enters Try.prog 63 := enters_of Jwm (by kernel_rfl) Jwn
-- FN wavelet.New
theorem Joz : (List.range 128).all (fun i => fTo .f64 (fOf .f64 (i : Int)) == some (i : Int)) = true := by kernel_rfl
theorem ZN {x : Int} (h0 : 0 <= x) (h1 : x < 128) : fTo .f64 (fOf .f64 x) = some x := by
 have := List.all_eq_true.1 Joz x.toNat (List.mem_range.2 (by omega))
 rw [show ((x.toNat : Nat) : Int) = x from by omega] at this
 simpa using this
structure N4 where
 (a b c d : Int)
def JbU : N4 -> Bool := hid fun x => (decide (0 <= x.a) && decide (x.a < 128)) && (decide (0 <= x.b) && decide (x.b < 128)) && (decide (0 <= x.c) && decide (x.c < 128)) && (decide (0 <= x.d) && decide (x.d < 128))
def Jl2 (x : N4) : List Int := Qc x.a ++ Qc x.b ++ Qc x.c ++ Qc x.d
def JoA : N4 -> List Int := hid fun x => JT (Jl2 x)
theorem JoB (x : N4) : JoA x = JT (Jl2 x) := by rw [JoA, hid_eq]
def wnP (h n d u : Int) (s : List Int) : PV := .st 39 [.st 34 [.sc (.int .i64 h), .sc (.int .i64 n)], .sc (.string (ByteArray.mk #[])), .ro 45 false false [.st 45 [.sc (.int .i64 d), .sc (.int .i64 u)]], .sc (.int .i64 0), .ar 37 (pu .u8 s)]
theorem JsN (h n d u : Int) (hs : JbU ⟨h, n, d, u⟩ = true) (k : Res -> Option Res) : g63 0 h n d u k = k ⟨wnP h n d u (JoA ⟨h, n, d, u⟩), [], []⟩ := by
 rw [JbU, hid_eq] at hs
 simp only [Bool.and_eq_true, decide_eq_true_eq] at hs
 have c : ∀ x : Int, 0 <= x -> x < 128 -> (decide (Int.negSucc 9223372036854775807 <= x) && decide (x <= Int.ofNat (2 ^ (IntKind.i64.bits - 1) - Nat.succ 0))) = true := by
   intro x h0 h1
   have e1 : Int.ofNat (2 ^ (IntKind.i64.bits - 1) - Nat.succ 0) = 9223372036854775807 := by decide
   rw [e1]; simp; omega
 have c1 : ∀ x : Int, 0 <= x -> x < 128 -> decide (Int.negSucc 9223372036854775807 <= x) = true := fun x h0 h1 => by have := c x h0 h1; simp only [Bool.and_eq_true] at this; exact this.1
 have c2 : ∀ x : Int, 0 <= x -> x < 128 -> decide (x <= Int.ofNat (2 ^ (IntKind.i64.bits - 1) - Nat.succ 0)) = true := fun x h0 h1 => by have := c x h0 h1; simp only [Bool.and_eq_true] at this; exact this.2
 rw [JoB]
 unfold g63
 simp only [ZN hs.1.1.1.1 hs.1.1.1.2, ZN hs.1.1.2.1 hs.1.1.2.2, ZN hs.1.2.1 hs.1.2.2, ZN hs.2.1 hs.2.2, Option.isSome_some, Option.getD_some, c1 _ hs.1.1.1.1 hs.1.1.1.2, c1 _ hs.1.1.2.1 hs.1.1.2.2, c1 _ hs.1.2.1 hs.1.2.2, c1 _ hs.2.1 hs.2.2, c2 _ hs.1.1.1.1 hs.1.1.1.2, c2 _ hs.1.1.2.1 hs.1.1.2.2, c2 _ hs.1.2.1 hs.1.2.2, c2 _ hs.2.1 hs.2.2,
   Q7, JR, JG, GV, JfG, PV.els, List.append_nil, List.nil_append, List.length_append, YY, Bool.and_true, Bool.true_and, cond_true, Nat.reduceAdd, Nat.reduceLeDiff, decide_true]
 have sl : ∀ l : List PV, l.length <= 1000 -> slB false l = true := fun l h => JiE.2 ⟨fun h => (by cases h), by omega⟩
 refine (Jc (sl _ (by simp))).trans ((Jc (sl _ (by simp))).trans ((Jc (sl _ (by simp))).trans ((Jc ?_).trans ?_)))
 · simp only [Q8, JR]; rfl
 simp only [← J4, Q7]
 rfl
def JhA : List PV -> List Ent -> (Res -> Option Res) -> Option Res
 | [.st 34 [.sc (.int .i64 h), .sc (.int .i64 n)], .st 45 [.sc (.int .i64 d), .sc (.int .i64 u)]], [], k => bif JbU ⟨h, n, d, u⟩ then k ⟨.st 39 [.st 34 [.sc (.int .i64 h), .sc (.int .i64 n)], .sc (.string (ByteArray.mk #[])), .ro 45 false false [.st 45 [.sc (.int .i64 d), .sc (.int .i64 u)]], .sc (.int .i64 0), .ar 37 (pu .u8 (JoA ⟨h, n, d, u⟩))], [], []⟩ else none
 | _, _, _ => none
def Jwo : Sig := { own := [], run := JhA }
theorem Jwp : Jg tau Try.prog 63 Jwo := Jg.mk' fun xs es k res hl hr => by
 change JhA xs es k = some res at hr
 unfold JhA at hr
 split at hr
 · rename_i h n d u
   obtain ⟨hc, hr2⟩ := JE hr
   exact Qr Jp JsL Jq Jwm Jwn Joy [.ro] 0 4 (JzO 0) hl rfl ((e63 0 h n d u k).trans ((JsN h n d u hc k).trans hr2))
 · cases hr
def F18 : Fns := JH 63 Jwo (F0)
theorem JsO : Jy tau Try.prog F18 := (JD).add Jwp JzP
def JoC : An := (.seq .leaf (.seq .leaf (.seq .leaf .leaf)))
def g18 (f : Nat) (k : Res -> Option Res) : Option Res := bif JbU (N4.mk 1 0 1 2) then k (Res.mk (.sc (.bool true)) [] []) else none
theorem e18 (f : Nat) (k : Res -> Option Res) : JQ tau F18 Try.f18 (Try.f18.body.get!) JoC [.ro] 0 [] [] k = g18 f k := by kernel_rfl
theorem JzQ (f : Nat) : Jf (Try.f18.body.get!) JoC = [] := by kernel_rfl
theorem JzR (f : Nat) : ∀ q ∈ Jf (Try.f18.body.get!) JoC, q.Ok tau Try.prog 0 := by
 rw [JzQ f]; intro q hq; cases hq
theorem Jwq : Try.prog.funcs[18]? = some Try.f18 := by kernel_rfl
theorem Jwr : Try.f18.body = some (Try.f18.body.get!) := by kernel_rfl
theorem JzS : Enters Try.prog 18 := enters_of Jwq (by kernel_rfl) Jwr
def Jl3 : List PV -> List Ent -> (Res -> Option Res) -> Option Res
 | [], [], k => g18 0  k
 | _, _, _ => none
def s18 : Sig := { own := [], run := Jl3 }
theorem JzT : Jg tau Try.prog 18 s18 := J0 Jp JsO Jq Jwq Jwr JoC [.ro] 0 [] Jl3 (JzR 0) fun xs es k res hr => by
 unfold Jl3 at hr
 split at hr
 · exact ⟨rfl, 0, (e18 0  _).trans hr⟩
 · cases hr




def F82 : Fns := F0
theorem JsP : Jy tau Try.prog F82 := JD
def JoD : An := (.seq .leaf (.seq .leaf .leaf))
def g82 (f : Nat) (b_z b_f : Bool) (b : List PV) (k : Res -> Option Res) : Option Res := k (Res.mk (.ptr 16 []) [] [.box false 138 (PV.st 138 [.ro 5 b_z b_f b, .sc (.int .i64 0), .sc (.int .i64 0)])])
theorem e82 (f : Nat) (b_z b_f : Bool) (b : List PV) (k : Res -> Option Res) : JQ tau F82 Try.f82 (Try.f82.body.get!) JoD [.any] 0 [.ro 5 b_z b_f b] [] k = g82 f b_z b_f b k := by kernel_rfl
theorem JzU (f : Nat) : Jf (Try.f82.body.get!) JoD = [] := by kernel_rfl
theorem JzV (f : Nat) : ∀ q ∈ Jf (Try.f82.body.get!) JoD, q.Ok tau Try.prog 0 := by
 rw [JzU f]; intro q hq; cases hq
theorem Jws : Try.prog.funcs[82]? = some Try.f82 := by kernel_rfl
theorem Jwt : Try.f82.body = some (Try.f82.body.get!) := by kernel_rfl
theorem Jwu : Enters Try.prog 82 := enters_of Jws (by kernel_rfl) Jwt
def Jl4 : List PV -> List Ent -> (Res -> Option Res) -> Option Res
 | [.ro 5 b_z b_f b], [], k => g82 0 b_z b_f b k
 | _, _, _ => none
def s82 : Sig := { own := [], run := Jl4 }
theorem Jwv : Jg tau Try.prog 82 s82 := J0 Jp JsP Jq Jws Jwt JoD [.any] 0 [] Jl4 (JzV 0) fun xs es k res hr => by
 unfold Jl4 at hr
 split at hr
 · exact ⟨rfl, 0, (e82 0 _ _ _  _).trans hr⟩
 · cases hr
def F85 : Fns := F0
theorem JsQ : Jy tau Try.prog F85 := JD
def JoE : An := (.seq .leaf (.cond .leaf .leaf))
def g85 (f : Nat) (y0 y1 : Bool) (r_B : List PV) (r_P y2 e : Int) (k : Res -> Option Res) : Option Res := bif y2 == 0 then k (Res.mk (.tup []) [.box false 138 (PV.st 138 [.ro 5 y0 y1 r_B, .sc (.int .i64 r_P), .sc (.int .i64 e)])] []) else k (Res.mk (.tup []) [.box false 138 (PV.st 138 [.ro 5 y0 y1 r_B, .sc (.int .i64 r_P), .sc (.int .i64 y2)])] [])
theorem e85 (f : Nat) (y0 y1 : Bool) (r_B : List PV) (r_P y2 e : Int) (k : Res -> Option Res) : JQ tau F85 Try.f85 (Try.f85.body.get!) JoE [] 0 [.ptr 0 [], .sc (.int .i64 e)] [.box false 138 (.st 138 [.ro 5 y0 y1 r_B, .sc (.int .i64 r_P), .sc (.int .i64 y2)])] k = g85 f y0 y1 r_B r_P y2 e k := by kernel_rfl
theorem JzW (f : Nat) : Jf (Try.f85.body.get!) JoE = [] := by kernel_rfl
theorem JzX (f : Nat) : ∀ q ∈ Jf (Try.f85.body.get!) JoE, q.Ok tau Try.prog 1 := by
 rw [JzW f]; intro q hq; cases hq
theorem Jww : Try.prog.funcs[85]? = some Try.f85 := by kernel_rfl
theorem Jwx : Try.f85.body = some (Try.f85.body.get!) := by kernel_rfl
theorem JzY : Enters Try.prog 85 := enters_of Jww (by kernel_rfl) Jwx
def Jl5 : List PV -> List Ent -> (Res -> Option Res) -> Option Res
 | [.ptr 0 [], .sc (.int .i64 e)], [.box false 138 (.st 138 [.ro 5 y0 y1 r_B, .sc (.int .i64 r_P), .sc (.int .i64 y2)])], k => g85 0 y0 y1 r_B r_P y2 e k
 | _, _, _ => none
def s85 : Sig := { own := [], run := Jl5 }
theorem JzZ : Jg tau Try.prog 85 s85 := J0 Jp JsQ Jq Jww Jwx JoE [] 1 [] Jl5 (JzX 0) fun xs es k res hr => by
 unfold Jl5 at hr
 split at hr
 · exact ⟨rfl, 0, (e85 0 _ _ _ _ _ _  _).trans hr⟩
 · cases hr
def F88 : Fns := F0
theorem JsR : Jy tau Try.prog F88 := JD
def JoF : An := (.seq .leaf (.seq (.seq .leaf (.cond (.seq .leaf .leaf) .leaf)) (.seq .leaf .leaf)))
def g88 (f : Nat) (y0 y1 : Bool) (r_B : List PV) (r_P y2 : Int) (k : Res -> Option Res) : Option Res := bif y2 == 0 then bif decide (r_P < zi r_B.length) then k (Res.mk (.sc (.int .i64 9)) [.box false 138 (PV.st 138 [.ro 5 y0 y1 r_B, .sc (.int .i64 r_P), .sc (.int .i64 y2)])] []) else k (Res.mk (.sc (.int .i64 y2)) [.box false 138 (PV.st 138 [.ro 5 y0 y1 r_B, .sc (.int .i64 r_P), .sc (.int .i64 y2)])] []) else k (Res.mk (.sc (.int .i64 y2)) [.box false 138 (PV.st 138 [.ro 5 y0 y1 r_B, .sc (.int .i64 r_P), .sc (.int .i64 y2)])] [])
theorem e88 (f : Nat) (y0 y1 : Bool) (r_B : List PV) (r_P y2 : Int) (k : Res -> Option Res) : JQ tau F88 Try.f88 (Try.f88.body.get!) JoF [.ro] 0 [.ptr 0 []] [.box false 138 (.st 138 [.ro 5 y0 y1 r_B, .sc (.int .i64 r_P), .sc (.int .i64 y2)])] k = g88 f y0 y1 r_B r_P y2 k := by kernel_rfl
theorem Jz0 (f : Nat) : Jf (Try.f88.body.get!) JoF = [] := by kernel_rfl
theorem Jz1 (f : Nat) : ∀ q ∈ Jf (Try.f88.body.get!) JoF, q.Ok tau Try.prog 1 := by
 rw [Jz0 f]; intro q hq; cases hq
theorem Jwy : Try.prog.funcs[88]? = some Try.f88 := by kernel_rfl
theorem Jwz : Try.f88.body = some (Try.f88.body.get!) := by kernel_rfl
theorem JwA : Enters Try.prog 88 := enters_of Jwy (by kernel_rfl) Jwz
def Jl6 : List PV -> List Ent -> (Res -> Option Res) -> Option Res
 | [.ptr 0 []], [.box false 138 (.st 138 [.ro 5 y0 y1 r_B, .sc (.int .i64 r_P), .sc (.int .i64 y2)])], k => g88 0 y0 y1 r_B r_P y2 k
 | _, _, _ => none
def s88 : Sig := { own := [], run := Jl6 }
theorem JwB : Jg tau Try.prog 88 s88 := J0 Jp JsR Jq Jwy Jwz JoF [.ro] 1 [] Jl6 (Jz1 0) fun xs es k res hr => by
 unfold Jl6 at hr
 split at hr
 · exact ⟨rfl, 0, (e88 0 _ _ _ _ _  _).trans hr⟩
 · cases hr
def Jco : Nat := 53
def Jl7 : Fns := JH 117 Jiz (JH 88 s88 (JH 86 JrN (JH 85 s85 (JH 84 JnP (JH 83 JnR (JH 82 s82 (F0)))))))
theorem Jja : Jy tau Try.prog Jl7 := (((((((JD).add Jwv Jwu).add Jle JrL).add Jld JrJ).add JzZ JzY).add JpW JuG).add JwB JwA).add Jg1 Jk0
def G0 : Code := Qo (Try.f106.body.get!) [1, 1, 1, 1, 1, 0, 1, 0, 0]
def Wy : Nm := [(4, .any), (5, .any), (6, .own), (7, .any)]
def W8 : Nm := [(4, .any), (6, .any)]
def JbV : An := (.seq (.seq .leaf (.cond .leaf .leaf)) (.seq (.block none (.seq .leaf (.seq .leaf (.seq .leaf .leaf)))) .leaf))
def Jjb (r0 : QE) : An := (.seq .leaf (.seq .leaf (.seq .leaf (.seq (.seq .leaf (.cond .leaf .leaf)) (.seq .leaf (.seq (.seq .leaf (.block none (.sum Wy Jco r0))) (.seq .leaf (.seq (.seq .leaf (.cond .leaf .leaf)) (.seq (.seq .leaf (.cond (.seq .leaf .leaf) .leaf)) (.seq .leaf .leaf))))))))))
def Xw (f : Nat) (rc : Int -> Nat -> Int -> Bool -> Bool -> List PV -> Int -> Int -> Bool -> List PV -> Option Res) (k0 : Nat -> Bool -> Bool -> List PV -> Int -> Int -> Bool -> List PV -> Option Res) (v0 : Int) (v1 : Nat) (v2 : Int) (v3 v4 : Bool) (v5 : List PV) (v6 v7 : Int) (v8 : Bool) (v9 : List PV) : Option Res := bif decide (v2 < v0) then bif v7 == 0 then bif okT (RT.mk v5 v6 v7) then bif okT (Ja 1 (RT.mk v5 v6 v7)) then bif okT (Ja 8 (Ja 1 (RT.mk v5 v6 v7))) then bif Jk (v1 + 1) 32 && true then rc v0 (v1 + 1) (IntKind.i64.wrap (v2 + 1)) v3 v4 ((JX (Ja 8 (Ja 1 (RT.mk v5 v6 v7)))).B) ((JX (Ja 8 (Ja 1 (RT.mk v5 v6 v7)))).P) ((JX (Ja 8 (Ja 1 (RT.mk v5 v6 v7)))).e) (v8 && false) (List.take v1 v9 ++ [.st 99 [.sc (.int .i64 (Jt 1 (RT.mk v5 v6 v7))), .sc (.int .i64 (Jt 8 (Ja 1 (RT.mk v5 v6 v7)))), .sc (.string (JF (Ja 8 (Ja 1 (RT.mk v5 v6 v7)))))]]) else none else none else none else none else k0 v1 v3 v4 v5 v6 v7 v8 v9 else k0 v1 v3 v4 v5 v6 v7 v8 v9
def QW (f : Nat) (k0 : Nat -> Bool -> Bool -> List PV -> Int -> Int -> Bool -> List PV -> Option Res) : Nat -> Int -> Nat -> Int -> Bool -> Bool -> List PV -> Int -> Int -> Bool -> List PV -> Option Res
 | 0, _, _, _, _, _, _, _, _, _, _ => none
 | n + 1, v0, v1, v2, v3, v4, v5, v6, v7, v8, v9 => Xw f (QW f k0 n) k0 v0 v1 v2 v3 v4 v5 v6 v7 v8 v9
theorem Jl8 (f : Nat) (k : Kont) (n : Nat) (v0 : Int) (v1 : Nat) (v2 : Int) (v3 v4 : Bool) (v5 : List PV) (v6 v7 : Int) (v8 : Bool) (v9 : List PV) : Jl tau 0 Wy (fun s k => ev tau Jl7 0 0 G0 (JbV ) s k) (n + 1) (Jd Wy Jco [.ptr 864 [], .sc (.int .i64 v0), .ow 99 865 [] 0 v1 none, .sc (.int .i64 v2)] [(864, .box false 138 (PV.st 138 [.ro 5 v3 v4 v5, .sc (.int .i64 v6), .sc (.int .i64 v7)])), (865, .vec false 99 v8 v9)]) (Jo tau 0 W8 k) = Xw f (fun v0 v1 v2 v3 v4 v5 v6 v7 v8 v9 => Jl tau 0 Wy (fun s k => ev tau Jl7 0 0 G0 (JbV ) s k) n (Jd Wy Jco [.ptr 864 [], .sc (.int .i64 v0), .ow 99 865 [] 0 v1 none, .sc (.int .i64 v2)] [(864, .box false 138 (PV.st 138 [.ro 5 v3 v4 v5, .sc (.int .i64 v6), .sc (.int .i64 v7)])), (865, .vec false 99 v8 v9)]) (Jo tau 0 W8 k)) (fun x0 x1 x2 x3 x4 x5 x6 x7 => k (Ex.exit 0) (Jd W8 Jco [.ptr 864 [], .ow 99 865 [] 0 x0 none] [(864, .box false 138 (PV.st 138 [.ro 5 x1 x2 x3, .sc (.int .i64 x4), .sc (.int .i64 x5)])), (865, .vec false 99 x6 x7)])) v0 v1 v2 v3 v4 v5 v6 v7 v8 v9 := by kernel_rfl
theorem JfR (f : Nat) (k : Kont) : ∀ (n : Nat) (v0 : Int) (v1 : Nat) (v2 : Int) (v3 v4 : Bool) (v5 : List PV) (v6 v7 : Int) (v8 : Bool) (v9 : List PV), Jl tau 0 Wy (fun s k => ev tau Jl7 0 0 G0 (JbV ) s k) n (Jd Wy Jco [.ptr 864 [], .sc (.int .i64 v0), .ow 99 865 [] 0 v1 none, .sc (.int .i64 v2)] [(864, .box false 138 (PV.st 138 [.ro 5 v3 v4 v5, .sc (.int .i64 v6), .sc (.int .i64 v7)])), (865, .vec false 99 v8 v9)]) (Jo tau 0 W8 k) = QW f (fun x0 x1 x2 x3 x4 x5 x6 x7 => k (Ex.exit 0) (Jd W8 Jco [.ptr 864 [], .ow 99 865 [] 0 x0 none] [(864, .box false 138 (PV.st 138 [.ro 5 x1 x2 x3, .sc (.int .i64 x4), .sc (.int .i64 x5)])), (865, .vec false 99 x6 x7)])) n v0 v1 v2 v3 v4 v5 v6 v7 v8 v9 | 0, _, _, _, _, _, _, _, _, _, _ => rfl | n + 1, v0, v1, v2, v3, v4, v5, v6, v7, v8, v9 => (Jl8 f k n v0 v1 v2 v3 v4 v5 v6 v7 v8 v9).trans (congrArg (fun r => Xw f r (fun x0 x1 x2 x3 x4 x5 x6 x7 => k (Ex.exit 0) (Jd W8 Jco [.ptr 864 [], .ow 99 865 [] 0 x0 none] [(864, .box false 138 (PV.st 138 [.ro 5 x1 x2 x3, .sc (.int .i64 x4), .sc (.int .i64 x5)])), (865, .vec false 99 x6 x7)])) v0 v1 v2 v3 v4 v5 v6 v7 v8 v9) (by funext v0 v1 v2 v3 v4 v5 v6 v7 v8 v9; exact JfR f k n v0 v1 v2 v3 v4 v5 v6 v7 v8 v9))
def Vj (f : Nat) : List PV -> List (Nat × Ent) -> Kont -> Option Res
 | [.ptr 864 [], .sc (.int .i64 v0), .ow 99 865 [] 0 v1 none,
 PV.sc
  (Value.int IntKind.i64
   v2)], [(864, .box false 138 (PV.st 138 [.ro 5 v3 v4 v5, .sc (.int .i64 v6), .sc (.int .i64 v7)])),
 (865,
  Ent.vec false 99 v8
   v9)], k => QW f (fun x0 x1 x2 x3 x4 x5 x6 x7 => k (Ex.exit
 0) (Jd W8 Jco [.ptr 864 [],
 PV.ow 99 865 [] 0 x0
  none] [(864, .box false 138 (PV.st 138 [.ro 5 x1 x2 x3, .sc (.int .i64 x4), .sc (.int .i64 x5)])), (865, .vec false 99 x6 x7)])) f v0 v1 v2 v3 v4 v5 v6 v7 v8 v9
 | _, _, _ => none
theorem JoG (f : Nat) : Jf G0 JbV = [] := by kernel_rfl
theorem JsS (f : Nat) : (Item.l G0 Wy Jco (Vj f)).Ok tau Try.prog 0 := Jz Jp Jja Jq (x := JbV) (nm2 := W8) (Jm _ _ (by rw [JoG f]; intro q hq; cases hq)) fun vs hp k res hr => by
 unfold Vj at hr
 split at hr
 · exact ⟨f, 0, (JfR f _ f _ _ _ _ _ _ _ _ _ _ ).trans hr⟩
 · cases hr
def JsT (f : Nat) (b_z b_f : Bool) (b : List PV) (k : Res -> Option Res) : Option Res := bif okT (RT.mk b 0 0) then bif decide (Jt 1 (RT.mk b 0 0) > 40) then bif (Ja 1 (RT.mk b 0 0)).e == 0 then QW f (fun x0_0 x1_0 x2_0 x3_0 x4_0 x5_0 x6_0 x7_0 => bif x5_0 == 0 then bif decide (x4_0 < zi x3_0.length) then k (Res.mk (.tup [.ro 99 true true [], .sc (.int .i64 9)]) [] []) else bif x5_0 == 0 then bif cOk (List.take x0_0 x7_0) then bif ckO (List.take x0_0 x7_0) != 0 then k (Res.mk (.tup [.ro 99 true true [], .sc (.int .i64 (ckO (List.take x0_0 x7_0)))]) [] []) else k (Res.mk (.tup [.ro 99 (Ent.vec false 99 x6_0 x7_0).nil false (List.take x0_0 x7_0), .sc (.int .i64 0)]) [] []) else none else bif x5_0 != 0 then k (Res.mk (.tup [.ro 99 true true [], .sc (.int .i64 x5_0)]) [] []) else k (Res.mk (.tup [.ro 99 (Ent.vec false 99 x6_0 x7_0).nil false (List.take x0_0 x7_0), .sc (.int .i64 0)]) [] []) else bif x5_0 == 0 then bif cOk (List.take x0_0 x7_0) then bif ckO (List.take x0_0 x7_0) != 0 then k (Res.mk (.tup [.ro 99 true true [], .sc (.int .i64 (ckO (List.take x0_0 x7_0)))]) [] []) else k (Res.mk (.tup [.ro 99 (Ent.vec false 99 x6_0 x7_0).nil false (List.take x0_0 x7_0), .sc (.int .i64 0)]) [] []) else none else bif x5_0 != 0 then k (Res.mk (.tup [.ro 99 true true [], .sc (.int .i64 x5_0)]) [] []) else k (Res.mk (.tup [.ro 99 (Ent.vec false 99 x6_0 x7_0).nil false (List.take x0_0 x7_0), .sc (.int .i64 0)]) [] [])) f (Jt 1 (RT.mk b 0 0)) (0) (0) b_z b_f ((Ja 1 (RT.mk b 0 0)).B) ((Ja 1 (RT.mk b 0 0)).P) (4) true ([]) else QW f (fun x0_1 x1_1 x2_1 x3_1 x4_1 x5_1 x6_1 x7_1 => bif x5_1 == 0 then bif decide (x4_1 < zi x3_1.length) then k (Res.mk (.tup [.ro 99 true true [], .sc (.int .i64 9)]) [] []) else bif x5_1 == 0 then bif cOk (List.take x0_1 x7_1) then bif ckO (List.take x0_1 x7_1) != 0 then k (Res.mk (.tup [.ro 99 true true [], .sc (.int .i64 (ckO (List.take x0_1 x7_1)))]) [] []) else k (Res.mk (.tup [.ro 99 (Ent.vec false 99 x6_1 x7_1).nil false (List.take x0_1 x7_1), .sc (.int .i64 0)]) [] []) else none else bif x5_1 != 0 then k (Res.mk (.tup [.ro 99 true true [], .sc (.int .i64 x5_1)]) [] []) else k (Res.mk (.tup [.ro 99 (Ent.vec false 99 x6_1 x7_1).nil false (List.take x0_1 x7_1), .sc (.int .i64 0)]) [] []) else bif x5_1 == 0 then bif cOk (List.take x0_1 x7_1) then bif ckO (List.take x0_1 x7_1) != 0 then k (Res.mk (.tup [.ro 99 true true [], .sc (.int .i64 (ckO (List.take x0_1 x7_1)))]) [] []) else k (Res.mk (.tup [.ro 99 (Ent.vec false 99 x6_1 x7_1).nil false (List.take x0_1 x7_1), .sc (.int .i64 0)]) [] []) else none else bif x5_1 != 0 then k (Res.mk (.tup [.ro 99 true true [], .sc (.int .i64 x5_1)]) [] []) else k (Res.mk (.tup [.ro 99 (Ent.vec false 99 x6_1 x7_1).nil false (List.take x0_1 x7_1), .sc (.int .i64 0)]) [] [])) f (Jt 1 (RT.mk b 0 0)) (0) (0) b_z b_f ((Ja 1 (RT.mk b 0 0)).B) ((Ja 1 (RT.mk b 0 0)).P) ((Ja 1 (RT.mk b 0 0)).e) true ([]) else QW f (fun x0_2 x1_2 x2_2 x3_2 x4_2 x5_2 x6_2 x7_2 => bif x5_2 == 0 then bif decide (x4_2 < zi x3_2.length) then k (Res.mk (.tup [.ro 99 true true [], .sc (.int .i64 9)]) [] []) else bif x5_2 == 0 then bif cOk (List.take x0_2 x7_2) then bif ckO (List.take x0_2 x7_2) != 0 then k (Res.mk (.tup [.ro 99 true true [], .sc (.int .i64 (ckO (List.take x0_2 x7_2)))]) [] []) else k (Res.mk (.tup [.ro 99 (Ent.vec false 99 x6_2 x7_2).nil false (List.take x0_2 x7_2), .sc (.int .i64 0)]) [] []) else none else bif x5_2 != 0 then k (Res.mk (.tup [.ro 99 true true [], .sc (.int .i64 x5_2)]) [] []) else k (Res.mk (.tup [.ro 99 (Ent.vec false 99 x6_2 x7_2).nil false (List.take x0_2 x7_2), .sc (.int .i64 0)]) [] []) else bif x5_2 == 0 then bif cOk (List.take x0_2 x7_2) then bif ckO (List.take x0_2 x7_2) != 0 then k (Res.mk (.tup [.ro 99 true true [], .sc (.int .i64 (ckO (List.take x0_2 x7_2)))]) [] []) else k (Res.mk (.tup [.ro 99 (Ent.vec false 99 x6_2 x7_2).nil false (List.take x0_2 x7_2), .sc (.int .i64 0)]) [] []) else none else bif x5_2 != 0 then k (Res.mk (.tup [.ro 99 true true [], .sc (.int .i64 x5_2)]) [] []) else k (Res.mk (.tup [.ro 99 (Ent.vec false 99 x6_2 x7_2).nil false (List.take x0_2 x7_2), .sc (.int .i64 0)]) [] [])) f (Jt 1 (RT.mk b 0 0)) (0) (0) b_z b_f ((Ja 1 (RT.mk b 0 0)).B) ((Ja 1 (RT.mk b 0 0)).P) ((Ja 1 (RT.mk b 0 0)).e) true ([]) else none
theorem Jz2 (f : Nat) (b_z b_f : Bool) (b : List PV) (k : Res -> Option Res) : JQ tau Jl7 Try.f106 (Try.f106.body.get!) (Jjb (Vj f)) [.ro, .ro] 0 [.ro 5 b_z b_f b] [] k = JsT f b_z b_f b k := by kernel_rfl
theorem JwC (f : Nat) : Jf (Try.f106.body.get!) (Jjb (Vj f)) = [.l G0 Wy Jco (Vj f)] := by kernel_rfl
theorem JwD (f : Nat) : ∀ q ∈ Jf (Try.f106.body.get!) (Jjb (Vj f)), q.Ok tau Try.prog 0 := by
 rw [JwC f]; simp only [List.forall_mem_cons, List.not_mem_nil, false_implies, implies_true, and_true]; exact JsS f
theorem JqG : Try.prog.funcs[106]? = some Try.f106 := by kernel_rfl
theorem JqH : Try.f106.body = some (Try.f106.body.get!) := by kernel_rfl
theorem JwE : Enters Try.prog 106 := enters_of JqG (by kernel_rfl) JqH
-- FN delta.OpParse | ref8.OpParse
def cpN (s : RS) : RS := Jj6 (JK 8 (JK 1 s))
def cpV (s : RS) : PV := .st 99 [.sc (.int .i64 (Qe 1 s)), .sc (.int .i64 (Qe 8 (JK 1 s))), .sc (.string (JdZ (JK 8 (JK 1 s))))]
def cpR : Nat -> RS -> RS
 | 0, s => s
 | n + 1, s => cpR n (cpN s)
def cpL : Nat -> RS -> List PV
 | 0, _ => []
 | n + 1, s => cpV s :: cpL n (cpN s)
theorem JbW : ∀ (n : Nat) (s : RS), (cpL n s).length = n
 | 0, _ => rfl
 | n + 1, s => by rw [cpL, List.length_cons, JbW n]
theorem Jl9 : ∀ (n : Nat) (s : RS), (cpL n s).all isCp = true
 | 0, _ => rfl
 | n + 1, s => by rw [cpL, List.all_cons, Jl9 n, Bool.and_true]; exact Jfq.2 ⟨_, _, _, rfl⟩
def opN (b : List PV) : Nat := bif decide (Qe 1 ⟨b, 0⟩ > 40) then 0 else (Qe 1 ⟨b, 0⟩).toNat
def opS (b : List PV) : RS := bif decide (Qe 1 ⟨b, 0⟩ > 40) then JbH 4 (JK 1 ⟨b, 0⟩) else JK 1 ⟨b, 0⟩
def JaL (b : List PV) : Int := bif (cpR (opN b) (opS b)).e == 0 then (bif decide ((cpR (opN b) (opS b)).b.length > 0) then 9 else ckO (cpL (opN b) (opS b))) else (cpR (opN b) (opS b)).e
def opE : List PV -> Int := hid JaL
def opL : List PV -> List PV := hid fun b => bif JaL b == 0 then cpL (opN b) (opS b) else []
def opF : List PV -> Bool := hid fun b => !(JaL b == 0)
theorem JhB (b : List PV) : opE b = JaL b := by rw [opE, hid_eq]
theorem JhC (b : List PV) : opL b = bif JaL b == 0 then cpL (opN b) (opS b) else [] := by rw [opL, hid_eq]
theorem JhD (b : List PV) : opF b = !(JaL b == 0) := by rw [opF, hid_eq]
def JbX (e : Int) : PV := .tup [.ro 99 true true [], .sc (.int .i64 e)]
def opQ (b : List PV) : PV := .tup [.ro 99 (opL b).isEmpty (opF b) (opL b), .sc (.int .i64 (opE b))]
theorem Jet {b : List PV} {e : Int} (h : JaL b = e) (h0 : (e == 0) = false) : opQ b = JbX e := by
 simp only [opQ, JbX, JhC, JhB, JhD, h, h0, cond_false, List.isEmpty_nil, Bool.not_false]
theorem JsU {b : List PV} (h : JaL b = 0) : opQ b = .tup [.ro 99 (cpL (opN b) (opS b)).isEmpty false (cpL (opN b) (opS b)), .sc (.int .i64 0)] := by
 simp only [opQ, JhC, JhB, JhD, h, beq_self_eq_true, cond_true, Bool.not_true]
theorem Jma {b : List PV} (h : byB b = true) : opN b <= 40 := by
 unfold opN
 have h0 : 0 <= Qe 1 ⟨b, 0⟩ := by rw [JdY]; exact (Vb (s := ⟨b, 0⟩) h (n := 1) (by omega)).1
 cases hc : decide (Qe 1 ⟨b, 0⟩ > 40) with
 | true => exact Nat.zero_le _
 | false =>
  have : ¬ Qe 1 ⟨b, 0⟩ > 40 := by simpa using hc
  rw [cond_false]; omega
theorem Jjc {n : Nat} (h : n <= 40) (s : RS) : cOk (cpL n s) = true := XN.2 ⟨Jl9 n s, by rw [JbW]; omega⟩
/-! The document's. -/
theorem JoH {s : RS} (h : s.e ≠ 0) : cpN s = s := by
 unfold cpN; rw [VS, VS, VV h, VV h, JiC]; unfold Jfr; rw [VV h 2, VV h]
theorem Jjd : ∀ (n : Nat) {s : RS}, s.e ≠ 0 -> cpR n s = s
 | 0, _, _ => rfl
 | n + 1, s, h => by show cpR n (cpN s) = s; rw [JoH h, Jjd n h]
theorem JhE (f : Nat) (k0 : Nat -> Bool -> Bool -> List PV -> Int -> Int -> Bool -> List PV -> Option Res) (n : Nat) {N i : Int} {z fl : Bool} {B : List PV} {P e : Int} (he : (e == 0) = false) {m : Nat} {nl : Bool} {L : List PV} :
  QW f k0 (n + 1) N m i z fl B P e nl L = k0 m z fl B P e nl L := by
 simp only [QW, Xw, he, cond_false]
 cases decide (i < N) <;> rfl
theorem Jmb (f : Nat) (k0 : Nat -> Bool -> Bool -> List PV -> Int -> Int -> Bool -> List PV -> Option Res) (R : Option Res) {z fl : Bool} (N : Nat) (hN : N <= 40) :
  ∀ (d i n : Nat) (t : RT) (nl : Bool) (L : List PV), i + d = N -> d < n -> okT t = true -> L.length <= i ->
  (∀ (t' : RT) (nl' : Bool) (L' : List PV), okT t' = true -> t'.view = cpR d t.view -> L'.length <= 40 -> (t'.view.e = 0 -> L' = L ++ cpL d t.view /\ nl' = (nl && (cpL d t.view).isEmpty)) -> k0 L'.length z fl t'.B t'.P t'.e nl' L' = R) ->
  QW f k0 n (N : Int) L.length (i : Int) z fl t.B t.P t.e nl L = R
 | 0, i, n + 1, t, nl, L, h, hn, ht, hL, hk => by
   simp only [QW, Xw]
   exact (Ji (by simp; omega)).trans (hk t nl L ht rfl (by omega) fun _ => by simp [cpL])
 | d + 1, i, n + 1, t, nl, L, h, hn, ht, hL, hk => by
   cases he : (t.e == 0) with
   | false =>
    have he' : t.view.e ≠ 0 := by simpa [RT.view] using he
    rw [JhE f k0 n he]
    exact hk t nl L ht (Jjd _ he').symm (by omega) fun h0 => absurd h0 he'
   | true =>
    have w : IntKind.i64.wrap ((i : Int) + 1) = ((i + 1 : Nat) : Int) := by rw [wrap_i64 (by omega) (by omega)]; omega
    have hm : RT.mk t.B t.P t.e = t := rfl
    have o1 := Qn ht 1
    have o2 := Qn o1 8
    have hview : (JX (Ja 8 (Ja 1 t))).view = cpN t.view := by simp only [JcU, J5, cpN]
    have hv1 : PV.st 99 [.sc (.int .i64 (Jt 1 t)), .sc (.int .i64 (Jt 8 (Ja 1 t))), .sc (.string (JF (Ja 8 (Ja 1 t))))] = cpV t.view := by simp only [QV, JcV, J5, cpV]
    simp only [QW, Xw, w, hm, List.take_length, he]
    refine (Jc (by simp; omega)).trans ((Jc rfl).trans ((Jc ht).trans ((Jc o1).trans ((Jc o2).trans ((Jc (by simp [Jk]; omega)).trans ?_)))))
    rw [hv1]
    have := Jmb f k0 R (z := z) (fl := fl) N hN d (i + 1) n (JX (Ja 8 (Ja 1 t))) (nl && false) (L ++ [cpV t.view]) (by omega) (by omega) (Jfv o2) (by simp; omega) fun t' nl' L' h1 h2 h3 h4 => hk t' nl' L' h1 (by rw [h2, hview]; rfl) h3 fun h0 => by
     obtain ⟨q1, q2⟩ := h4 h0
     rw [hview] at q1 q2
     exact ⟨by rw [q1]; simp [cpL], by rw [q2]; simp [cpL]⟩
    rw [List.length_append] at this
    exact this
theorem JoI (z f : Bool) (b : List PV) (hb : byB b = true) (hlen : b.length <= 1000000000) (k : Res -> Option Res) :
  JsT 50 z f b k = k ⟨opQ b, [], []⟩ := by
 have hE : JaL b = JaL b := rfl
 conv at hE => rhs; unfold JaL
 have hN := Jma hb
 have hok0 : okT (RT.mk b 0 0) = true := by simp [okT, hb]; omega
 have hv0 : (RT.mk b 0 0).view = RS.mk b 0 := rfl
 have fin : ∀ (t' : RT) (nl' : Bool) (L' : List PV), okT t' = true -> t'.view = cpR (opN b) (opS b) -> L'.length <= 40 -> (t'.view.e = 0 -> L' = cpL (opN b) (opS b) /\ nl' = (cpL (opN b) (opS b)).isEmpty) ->
   (bif t'.e == 0 then
     bif decide (t'.P < zi t'.B.length) then k ⟨JbX 9, [], []⟩
     else bif t'.e == 0 then
      bif cOk (List.take L'.length L') then
       bif ckO (List.take L'.length L') != 0 then k ⟨JbX (ckO (List.take L'.length L')), [], []⟩
       else k ⟨.tup [.ro 99 (Ent.vec false 99 nl' L').nil false (List.take L'.length L'), .sc (.int .i64 0)], [], []⟩
      else none
     else bif t'.e != 0 then k ⟨JbX t'.e, [], []⟩
     else k ⟨.tup [.ro 99 (Ent.vec false 99 nl' L').nil false (List.take L'.length L'), .sc (.int .i64 0)], [], []⟩
   else bif t'.e == 0 then
      bif cOk (List.take L'.length L') then
       bif ckO (List.take L'.length L') != 0 then k ⟨JbX (ckO (List.take L'.length L')), [], []⟩
       else k ⟨.tup [.ro 99 (Ent.vec false 99 nl' L').nil false (List.take L'.length L'), .sc (.int .i64 0)], [], []⟩
      else none
     else bif t'.e != 0 then k ⟨JbX t'.e, [], []⟩
     else k ⟨.tup [.ro 99 (Ent.vec false 99 nl' L').nil false (List.take L'.length L'), .sc (.int .i64 0)], [], []⟩) = k ⟨opQ b, [], []⟩ := by
  intro t' nl' L' ht hV hL hq
  have hve : t'.e = (cpR (opN b) (opS b)).e := by rw [← hV]; rfl
  have hvP : decide (t'.P < zi t'.B.length) = decide ((cpR (opN b) (opS b)).b.length > 0) := by
   rw [← hV]
   show decide _ = decide ((List.drop _ _).length > 0)
   rw [List.length_drop]
   simp only [okT, Bool.and_eq_true, decide_eq_true_eq] at ht
   apply decide_eq_decide.2
   simp only [zi]; omega
  simp only [hvP, List.take_length]
  cases he : (t'.e == 0) with
  | false =>
   have he2 : ((cpR (opN b) (opS b)).e == 0) = false := by rw [← hve]; exact he
   rw [he2, cond_false, ← hve] at hE
   rw [Jet hE he]
   simp only [cond_false]
   exact Jc (by rw [bne, he]; rfl)
  | true =>
   have he2 : ((cpR (opN b) (opS b)).e == 0) = true := by rw [← hve]; exact he
   rw [he2, cond_true] at hE
   cases h9 : decide ((cpR (opN b) (opS b)).b.length > 0) with
   | true =>
     rw [h9, cond_true] at hE
     rw [Jet hE (by decide)]
     rfl
   | false =>
     rw [h9, cond_false] at hE
     obtain ⟨w1, w2⟩ := hq (by have := he; rw [beq_iff_eq] at this; exact this)
     simp only [cond_true, cond_false]
     rw [w1, w2]
     have hco : cOk (cpL (opN b) (opS b)) = true := Jjc hN _
     have hnl : (Ent.vec false 99 (cpL (opN b) (opS b)).isEmpty (cpL (opN b) (opS b))).nil = (cpL (opN b) (opS b)).isEmpty := by simp [Ent.nil]
     refine (Jc hco).trans ?_
     cases hc : (ckO (cpL (opN b) (opS b)) == 0) with
     | false =>
      rw [Jet hE hc]
      exact Jc (by rw [bne, hc]; rfl)
     | true =>
      have hc' : ckO (cpL (opN b) (opS b)) = 0 := by simpa using hc
      rw [hc'] at hE
      rw [JsU hE, hnl]
      exact (Ji (by rw [bne, hc]; rfl))
 unfold JsT
 refine (Jc hok0).trans ?_
 have hn : Jt 1 (RT.mk b 0 0) = Qe 1 ⟨b, 0⟩ := by rw [QV, hv0]
 have hvs : (Ja 1 (RT.mk b 0 0)).view = JK 1 ⟨b, 0⟩ := by rw [J5, hv0]
 have hos : okT (Ja 1 (RT.mk b 0 0)) = true := Qn hok0 1
 generalize hst : Ja 1 (RT.mk b 0 0) = st at *
 have hse : st.e = (JK 1 ⟨b, 0⟩).e := by rw [← hvs]; rfl
 rw [hn]
 have h0 : 0 <= Qe 1 ⟨b, 0⟩ := by rw [JdY]; exact (Vb (s := ⟨b, 0⟩) hb (n := 1) (by omega)).1
 cases h4 : decide (Qe 1 ⟨b, 0⟩ > 40) with
 | true =>
  have hN0 : opN b = 0 := by unfold opN; rw [h4]; rfl
  have hS0 : opS b = JbH 4 (JK 1 ⟨b, 0⟩) := by unfold opS; rw [h4]; rfl
  rw [cond_true]
  cases he : (st.e == 0) with
  | true =>
   rw [cond_true]
   refine (JhE 50 _ 49 (by decide)).trans ?_
   refine fin ⟨st.B, st.P, 4⟩ true [] hos ?_ (by decide) fun h => ?_
   · rw [hN0, hS0, ← hvs]
     show RS.mk _ _ = JbH 4 st.view
     unfold JbH
     rw [show (st.view.e == 0) = true from he]; rfl
   · have h' : (4 : Int) = 0 := h
     exact absurd h' (by decide)
  | false =>
   rw [cond_false]
   refine (JhE 50 _ 49 he).trans ?_
   refine fin st true [] hos ?_ (by decide) fun h => ?_
   · rw [hN0, hS0, ← hvs]
     show st.view = JbH 4 st.view
     unfold JbH
     rw [show (st.view.e == 0) = false from he]; rfl
   · have h' : st.e = 0 := h
     rw [h'] at he; exact absurd he (by decide)
 | false =>
  have hN0 : opN b = (Qe 1 ⟨b, 0⟩).toNat := by unfold opN; rw [h4]; rfl
  have hS0 : opS b = JK 1 ⟨b, 0⟩ := by unfold opS; rw [h4]; rfl
  rw [cond_false]
  have hcn : Qe 1 ⟨b, 0⟩ = ((opN b : Nat) : Int) := by rw [hN0]; exact (Int.toNat_of_nonneg h0).symm
  rw [hcn]
  refine Jmb 50 _ _ (opN b) hN (opN b) 0 50 st true [] (by omega) (by omega) hos (by decide) fun t' nl' L' q1 q2 q3 q4 => ?_
  have hVt : st.view = opS b := by rw [hS0, hvs]
  rw [hVt] at q2 q4
  exact fin t' nl' L' q1 q2 q3 fun h => by
   obtain ⟨w1, w2⟩ := q4 h
   exact ⟨by rw [w1, List.nil_append], by rw [w2, Bool.true_and]⟩
def Jeu : List PV -> List Ent -> (Res -> Option Res) -> Option Res
 | [.ro 5 z f b], [], k => bif byB b && Nat.ble b.length 1000000000 then k ⟨opQ b, [], []⟩ else none
 | _, _, _ => none
def JqI : Sig := { own := [], run := Jeu }
theorem JsV : Jg tau Try.prog 106 JqI := Jg.mk' fun xs es k res hl hr => by
 change Jeu xs es k = some res at hr
 unfold Jeu at hr
 split at hr
 · rename_i z f b
   obtain ⟨hc, hr⟩ := JE hr
   rw [Bool.and_eq_true, Nat.ble_eq] at hc
   have hg := (JoI z f b hc.1 hc.2 k).trans hr
   exact Qr Jp Jja Jq JqG JqH (Jjb (Vj 50)) [.ro, .ro] 0 0 (JwD 50) hl rfl ((Jz2 50 z f b k).trans hg)
 · cases hr

def JwF : Fns := JH 84 JnP (F0)
theorem JoJ : Jy tau Try.prog JwF := (JD).add Jld JrJ
def Jje : An := (.seq .leaf (.seq .leaf (.seq .leaf (.seq .leaf .leaf))))
def JwG (f : Nat) (y0 y1 : Bool) (r_B : List PV) (r_P y2 : Int) (k : Res -> Option Res) : Option Res := bif okT (RT.mk r_B r_P y2) then bif okT (Ja 8 (RT.mk r_B r_P y2)) then k (Res.mk (.st 45 [.sc (.int .i64 (Jt 8 (RT.mk r_B r_P y2))), .sc (.int .i64 (Jt 8 (Ja 8 (RT.mk r_B r_P y2))))]) [.box false 138 (PV.st 138 [.ro 5 y0 y1 (Ja 8 (Ja 8 (RT.mk r_B r_P y2))).B, .sc (.int .i64 (Ja 8 (Ja 8 (RT.mk r_B r_P y2))).P), .sc (.int .i64 (Ja 8 (Ja 8 (RT.mk r_B r_P y2))).e)])] []) else none else none
theorem Jz3 (f : Nat) (y0 y1 : Bool) (r_B : List PV) (r_P y2 : Int) (k : Res -> Option Res) : JQ tau JwF Try.f105 (Try.f105.body.get!) Jje [.ro] 0 [.ptr 0 []] [.box false 138 (.st 138 [.ro 5 y0 y1 r_B, .sc (.int .i64 r_P), .sc (.int .i64 y2)])] k = JwG f y0 y1 r_B r_P y2 k := by kernel_rfl
theorem JwH (f : Nat) : Jf (Try.f105.body.get!) Jje = [] := by kernel_rfl
theorem JwI (f : Nat) : ∀ q ∈ Jf (Try.f105.body.get!) Jje, q.Ok tau Try.prog 1 := by
 rw [JwH f]; intro q hq; cases hq
theorem JqJ : Try.prog.funcs[105]? = some Try.f105 := by kernel_rfl
theorem JqK : Try.f105.body = some (Try.f105.body.get!) := by kernel_rfl
theorem JwJ : Enters Try.prog 105 := enters_of JqJ (by kernel_rfl) JqK
def JhF : List PV -> List Ent -> (Res -> Option Res) -> Option Res
 | [.ptr 0 []], [.box false 138 (.st 138 [.ro 5 y0 y1 r_B, .sc (.int .i64 r_P), .sc (.int .i64 y2)])], k => JwG 0 y0 y1 r_B r_P y2 k
 | _, _, _ => none
def JwK : Sig := { own := [], run := JhF }
theorem JwL : Jg tau Try.prog 105 JwK := J0 Jp JoJ Jq JqJ JqK Jje [.ro] 1 [] JhF (JwI 0) fun xs es k res hr => by
 unfold JhF at hr
 split at hr
 · exact ⟨rfl, 0, (Jz3 0 _ _ _ _ _  _).trans hr⟩
 · cases hr
def F52 : Fns := JH 107 Jqu (JH 106 JqI (JH 105 JwK (JH 88 s88 (JH 87 Ju4 (JH 86 JrN (JH 84 JnP (JH 83 JnR (JH 82 s82 (F0)))))))))
theorem JsW : Jy tau Try.prog F52 := (((((((((JD).add Jwv Jwu).add Jle JrL).add Jld JrJ).add JpW JuG).add Ju5 Jy1).add JwB JwA).add JwL JwJ).add JsV JwE).add Jsu Jut
def JoK : An := (.seq .leaf (.seq .leaf (.seq .leaf (.seq .leaf (.seq .leaf (.seq .leaf (.seq .leaf (.seq .leaf (.seq .leaf (.seq .leaf (.seq (.seq .leaf (.cond .leaf .leaf)) (.seq (.seq .leaf (.cond .leaf .leaf)) (.seq (.seq .leaf (.cond (.seq .leaf .leaf) .leaf)) (.seq .leaf .leaf))))))))))))))
def g52 (f : Nat) (b_z b_f : Bool) (b : List PV) (k : Res -> Option Res) : Option Res := bif okT (RT.mk b 0 0) then bif okT (Ja 8 (RT.mk b 0 0)) then bif okT (Ja 8 (Ja 8 (RT.mk b 0 0))) then bif okT (Ja 8 (Ja 8 (Ja 8 (RT.mk b 0 0)))) then bif okT (Ja 8 (Ja 8 (Ja 8 (Ja 8 (RT.mk b 0 0))))) then bif okT (hashT (Ja 8 (Ja 8 (Ja 8 (Ja 8 (RT.mk b 0 0)))))) then bif okT (Ja 1 (hashT (Ja 8 (Ja 8 (Ja 8 (Ja 8 (RT.mk b 0 0))))))) then bif okT (JX (Ja 1 (hashT (Ja 8 (Ja 8 (Ja 8 (Ja 8 (RT.mk b 0 0)))))))) then bif okT (Ja 8 (JX (Ja 1 (hashT (Ja 8 (Ja 8 (Ja 8 (Ja 8 (RT.mk b 0 0))))))))) then bif (Ja 8 (Ja 8 (JX (Ja 1 (hashT (Ja 8 (Ja 8 (Ja 8 (Ja 8 (RT.mk b 0 0)))))))))).e == 0 then bif decide ((Ja 8 (Ja 8 (JX (Ja 1 (hashT (Ja 8 (Ja 8 (Ja 8 (Ja 8 (RT.mk b 0 0)))))))))).P < zi (Ja 8 (Ja 8 (JX (Ja 1 (hashT (Ja 8 (Ja 8 (Ja 8 (Ja 8 (RT.mk b 0 0)))))))))).B.length) then k (Res.mk (.tup [.st 73 [.st 45 [.sc (.int .i64 0), .sc (.int .i64 0)], .sc (.int .i64 0), .sc (.int .i64 0), .ar 37 [.sc (.int .u8 0), .sc (.int .u8 0), .sc (.int .u8 0), .sc (.int .u8 0), .sc (.int .u8 0), .sc (.int .u8 0), .sc (.int .u8 0), .sc (.int .u8 0), .sc (.int .u8 0), .sc (.int .u8 0), .sc (.int .u8 0), .sc (.int .u8 0), .sc (.int .u8 0), .sc (.int .u8 0), .sc (.int .u8 0), .sc (.int .u8 0), .sc (.int .u8 0), .sc (.int .u8 0), .sc (.int .u8 0), .sc (.int .u8 0), .sc (.int .u8 0), .sc (.int .u8 0), .sc (.int .u8 0), .sc (.int .u8 0), .sc (.int .u8 0), .sc (.int .u8 0), .sc (.int .u8 0), .sc (.int .u8 0), .sc (.int .u8 0), .sc (.int .u8 0), .sc (.int .u8 0), .sc (.int .u8 0)], .sc (.int .i64 0), .ro 99 true true [], .st 45 [.sc (.int .i64 0), .sc (.int .i64 0)]], .sc (.int .i64 9)]) [] []) else bif (Ja 8 (Ja 8 (JX (Ja 1 (hashT (Ja 8 (Ja 8 (Ja 8 (Ja 8 (RT.mk b 0 0)))))))))).e == 0 then bif Jk (JF (Ja 1 (hashT (Ja 8 (Ja 8 (Ja 8 (Ja 8 (RT.mk b 0 0)))))))).size 1 && true then bif byB (List.take (JF (Ja 1 (hashT (Ja 8 (Ja 8 (Ja 8 (Ja 8 (RT.mk b 0 0)))))))).size (Jn (JF (Ja 1 (hashT (Ja 8 (Ja 8 (Ja 8 (Ja 8 (RT.mk b 0 0)))))))))) && (List.take (JF (Ja 1 (hashT (Ja 8 (Ja 8 (Ja 8 (Ja 8 (RT.mk b 0 0)))))))).size (List.drop 0 (Jn (JF (Ja 1 (hashT (Ja 8 (Ja 8 (Ja 8 (Ja 8 (RT.mk b 0 0))))))))))).length.ble 1000000000 then bif opE (List.take (JF (Ja 1 (hashT (Ja 8 (Ja 8 (Ja 8 (Ja 8 (RT.mk b 0 0)))))))).size (Jn (JF (Ja 1 (hashT (Ja 8 (Ja 8 (Ja 8 (Ja 8 (RT.mk b 0 0)))))))))) == 0 then bif cOk (opL (List.take (JF (Ja 1 (hashT (Ja 8 (Ja 8 (Ja 8 (Ja 8 (RT.mk b 0 0)))))))).size (Jn (JF (Ja 1 (hashT (Ja 8 (Ja 8 (Ja 8 (Ja 8 (RT.mk b 0 0))))))))))) then bif dCk (DV.mk (Jt 8 (RT.mk b 0 0)) (Jt 8 (Ja 8 (RT.mk b 0 0))) (Jt 8 (Ja 8 (Ja 8 (RT.mk b 0 0)))) (Jt 8 (Ja 8 (Ja 8 (Ja 8 (RT.mk b 0 0))))) (pu IntKind.u8 (hashVT (Ja 8 (Ja 8 (Ja 8 (Ja 8 (RT.mk b 0 0))))))) (Jt 1 (hashT (Ja 8 (Ja 8 (Ja 8 (Ja 8 (RT.mk b 0 0))))))) (opL (List.take (JF (Ja 1 (hashT (Ja 8 (Ja 8 (Ja 8 (Ja 8 (RT.mk b 0 0)))))))).size (Jn (JF (Ja 1 (hashT (Ja 8 (Ja 8 (Ja 8 (Ja 8 (RT.mk b 0 0))))))))))) (Jt 8 (JX (Ja 1 (hashT (Ja 8 (Ja 8 (Ja 8 (Ja 8 (RT.mk b 0 0))))))))) (Jt 8 (Ja 8 (JX (Ja 1 (hashT (Ja 8 (Ja 8 (Ja 8 (Ja 8 (RT.mk b 0 0))))))))))) != 0 then k (Res.mk (.tup [.st 73 [.st 45 [.sc (.int .i64 0), .sc (.int .i64 0)], .sc (.int .i64 0), .sc (.int .i64 0), .ar 37 [.sc (.int .u8 0), .sc (.int .u8 0), .sc (.int .u8 0), .sc (.int .u8 0), .sc (.int .u8 0), .sc (.int .u8 0), .sc (.int .u8 0), .sc (.int .u8 0), .sc (.int .u8 0), .sc (.int .u8 0), .sc (.int .u8 0), .sc (.int .u8 0), .sc (.int .u8 0), .sc (.int .u8 0), .sc (.int .u8 0), .sc (.int .u8 0), .sc (.int .u8 0), .sc (.int .u8 0), .sc (.int .u8 0), .sc (.int .u8 0), .sc (.int .u8 0), .sc (.int .u8 0), .sc (.int .u8 0), .sc (.int .u8 0), .sc (.int .u8 0), .sc (.int .u8 0), .sc (.int .u8 0), .sc (.int .u8 0), .sc (.int .u8 0), .sc (.int .u8 0), .sc (.int .u8 0), .sc (.int .u8 0)], .sc (.int .i64 0), .ro 99 true true [], .st 45 [.sc (.int .i64 0), .sc (.int .i64 0)]], .sc (.int .i64 (dCk (DV.mk (Jt 8 (RT.mk b 0 0)) (Jt 8 (Ja 8 (RT.mk b 0 0))) (Jt 8 (Ja 8 (Ja 8 (RT.mk b 0 0)))) (Jt 8 (Ja 8 (Ja 8 (Ja 8 (RT.mk b 0 0))))) (pu IntKind.u8 (hashVT (Ja 8 (Ja 8 (Ja 8 (Ja 8 (RT.mk b 0 0))))))) (Jt 1 (hashT (Ja 8 (Ja 8 (Ja 8 (Ja 8 (RT.mk b 0 0))))))) (opL (List.take (JF (Ja 1 (hashT (Ja 8 (Ja 8 (Ja 8 (Ja 8 (RT.mk b 0 0)))))))).size (Jn (JF (Ja 1 (hashT (Ja 8 (Ja 8 (Ja 8 (Ja 8 (RT.mk b 0 0))))))))))) (Jt 8 (JX (Ja 1 (hashT (Ja 8 (Ja 8 (Ja 8 (Ja 8 (RT.mk b 0 0))))))))) (Jt 8 (Ja 8 (JX (Ja 1 (hashT (Ja 8 (Ja 8 (Ja 8 (Ja 8 (RT.mk b 0 0)))))))))))))]) [] []) else k (Res.mk (.tup [.st 73 [.st 45 [.sc (.int .i64 (Jt 8 (RT.mk b 0 0))), .sc (.int .i64 (Jt 8 (Ja 8 (RT.mk b 0 0))))], .sc (.int .i64 (Jt 8 (Ja 8 (Ja 8 (RT.mk b 0 0))))), .sc (.int .i64 (Jt 8 (Ja 8 (Ja 8 (Ja 8 (RT.mk b 0 0)))))), .ar 37 (pu IntKind.u8 (hashVT (Ja 8 (Ja 8 (Ja 8 (Ja 8 (RT.mk b 0 0))))))), .sc (.int .i64 (Jt 1 (hashT (Ja 8 (Ja 8 (Ja 8 (Ja 8 (RT.mk b 0 0)))))))), .ro 99 (opL (List.take (JF (Ja 1 (hashT (Ja 8 (Ja 8 (Ja 8 (Ja 8 (RT.mk b 0 0)))))))).size (Jn (JF (Ja 1 (hashT (Ja 8 (Ja 8 (Ja 8 (Ja 8 (RT.mk b 0 0))))))))))).isEmpty (opF (List.take (JF (Ja 1 (hashT (Ja 8 (Ja 8 (Ja 8 (Ja 8 (RT.mk b 0 0)))))))).size (Jn (JF (Ja 1 (hashT (Ja 8 (Ja 8 (Ja 8 (Ja 8 (RT.mk b 0 0))))))))))) (opL (List.take (JF (Ja 1 (hashT (Ja 8 (Ja 8 (Ja 8 (Ja 8 (RT.mk b 0 0)))))))).size (Jn (JF (Ja 1 (hashT (Ja 8 (Ja 8 (Ja 8 (Ja 8 (RT.mk b 0 0))))))))))), .st 45 [.sc (.int .i64 (Jt 8 (JX (Ja 1 (hashT (Ja 8 (Ja 8 (Ja 8 (Ja 8 (RT.mk b 0 0)))))))))), .sc (.int .i64 (Jt 8 (Ja 8 (JX (Ja 1 (hashT (Ja 8 (Ja 8 (Ja 8 (Ja 8 (RT.mk b 0 0)))))))))))]], .sc (.int .i64 0)]) [] []) else none else bif opE (List.take (JF (Ja 1 (hashT (Ja 8 (Ja 8 (Ja 8 (Ja 8 (RT.mk b 0 0)))))))).size (Jn (JF (Ja 1 (hashT (Ja 8 (Ja 8 (Ja 8 (Ja 8 (RT.mk b 0 0)))))))))) != 0 then k (Res.mk (.tup [.st 73 [.st 45 [.sc (.int .i64 0), .sc (.int .i64 0)], .sc (.int .i64 0), .sc (.int .i64 0), .ar 37 [.sc (.int .u8 0), .sc (.int .u8 0), .sc (.int .u8 0), .sc (.int .u8 0), .sc (.int .u8 0), .sc (.int .u8 0), .sc (.int .u8 0), .sc (.int .u8 0), .sc (.int .u8 0), .sc (.int .u8 0), .sc (.int .u8 0), .sc (.int .u8 0), .sc (.int .u8 0), .sc (.int .u8 0), .sc (.int .u8 0), .sc (.int .u8 0), .sc (.int .u8 0), .sc (.int .u8 0), .sc (.int .u8 0), .sc (.int .u8 0), .sc (.int .u8 0), .sc (.int .u8 0), .sc (.int .u8 0), .sc (.int .u8 0), .sc (.int .u8 0), .sc (.int .u8 0), .sc (.int .u8 0), .sc (.int .u8 0), .sc (.int .u8 0), .sc (.int .u8 0), .sc (.int .u8 0), .sc (.int .u8 0)], .sc (.int .i64 0), .ro 99 true true [], .st 45 [.sc (.int .i64 0), .sc (.int .i64 0)]], .sc (.int .i64 (opE (List.take (JF (Ja 1 (hashT (Ja 8 (Ja 8 (Ja 8 (Ja 8 (RT.mk b 0 0)))))))).size (Jn (JF (Ja 1 (hashT (Ja 8 (Ja 8 (Ja 8 (Ja 8 (RT.mk b 0 0))))))))))))]) [] []) else k (Res.mk (.tup [.st 73 [.st 45 [.sc (.int .i64 (Jt 8 (RT.mk b 0 0))), .sc (.int .i64 (Jt 8 (Ja 8 (RT.mk b 0 0))))], .sc (.int .i64 (Jt 8 (Ja 8 (Ja 8 (RT.mk b 0 0))))), .sc (.int .i64 (Jt 8 (Ja 8 (Ja 8 (Ja 8 (RT.mk b 0 0)))))), .ar 37 (pu IntKind.u8 (hashVT (Ja 8 (Ja 8 (Ja 8 (Ja 8 (RT.mk b 0 0))))))), .sc (.int .i64 (Jt 1 (hashT (Ja 8 (Ja 8 (Ja 8 (Ja 8 (RT.mk b 0 0)))))))), .ro 99 (opL (List.take (JF (Ja 1 (hashT (Ja 8 (Ja 8 (Ja 8 (Ja 8 (RT.mk b 0 0)))))))).size (Jn (JF (Ja 1 (hashT (Ja 8 (Ja 8 (Ja 8 (Ja 8 (RT.mk b 0 0))))))))))).isEmpty (opF (List.take (JF (Ja 1 (hashT (Ja 8 (Ja 8 (Ja 8 (Ja 8 (RT.mk b 0 0)))))))).size (Jn (JF (Ja 1 (hashT (Ja 8 (Ja 8 (Ja 8 (Ja 8 (RT.mk b 0 0))))))))))) (opL (List.take (JF (Ja 1 (hashT (Ja 8 (Ja 8 (Ja 8 (Ja 8 (RT.mk b 0 0)))))))).size (Jn (JF (Ja 1 (hashT (Ja 8 (Ja 8 (Ja 8 (Ja 8 (RT.mk b 0 0))))))))))), .st 45 [.sc (.int .i64 (Jt 8 (JX (Ja 1 (hashT (Ja 8 (Ja 8 (Ja 8 (Ja 8 (RT.mk b 0 0)))))))))), .sc (.int .i64 (Jt 8 (Ja 8 (JX (Ja 1 (hashT (Ja 8 (Ja 8 (Ja 8 (Ja 8 (RT.mk b 0 0)))))))))))]], .sc (.int .i64 0)]) [] []) else none else none else bif (Ja 8 (Ja 8 (JX (Ja 1 (hashT (Ja 8 (Ja 8 (Ja 8 (Ja 8 (RT.mk b 0 0)))))))))).e == 0 then bif cOk [] then bif dCk (DV.mk (Jt 8 (RT.mk b 0 0)) (Jt 8 (Ja 8 (RT.mk b 0 0))) (Jt 8 (Ja 8 (Ja 8 (RT.mk b 0 0)))) (Jt 8 (Ja 8 (Ja 8 (Ja 8 (RT.mk b 0 0))))) (pu IntKind.u8 (hashVT (Ja 8 (Ja 8 (Ja 8 (Ja 8 (RT.mk b 0 0))))))) (Jt 1 (hashT (Ja 8 (Ja 8 (Ja 8 (Ja 8 (RT.mk b 0 0))))))) [] (Jt 8 (JX (Ja 1 (hashT (Ja 8 (Ja 8 (Ja 8 (Ja 8 (RT.mk b 0 0))))))))) (Jt 8 (Ja 8 (JX (Ja 1 (hashT (Ja 8 (Ja 8 (Ja 8 (Ja 8 (RT.mk b 0 0))))))))))) != 0 then k (Res.mk (.tup [.st 73 [.st 45 [.sc (.int .i64 0), .sc (.int .i64 0)], .sc (.int .i64 0), .sc (.int .i64 0), .ar 37 [.sc (.int .u8 0), .sc (.int .u8 0), .sc (.int .u8 0), .sc (.int .u8 0), .sc (.int .u8 0), .sc (.int .u8 0), .sc (.int .u8 0), .sc (.int .u8 0), .sc (.int .u8 0), .sc (.int .u8 0), .sc (.int .u8 0), .sc (.int .u8 0), .sc (.int .u8 0), .sc (.int .u8 0), .sc (.int .u8 0), .sc (.int .u8 0), .sc (.int .u8 0), .sc (.int .u8 0), .sc (.int .u8 0), .sc (.int .u8 0), .sc (.int .u8 0), .sc (.int .u8 0), .sc (.int .u8 0), .sc (.int .u8 0), .sc (.int .u8 0), .sc (.int .u8 0), .sc (.int .u8 0), .sc (.int .u8 0), .sc (.int .u8 0), .sc (.int .u8 0), .sc (.int .u8 0), .sc (.int .u8 0)], .sc (.int .i64 0), .ro 99 true true [], .st 45 [.sc (.int .i64 0), .sc (.int .i64 0)]], .sc (.int .i64 (dCk (DV.mk (Jt 8 (RT.mk b 0 0)) (Jt 8 (Ja 8 (RT.mk b 0 0))) (Jt 8 (Ja 8 (Ja 8 (RT.mk b 0 0)))) (Jt 8 (Ja 8 (Ja 8 (Ja 8 (RT.mk b 0 0))))) (pu IntKind.u8 (hashVT (Ja 8 (Ja 8 (Ja 8 (Ja 8 (RT.mk b 0 0))))))) (Jt 1 (hashT (Ja 8 (Ja 8 (Ja 8 (Ja 8 (RT.mk b 0 0))))))) [] (Jt 8 (JX (Ja 1 (hashT (Ja 8 (Ja 8 (Ja 8 (Ja 8 (RT.mk b 0 0))))))))) (Jt 8 (Ja 8 (JX (Ja 1 (hashT (Ja 8 (Ja 8 (Ja 8 (Ja 8 (RT.mk b 0 0)))))))))))))]) [] []) else k (Res.mk (.tup [.st 73 [.st 45 [.sc (.int .i64 (Jt 8 (RT.mk b 0 0))), .sc (.int .i64 (Jt 8 (Ja 8 (RT.mk b 0 0))))], .sc (.int .i64 (Jt 8 (Ja 8 (Ja 8 (RT.mk b 0 0))))), .sc (.int .i64 (Jt 8 (Ja 8 (Ja 8 (Ja 8 (RT.mk b 0 0)))))), .ar 37 (pu IntKind.u8 (hashVT (Ja 8 (Ja 8 (Ja 8 (Ja 8 (RT.mk b 0 0))))))), .sc (.int .i64 (Jt 1 (hashT (Ja 8 (Ja 8 (Ja 8 (Ja 8 (RT.mk b 0 0)))))))), .ro 99 true true [], .st 45 [.sc (.int .i64 (Jt 8 (JX (Ja 1 (hashT (Ja 8 (Ja 8 (Ja 8 (Ja 8 (RT.mk b 0 0)))))))))), .sc (.int .i64 (Jt 8 (Ja 8 (JX (Ja 1 (hashT (Ja 8 (Ja 8 (Ja 8 (Ja 8 (RT.mk b 0 0)))))))))))]], .sc (.int .i64 0)]) [] []) else none else bif (Ja 8 (Ja 8 (JX (Ja 1 (hashT (Ja 8 (Ja 8 (Ja 8 (Ja 8 (RT.mk b 0 0)))))))))).e != 0 then k (Res.mk (.tup [.st 73 [.st 45 [.sc (.int .i64 0), .sc (.int .i64 0)], .sc (.int .i64 0), .sc (.int .i64 0), .ar 37 [.sc (.int .u8 0), .sc (.int .u8 0), .sc (.int .u8 0), .sc (.int .u8 0), .sc (.int .u8 0), .sc (.int .u8 0), .sc (.int .u8 0), .sc (.int .u8 0), .sc (.int .u8 0), .sc (.int .u8 0), .sc (.int .u8 0), .sc (.int .u8 0), .sc (.int .u8 0), .sc (.int .u8 0), .sc (.int .u8 0), .sc (.int .u8 0), .sc (.int .u8 0), .sc (.int .u8 0), .sc (.int .u8 0), .sc (.int .u8 0), .sc (.int .u8 0), .sc (.int .u8 0), .sc (.int .u8 0), .sc (.int .u8 0), .sc (.int .u8 0), .sc (.int .u8 0), .sc (.int .u8 0), .sc (.int .u8 0), .sc (.int .u8 0), .sc (.int .u8 0), .sc (.int .u8 0), .sc (.int .u8 0)], .sc (.int .i64 0), .ro 99 true true [], .st 45 [.sc (.int .i64 0), .sc (.int .i64 0)]], .sc (.int .i64 (Ja 8 (Ja 8 (JX (Ja 1 (hashT (Ja 8 (Ja 8 (Ja 8 (Ja 8 (RT.mk b 0 0)))))))))).e)]) [] []) else k (Res.mk (.tup [.st 73 [.st 45 [.sc (.int .i64 (Jt 8 (RT.mk b 0 0))), .sc (.int .i64 (Jt 8 (Ja 8 (RT.mk b 0 0))))], .sc (.int .i64 (Jt 8 (Ja 8 (Ja 8 (RT.mk b 0 0))))), .sc (.int .i64 (Jt 8 (Ja 8 (Ja 8 (Ja 8 (RT.mk b 0 0)))))), .ar 37 (pu IntKind.u8 (hashVT (Ja 8 (Ja 8 (Ja 8 (Ja 8 (RT.mk b 0 0))))))), .sc (.int .i64 (Jt 1 (hashT (Ja 8 (Ja 8 (Ja 8 (Ja 8 (RT.mk b 0 0)))))))), .ro 99 true true [], .st 45 [.sc (.int .i64 (Jt 8 (JX (Ja 1 (hashT (Ja 8 (Ja 8 (Ja 8 (Ja 8 (RT.mk b 0 0)))))))))), .sc (.int .i64 (Jt 8 (Ja 8 (JX (Ja 1 (hashT (Ja 8 (Ja 8 (Ja 8 (Ja 8 (RT.mk b 0 0)))))))))))]], .sc (.int .i64 0)]) [] []) else bif (Ja 8 (Ja 8 (JX (Ja 1 (hashT (Ja 8 (Ja 8 (Ja 8 (Ja 8 (RT.mk b 0 0)))))))))).e == 0 then bif Jk (JF (Ja 1 (hashT (Ja 8 (Ja 8 (Ja 8 (Ja 8 (RT.mk b 0 0)))))))).size 1 && true then bif byB (List.take (JF (Ja 1 (hashT (Ja 8 (Ja 8 (Ja 8 (Ja 8 (RT.mk b 0 0)))))))).size (Jn (JF (Ja 1 (hashT (Ja 8 (Ja 8 (Ja 8 (Ja 8 (RT.mk b 0 0)))))))))) && (List.take (JF (Ja 1 (hashT (Ja 8 (Ja 8 (Ja 8 (Ja 8 (RT.mk b 0 0)))))))).size (List.drop 0 (Jn (JF (Ja 1 (hashT (Ja 8 (Ja 8 (Ja 8 (Ja 8 (RT.mk b 0 0))))))))))).length.ble 1000000000 then bif opE (List.take (JF (Ja 1 (hashT (Ja 8 (Ja 8 (Ja 8 (Ja 8 (RT.mk b 0 0)))))))).size (Jn (JF (Ja 1 (hashT (Ja 8 (Ja 8 (Ja 8 (Ja 8 (RT.mk b 0 0)))))))))) == 0 then bif cOk (opL (List.take (JF (Ja 1 (hashT (Ja 8 (Ja 8 (Ja 8 (Ja 8 (RT.mk b 0 0)))))))).size (Jn (JF (Ja 1 (hashT (Ja 8 (Ja 8 (Ja 8 (Ja 8 (RT.mk b 0 0))))))))))) then bif dCk (DV.mk (Jt 8 (RT.mk b 0 0)) (Jt 8 (Ja 8 (RT.mk b 0 0))) (Jt 8 (Ja 8 (Ja 8 (RT.mk b 0 0)))) (Jt 8 (Ja 8 (Ja 8 (Ja 8 (RT.mk b 0 0))))) (pu IntKind.u8 (hashVT (Ja 8 (Ja 8 (Ja 8 (Ja 8 (RT.mk b 0 0))))))) (Jt 1 (hashT (Ja 8 (Ja 8 (Ja 8 (Ja 8 (RT.mk b 0 0))))))) (opL (List.take (JF (Ja 1 (hashT (Ja 8 (Ja 8 (Ja 8 (Ja 8 (RT.mk b 0 0)))))))).size (Jn (JF (Ja 1 (hashT (Ja 8 (Ja 8 (Ja 8 (Ja 8 (RT.mk b 0 0))))))))))) (Jt 8 (JX (Ja 1 (hashT (Ja 8 (Ja 8 (Ja 8 (Ja 8 (RT.mk b 0 0))))))))) (Jt 8 (Ja 8 (JX (Ja 1 (hashT (Ja 8 (Ja 8 (Ja 8 (Ja 8 (RT.mk b 0 0))))))))))) != 0 then k (Res.mk (.tup [.st 73 [.st 45 [.sc (.int .i64 0), .sc (.int .i64 0)], .sc (.int .i64 0), .sc (.int .i64 0), .ar 37 [.sc (.int .u8 0), .sc (.int .u8 0), .sc (.int .u8 0), .sc (.int .u8 0), .sc (.int .u8 0), .sc (.int .u8 0), .sc (.int .u8 0), .sc (.int .u8 0), .sc (.int .u8 0), .sc (.int .u8 0), .sc (.int .u8 0), .sc (.int .u8 0), .sc (.int .u8 0), .sc (.int .u8 0), .sc (.int .u8 0), .sc (.int .u8 0), .sc (.int .u8 0), .sc (.int .u8 0), .sc (.int .u8 0), .sc (.int .u8 0), .sc (.int .u8 0), .sc (.int .u8 0), .sc (.int .u8 0), .sc (.int .u8 0), .sc (.int .u8 0), .sc (.int .u8 0), .sc (.int .u8 0), .sc (.int .u8 0), .sc (.int .u8 0), .sc (.int .u8 0), .sc (.int .u8 0), .sc (.int .u8 0)], .sc (.int .i64 0), .ro 99 true true [], .st 45 [.sc (.int .i64 0), .sc (.int .i64 0)]], .sc (.int .i64 (dCk (DV.mk (Jt 8 (RT.mk b 0 0)) (Jt 8 (Ja 8 (RT.mk b 0 0))) (Jt 8 (Ja 8 (Ja 8 (RT.mk b 0 0)))) (Jt 8 (Ja 8 (Ja 8 (Ja 8 (RT.mk b 0 0))))) (pu IntKind.u8 (hashVT (Ja 8 (Ja 8 (Ja 8 (Ja 8 (RT.mk b 0 0))))))) (Jt 1 (hashT (Ja 8 (Ja 8 (Ja 8 (Ja 8 (RT.mk b 0 0))))))) (opL (List.take (JF (Ja 1 (hashT (Ja 8 (Ja 8 (Ja 8 (Ja 8 (RT.mk b 0 0)))))))).size (Jn (JF (Ja 1 (hashT (Ja 8 (Ja 8 (Ja 8 (Ja 8 (RT.mk b 0 0))))))))))) (Jt 8 (JX (Ja 1 (hashT (Ja 8 (Ja 8 (Ja 8 (Ja 8 (RT.mk b 0 0))))))))) (Jt 8 (Ja 8 (JX (Ja 1 (hashT (Ja 8 (Ja 8 (Ja 8 (Ja 8 (RT.mk b 0 0)))))))))))))]) [] []) else k (Res.mk (.tup [.st 73 [.st 45 [.sc (.int .i64 (Jt 8 (RT.mk b 0 0))), .sc (.int .i64 (Jt 8 (Ja 8 (RT.mk b 0 0))))], .sc (.int .i64 (Jt 8 (Ja 8 (Ja 8 (RT.mk b 0 0))))), .sc (.int .i64 (Jt 8 (Ja 8 (Ja 8 (Ja 8 (RT.mk b 0 0)))))), .ar 37 (pu IntKind.u8 (hashVT (Ja 8 (Ja 8 (Ja 8 (Ja 8 (RT.mk b 0 0))))))), .sc (.int .i64 (Jt 1 (hashT (Ja 8 (Ja 8 (Ja 8 (Ja 8 (RT.mk b 0 0)))))))), .ro 99 (opL (List.take (JF (Ja 1 (hashT (Ja 8 (Ja 8 (Ja 8 (Ja 8 (RT.mk b 0 0)))))))).size (Jn (JF (Ja 1 (hashT (Ja 8 (Ja 8 (Ja 8 (Ja 8 (RT.mk b 0 0))))))))))).isEmpty (opF (List.take (JF (Ja 1 (hashT (Ja 8 (Ja 8 (Ja 8 (Ja 8 (RT.mk b 0 0)))))))).size (Jn (JF (Ja 1 (hashT (Ja 8 (Ja 8 (Ja 8 (Ja 8 (RT.mk b 0 0))))))))))) (opL (List.take (JF (Ja 1 (hashT (Ja 8 (Ja 8 (Ja 8 (Ja 8 (RT.mk b 0 0)))))))).size (Jn (JF (Ja 1 (hashT (Ja 8 (Ja 8 (Ja 8 (Ja 8 (RT.mk b 0 0))))))))))), .st 45 [.sc (.int .i64 (Jt 8 (JX (Ja 1 (hashT (Ja 8 (Ja 8 (Ja 8 (Ja 8 (RT.mk b 0 0)))))))))), .sc (.int .i64 (Jt 8 (Ja 8 (JX (Ja 1 (hashT (Ja 8 (Ja 8 (Ja 8 (Ja 8 (RT.mk b 0 0)))))))))))]], .sc (.int .i64 0)]) [] []) else none else bif opE (List.take (JF (Ja 1 (hashT (Ja 8 (Ja 8 (Ja 8 (Ja 8 (RT.mk b 0 0)))))))).size (Jn (JF (Ja 1 (hashT (Ja 8 (Ja 8 (Ja 8 (Ja 8 (RT.mk b 0 0)))))))))) != 0 then k (Res.mk (.tup [.st 73 [.st 45 [.sc (.int .i64 0), .sc (.int .i64 0)], .sc (.int .i64 0), .sc (.int .i64 0), .ar 37 [.sc (.int .u8 0), .sc (.int .u8 0), .sc (.int .u8 0), .sc (.int .u8 0), .sc (.int .u8 0), .sc (.int .u8 0), .sc (.int .u8 0), .sc (.int .u8 0), .sc (.int .u8 0), .sc (.int .u8 0), .sc (.int .u8 0), .sc (.int .u8 0), .sc (.int .u8 0), .sc (.int .u8 0), .sc (.int .u8 0), .sc (.int .u8 0), .sc (.int .u8 0), .sc (.int .u8 0), .sc (.int .u8 0), .sc (.int .u8 0), .sc (.int .u8 0), .sc (.int .u8 0), .sc (.int .u8 0), .sc (.int .u8 0), .sc (.int .u8 0), .sc (.int .u8 0), .sc (.int .u8 0), .sc (.int .u8 0), .sc (.int .u8 0), .sc (.int .u8 0), .sc (.int .u8 0), .sc (.int .u8 0)], .sc (.int .i64 0), .ro 99 true true [], .st 45 [.sc (.int .i64 0), .sc (.int .i64 0)]], .sc (.int .i64 (opE (List.take (JF (Ja 1 (hashT (Ja 8 (Ja 8 (Ja 8 (Ja 8 (RT.mk b 0 0)))))))).size (Jn (JF (Ja 1 (hashT (Ja 8 (Ja 8 (Ja 8 (Ja 8 (RT.mk b 0 0))))))))))))]) [] []) else k (Res.mk (.tup [.st 73 [.st 45 [.sc (.int .i64 (Jt 8 (RT.mk b 0 0))), .sc (.int .i64 (Jt 8 (Ja 8 (RT.mk b 0 0))))], .sc (.int .i64 (Jt 8 (Ja 8 (Ja 8 (RT.mk b 0 0))))), .sc (.int .i64 (Jt 8 (Ja 8 (Ja 8 (Ja 8 (RT.mk b 0 0)))))), .ar 37 (pu IntKind.u8 (hashVT (Ja 8 (Ja 8 (Ja 8 (Ja 8 (RT.mk b 0 0))))))), .sc (.int .i64 (Jt 1 (hashT (Ja 8 (Ja 8 (Ja 8 (Ja 8 (RT.mk b 0 0)))))))), .ro 99 (opL (List.take (JF (Ja 1 (hashT (Ja 8 (Ja 8 (Ja 8 (Ja 8 (RT.mk b 0 0)))))))).size (Jn (JF (Ja 1 (hashT (Ja 8 (Ja 8 (Ja 8 (Ja 8 (RT.mk b 0 0))))))))))).isEmpty (opF (List.take (JF (Ja 1 (hashT (Ja 8 (Ja 8 (Ja 8 (Ja 8 (RT.mk b 0 0)))))))).size (Jn (JF (Ja 1 (hashT (Ja 8 (Ja 8 (Ja 8 (Ja 8 (RT.mk b 0 0))))))))))) (opL (List.take (JF (Ja 1 (hashT (Ja 8 (Ja 8 (Ja 8 (Ja 8 (RT.mk b 0 0)))))))).size (Jn (JF (Ja 1 (hashT (Ja 8 (Ja 8 (Ja 8 (Ja 8 (RT.mk b 0 0))))))))))), .st 45 [.sc (.int .i64 (Jt 8 (JX (Ja 1 (hashT (Ja 8 (Ja 8 (Ja 8 (Ja 8 (RT.mk b 0 0)))))))))), .sc (.int .i64 (Jt 8 (Ja 8 (JX (Ja 1 (hashT (Ja 8 (Ja 8 (Ja 8 (Ja 8 (RT.mk b 0 0)))))))))))]], .sc (.int .i64 0)]) [] []) else none else none else bif (Ja 8 (Ja 8 (JX (Ja 1 (hashT (Ja 8 (Ja 8 (Ja 8 (Ja 8 (RT.mk b 0 0)))))))))).e == 0 then bif cOk [] then bif dCk (DV.mk (Jt 8 (RT.mk b 0 0)) (Jt 8 (Ja 8 (RT.mk b 0 0))) (Jt 8 (Ja 8 (Ja 8 (RT.mk b 0 0)))) (Jt 8 (Ja 8 (Ja 8 (Ja 8 (RT.mk b 0 0))))) (pu IntKind.u8 (hashVT (Ja 8 (Ja 8 (Ja 8 (Ja 8 (RT.mk b 0 0))))))) (Jt 1 (hashT (Ja 8 (Ja 8 (Ja 8 (Ja 8 (RT.mk b 0 0))))))) [] (Jt 8 (JX (Ja 1 (hashT (Ja 8 (Ja 8 (Ja 8 (Ja 8 (RT.mk b 0 0))))))))) (Jt 8 (Ja 8 (JX (Ja 1 (hashT (Ja 8 (Ja 8 (Ja 8 (Ja 8 (RT.mk b 0 0))))))))))) != 0 then k (Res.mk (.tup [.st 73 [.st 45 [.sc (.int .i64 0), .sc (.int .i64 0)], .sc (.int .i64 0), .sc (.int .i64 0), .ar 37 [.sc (.int .u8 0), .sc (.int .u8 0), .sc (.int .u8 0), .sc (.int .u8 0), .sc (.int .u8 0), .sc (.int .u8 0), .sc (.int .u8 0), .sc (.int .u8 0), .sc (.int .u8 0), .sc (.int .u8 0), .sc (.int .u8 0), .sc (.int .u8 0), .sc (.int .u8 0), .sc (.int .u8 0), .sc (.int .u8 0), .sc (.int .u8 0), .sc (.int .u8 0), .sc (.int .u8 0), .sc (.int .u8 0), .sc (.int .u8 0), .sc (.int .u8 0), .sc (.int .u8 0), .sc (.int .u8 0), .sc (.int .u8 0), .sc (.int .u8 0), .sc (.int .u8 0), .sc (.int .u8 0), .sc (.int .u8 0), .sc (.int .u8 0), .sc (.int .u8 0), .sc (.int .u8 0), .sc (.int .u8 0)], .sc (.int .i64 0), .ro 99 true true [], .st 45 [.sc (.int .i64 0), .sc (.int .i64 0)]], .sc (.int .i64 (dCk (DV.mk (Jt 8 (RT.mk b 0 0)) (Jt 8 (Ja 8 (RT.mk b 0 0))) (Jt 8 (Ja 8 (Ja 8 (RT.mk b 0 0)))) (Jt 8 (Ja 8 (Ja 8 (Ja 8 (RT.mk b 0 0))))) (pu IntKind.u8 (hashVT (Ja 8 (Ja 8 (Ja 8 (Ja 8 (RT.mk b 0 0))))))) (Jt 1 (hashT (Ja 8 (Ja 8 (Ja 8 (Ja 8 (RT.mk b 0 0))))))) [] (Jt 8 (JX (Ja 1 (hashT (Ja 8 (Ja 8 (Ja 8 (Ja 8 (RT.mk b 0 0))))))))) (Jt 8 (Ja 8 (JX (Ja 1 (hashT (Ja 8 (Ja 8 (Ja 8 (Ja 8 (RT.mk b 0 0)))))))))))))]) [] []) else k (Res.mk (.tup [.st 73 [.st 45 [.sc (.int .i64 (Jt 8 (RT.mk b 0 0))), .sc (.int .i64 (Jt 8 (Ja 8 (RT.mk b 0 0))))], .sc (.int .i64 (Jt 8 (Ja 8 (Ja 8 (RT.mk b 0 0))))), .sc (.int .i64 (Jt 8 (Ja 8 (Ja 8 (Ja 8 (RT.mk b 0 0)))))), .ar 37 (pu IntKind.u8 (hashVT (Ja 8 (Ja 8 (Ja 8 (Ja 8 (RT.mk b 0 0))))))), .sc (.int .i64 (Jt 1 (hashT (Ja 8 (Ja 8 (Ja 8 (Ja 8 (RT.mk b 0 0)))))))), .ro 99 true true [], .st 45 [.sc (.int .i64 (Jt 8 (JX (Ja 1 (hashT (Ja 8 (Ja 8 (Ja 8 (Ja 8 (RT.mk b 0 0)))))))))), .sc (.int .i64 (Jt 8 (Ja 8 (JX (Ja 1 (hashT (Ja 8 (Ja 8 (Ja 8 (Ja 8 (RT.mk b 0 0)))))))))))]], .sc (.int .i64 0)]) [] []) else none else bif (Ja 8 (Ja 8 (JX (Ja 1 (hashT (Ja 8 (Ja 8 (Ja 8 (Ja 8 (RT.mk b 0 0)))))))))).e != 0 then k (Res.mk (.tup [.st 73 [.st 45 [.sc (.int .i64 0), .sc (.int .i64 0)], .sc (.int .i64 0), .sc (.int .i64 0), .ar 37 [.sc (.int .u8 0), .sc (.int .u8 0), .sc (.int .u8 0), .sc (.int .u8 0), .sc (.int .u8 0), .sc (.int .u8 0), .sc (.int .u8 0), .sc (.int .u8 0), .sc (.int .u8 0), .sc (.int .u8 0), .sc (.int .u8 0), .sc (.int .u8 0), .sc (.int .u8 0), .sc (.int .u8 0), .sc (.int .u8 0), .sc (.int .u8 0), .sc (.int .u8 0), .sc (.int .u8 0), .sc (.int .u8 0), .sc (.int .u8 0), .sc (.int .u8 0), .sc (.int .u8 0), .sc (.int .u8 0), .sc (.int .u8 0), .sc (.int .u8 0), .sc (.int .u8 0), .sc (.int .u8 0), .sc (.int .u8 0), .sc (.int .u8 0), .sc (.int .u8 0), .sc (.int .u8 0), .sc (.int .u8 0)], .sc (.int .i64 0), .ro 99 true true [], .st 45 [.sc (.int .i64 0), .sc (.int .i64 0)]], .sc (.int .i64 (Ja 8 (Ja 8 (JX (Ja 1 (hashT (Ja 8 (Ja 8 (Ja 8 (Ja 8 (RT.mk b 0 0)))))))))).e)]) [] []) else k (Res.mk (.tup [.st 73 [.st 45 [.sc (.int .i64 (Jt 8 (RT.mk b 0 0))), .sc (.int .i64 (Jt 8 (Ja 8 (RT.mk b 0 0))))], .sc (.int .i64 (Jt 8 (Ja 8 (Ja 8 (RT.mk b 0 0))))), .sc (.int .i64 (Jt 8 (Ja 8 (Ja 8 (Ja 8 (RT.mk b 0 0)))))), .ar 37 (pu IntKind.u8 (hashVT (Ja 8 (Ja 8 (Ja 8 (Ja 8 (RT.mk b 0 0))))))), .sc (.int .i64 (Jt 1 (hashT (Ja 8 (Ja 8 (Ja 8 (Ja 8 (RT.mk b 0 0)))))))), .ro 99 true true [], .st 45 [.sc (.int .i64 (Jt 8 (JX (Ja 1 (hashT (Ja 8 (Ja 8 (Ja 8 (Ja 8 (RT.mk b 0 0)))))))))), .sc (.int .i64 (Jt 8 (Ja 8 (JX (Ja 1 (hashT (Ja 8 (Ja 8 (Ja 8 (Ja 8 (RT.mk b 0 0)))))))))))]], .sc (.int .i64 0)]) [] []) else none else none else none else none else none else none else none else none else none
theorem e52 (f : Nat) (b_z b_f : Bool) (b : List PV) (k : Res -> Option Res) : JQ tau F52 Try.f52 (Try.f52.body.get!) JoK [.ro, .ro] 0 [.ro 5 b_z b_f b] [] k = g52 f b_z b_f b k := by kernel_rfl
theorem Jz4 (f : Nat) : Jf (Try.f52.body.get!) JoK = [] := by kernel_rfl
theorem Jz5 (f : Nat) : ∀ q ∈ Jf (Try.f52.body.get!) JoK, q.Ok tau Try.prog 0 := by
 rw [Jz4 f]; intro q hq; cases hq
theorem JwM : Try.prog.funcs[52]? = some Try.f52 := by kernel_rfl
theorem JwN : Try.f52.body = some (Try.f52.body.get!) := by kernel_rfl
theorem Jz6 : Enters Try.prog 52 := enters_of JwM (by kernel_rfl) JwN
def Jmc : List PV -> List Ent -> (Res -> Option Res) -> Option Res
 | [.ro 5 b_z b_f b], [], k => g52 0 b_z b_f b k
 | _, _, _ => none
def s52 : Sig := { own := [], run := Jmc }
theorem Jz7 : Jg tau Try.prog 52 s52 := J0 Jp JsW Jq JwM JwN JoK [.ro, .ro] 0 [] Jmc (Jz5 0) fun xs es k res hr => by
 unfold Jmc at hr
 split at hr
 · exact ⟨rfl, 0, (e52 0 _ _ _  _).trans hr⟩
 · cases hr
end
end Go.Proofs.Ytcklhipdldpkhaa.Rx
