/- What the functions of this law compute, and their plain laws. Conditions: none. -/
import Derived.KernelRfl
import Derived.Test.YthpmachmnoljeaaWaveletTwiceP1
namespace Go.Proofs.Ythpmachmnoljeaa.Rx
noncomputable section
open Go
set_option linter.unusedVariables false
set_option linter.unusedSimpArgs false
set_option maxRecDepth 100000
set_option maxHeartbeats 0
def Jzt : Fns := F0
theorem Jsy : Jq tau Try.prog Jzt := Js
def Jl2 : An := (.seq .leaf (.seq .leaf .leaf))
def Jsz (f : Nat) (nl : Bool) (l : List PV) (m : Nat) (n : Int) (k : KR) : OR := bif Je (m + 1) 1 && true then k (Res.mk (.ow 5 16 [] 0 (m + 1) none) [.dead] [.vec false 5 (nl && false) (List.take m l ++ [.sc (.int .u8 (IntKind.u8.wrap n))])]) else none
theorem JHh (f : Nat) (nl : Bool) (l : List PV) (m : Nat) (n : Int) (k : KR) : JJ tau Jzt Try.f105 (Try.f105.body.get!) Jl2 [] 0 [.ow 5 0 [] 0 m none, .sc (.int .i64 n)] [.vec false 5 nl l] k = Jsz f nl l m n k := by kernel_rfl
theorem JB6 (f : Nat) : ∀ q ∈ Jg (Try.f105.body.get!) Jl2, q.Ok tau Try.prog 1 := Jw (by kernel_rfl)
theorem JB7 : Try.prog.funcs[105]? = some Try.f105 := by kernel_rfl
theorem JB8 : Try.f105.body = some (Try.f105.body.get!) := by kernel_rfl
def F53 : Fns := F0
theorem JB9 : Jq tau Try.prog F53 := Js
def JCa : Nm := [(0, .own), (1, .any), (5, .any)]
def JHi : An := (.seq (.seq .leaf (.cond .leaf .leaf)) (.seq (.block none .leaf) .leaf))
def JCb : An := (.seq .leaf (.seq (.seq .leaf (.block none (.loop JCa JHi))) (.seq .leaf .leaf)))
abbrev JhO := (IntKind.i64.wrap (IntKind.i64.wrap (IntKind.i64.wrap (0 + 1) + 1) + 1) + 1)
def g53 (f : Nat) (n : Int) (k : KR) : OR := k (Res.mk (.ow 5 16 [] 0 8 none) [] [.vec false 5 false [.sc (.int .u8 (IntKind.u8.wrap (JV IntKind.u64 (IntKind.u64.wrap n) (IntKind.u64.wrap (8 * IntKind.u64.wrap 0))))), .sc (.int .u8 (IntKind.u8.wrap (JV IntKind.u64 (IntKind.u64.wrap n) (IntKind.u64.wrap (8 * IntKind.u64.wrap (IntKind.i64.wrap (0 + 1))))))), .sc (.int .u8 (IntKind.u8.wrap (JV IntKind.u64 (IntKind.u64.wrap n) (IntKind.u64.wrap (8 * IntKind.u64.wrap (IntKind.i64.wrap (IntKind.i64.wrap (0 + 1) + 1))))))), .sc (.int .u8 (IntKind.u8.wrap (JV IntKind.u64 (IntKind.u64.wrap n) (IntKind.u64.wrap (8 * IntKind.u64.wrap (IntKind.i64.wrap (IntKind.i64.wrap (IntKind.i64.wrap (0 + 1) + 1) + 1))))))), .sc (.int .u8 (IntKind.u8.wrap (JV IntKind.u64 (IntKind.u64.wrap n) (IntKind.u64.wrap (8 * IntKind.u64.wrap (IntKind.i64.wrap JhO)))))), .sc (.int .u8 (IntKind.u8.wrap (JV IntKind.u64 (IntKind.u64.wrap n) (IntKind.u64.wrap (8 * IntKind.u64.wrap (IntKind.i64.wrap (IntKind.i64.wrap JhO + 1))))))), .sc (.int .u8 (IntKind.u8.wrap (JV IntKind.u64 (IntKind.u64.wrap n) (IntKind.u64.wrap (8 * IntKind.u64.wrap (IntKind.i64.wrap (IntKind.i64.wrap (IntKind.i64.wrap JhO + 1) + 1))))))), .sc (.int .u8 (IntKind.u8.wrap (JV IntKind.u64 (IntKind.u64.wrap n) (IntKind.u64.wrap (8 * IntKind.u64.wrap (IntKind.i64.wrap (IntKind.i64.wrap (IntKind.i64.wrap (IntKind.i64.wrap JhO + 1) + 1) + 1)))))))]])
theorem e53 (f : Nat) (n : Int) (k : KR) : JJ tau F53 Try.f53 (Try.f53.body.get!) JCb [] 12 [.ro 5 true true [], .sc (.int .i64 n)] [] k = g53 f n k := by kernel_rfl
theorem JM1 (f : Nat) : ∀ q ∈ Jg (Try.f53.body.get!) JCb, q.Ok tau Try.prog 0 := Jw (by kernel_rfl)
theorem JHj : Try.prog.funcs[53]? = some Try.f53 := by kernel_rfl
theorem JHk : Try.f53.body = some (Try.f53.body.get!) := by kernel_rfl
theorem JwG : Enters Try.prog 53 := enters_of JHj (by kernel_rfl) JHk
def JHl : Fns := F0
theorem JwH : Jq tau Try.prog JHl := Js
def JwI : Nm := [(0, .own), (1, .any), (5, .any)]
def JCc : An := (.seq (.seq .leaf (.cond .leaf .leaf)) (.seq (.block none .leaf) .leaf))
def JsA : An := (.seq .leaf (.seq (.seq .leaf (.block none (.loop JwI JCc))) (.seq .leaf .leaf)))
abbrev JaW := (IntKind.i64.wrap (IntKind.i64.wrap (IntKind.i64.wrap (0 + 1) + 1) + 1) + 1)
def JCd (f : Nat) (nl : Bool) (l : List PV) (m : Nat) (n : Int) (k : KR) : OR := bif Je (m + 1) 1 && true then bif Je (m + 1 + 1) 1 && true then bif Je (m + 1 + 1 + 1) 1 && true then bif Je (m + 1 + 1 + 1 + 1) 1 && true then bif Je (m + 1 + 1 + 1 + 1 + 1) 1 && true then bif Je (m + 1 + 1 + 1 + 1 + 1 + 1) 1 && true then bif Je (m + 1 + 1 + 1 + 1 + 1 + 1 + 1) 1 && true then bif Je (m + 1 + 1 + 1 + 1 + 1 + 1 + 1 + 1) 1 && true then k (Res.mk (.ow 5 16 [] 0 (m + 1 + 1 + 1 + 1 + 1 + 1 + 1 + 1) none) [.dead] [.vec false 5 (nl && false && false && false && false && false && false && false && false) (List.take (m + 1 + 1 + 1 + 1 + 1 + 1 + 1) (List.take (m + 1 + 1 + 1 + 1 + 1 + 1) (List.take (m + 1 + 1 + 1 + 1 + 1) (List.take (m + 1 + 1 + 1 + 1) (List.take (m + 1 + 1 + 1) (List.take (m + 1 + 1) (List.take (m + 1) (List.take m l ++ [.sc (.int .u8 (IntKind.u8.wrap (JV IntKind.u64 (IntKind.u64.wrap n) (IntKind.u64.wrap (8 * IntKind.u64.wrap 0)))))]) ++ [.sc (.int .u8 (IntKind.u8.wrap (JV IntKind.u64 (IntKind.u64.wrap n) (IntKind.u64.wrap (8 * IntKind.u64.wrap (IntKind.i64.wrap (0 + 1)))))))]) ++ [.sc (.int .u8 (IntKind.u8.wrap (JV IntKind.u64 (IntKind.u64.wrap n) (IntKind.u64.wrap (8 * IntKind.u64.wrap (IntKind.i64.wrap (IntKind.i64.wrap (0 + 1) + 1)))))))]) ++ [.sc (.int .u8 (IntKind.u8.wrap (JV IntKind.u64 (IntKind.u64.wrap n) (IntKind.u64.wrap (8 * IntKind.u64.wrap (IntKind.i64.wrap (IntKind.i64.wrap (IntKind.i64.wrap (0 + 1) + 1) + 1)))))))]) ++ [.sc (.int .u8 (IntKind.u8.wrap (JV IntKind.u64 (IntKind.u64.wrap n) (IntKind.u64.wrap (8 * IntKind.u64.wrap (IntKind.i64.wrap JaW))))))]) ++ [.sc (.int .u8 (IntKind.u8.wrap (JV IntKind.u64 (IntKind.u64.wrap n) (IntKind.u64.wrap (8 * IntKind.u64.wrap (IntKind.i64.wrap (IntKind.i64.wrap JaW + 1)))))))]) ++ [.sc (.int .u8 (IntKind.u8.wrap (JV IntKind.u64 (IntKind.u64.wrap n) (IntKind.u64.wrap (8 * IntKind.u64.wrap (IntKind.i64.wrap (IntKind.i64.wrap (IntKind.i64.wrap JaW + 1) + 1)))))))]) ++ [.sc (.int .u8 (IntKind.u8.wrap (JV IntKind.u64 (IntKind.u64.wrap n) (IntKind.u64.wrap (8 * IntKind.u64.wrap (IntKind.i64.wrap (IntKind.i64.wrap (IntKind.i64.wrap (IntKind.i64.wrap JaW + 1) + 1) + 1)))))))])]) else none else none else none else none else none else none else none else none
theorem JM2 (f : Nat) (nl : Bool) (l : List PV) (m : Nat) (n : Int) (k : KR) : JJ tau JHl Try.f53 (Try.f53.body.get!) JsA [] 12 [.ow 5 0 [] 0 m none, .sc (.int .i64 n)] [.vec false 5 nl l] k = JCd f nl l m n k := by kernel_rfl
theorem JHm (f : Nat) : ∀ q ∈ Jg (Try.f53.body.get!) JsA, q.Ok tau Try.prog 1 := Jw (by kernel_rfl)
theorem JHn : Try.prog.funcs[53]? = some Try.f53 := by kernel_rfl
theorem JHo : Try.f53.body = some (Try.f53.body.get!) := by kernel_rfl
def JHp : Fns := F0
theorem JwJ : Jq tau Try.prog JHp := Js
def JsB : An := (.seq .leaf (.seq (.seq .leaf (.cond .leaf .leaf)) (.seq .leaf .leaf)))
def JCe (f : Nat) (nl : Bool) (l : List PV) (m : Nat) (s : ByteArray) (k : KR) : OR := bif decide (zi s.size > 65535) then bif decide (65535 <= s.size) && true then bif Je (m + 2) 1 && true then bif Je (m + 2 + (Ji (s.extract 0 65535)).length) 1 && true then k (Res.mk (.ow 5 16 [] 0 (m + 2 + (Ji (s.extract 0 65535)).length) none) [.dead] [.vec false 5 (nl && false && (Ji (s.extract 0 65535)).isEmpty) (List.take (m + 2) (List.take m l ++ [.sc (.int .u8 (IntKind.u8.wrap (zi (s.extract 0 65535).size))), .sc (.int .u8 (IntKind.u8.wrap (JV IntKind.i64 (zi (s.extract 0 65535).size) 8)))]) ++ Ji (s.extract 0 65535))]) else none else none else none else bif Je (m + 2) 1 && true then bif Je (m + 2 + (Ji s).length) 1 && true then k (Res.mk (.ow 5 16 [] 0 (m + 2 + (Ji s).length) none) [.dead] [.vec false 5 (nl && false && (Ji s).isEmpty) (List.take (m + 2) (List.take m l ++ [.sc (.int .u8 (IntKind.u8.wrap (zi s.size))), .sc (.int .u8 (IntKind.u8.wrap (JV IntKind.i64 (zi s.size) 8)))]) ++ Ji s)]) else none else none
theorem JM3 (f : Nat) (nl : Bool) (l : List PV) (m : Nat) (s : ByteArray) (k : KR) : JJ tau JHp Try.f97 (Try.f97.body.get!) JsB [] 0 [.ow 5 0 [] 0 m none, .sc (.string s)] [.vec false 5 nl l] k = JCe f nl l m s k := by kernel_rfl
theorem JHq (f : Nat) : ∀ q ∈ Jg (Try.f97.body.get!) JsB, q.Ok tau Try.prog 1 := Jw (by kernel_rfl)
theorem Jzu : Try.prog.funcs[97]? = some Try.f97 := by kernel_rfl
theorem Jzv : Try.f97.body = some (Try.f97.body.get!) := by kernel_rfl
theorem JHr : Enters Try.prog 97 := enters_of Jzu (by kernel_rfl) Jzv
def ib (n i : Int) : Int := IntKind.u8.wrap (JV .u64 (IntKind.u64.wrap n) (8 * i))
def JsC (n : Int) : List Int := [ib n 0, ib n 1, ib n 2, ib n 3, ib n 4, ib n 5, ib n 6, ib n 7]
def QE : Int -> List Int := hid JsC
theorem Yp (n : Int) : QE n = JsC n := by rw [QE, hid_eq]
@[simp] theorem Vc (n : Int) : (QE n).length = 8 := by rw [Yp]; rfl
def JwK (s : ByteArray) : List Int := s.data.toList.map fun b => (b.toNat : Int)
def bsI : ByteArray -> List Int := hid JwK
theorem Jl3 (s : ByteArray) : bsI s = JwK s := by rw [bsI, hid_eq]
theorem X1 (s : ByteArray) : Ji s = pu .u8 (bsI s) := by rw [Jl3]; simp [Ji, pu, JwK]
@[simp] theorem Jl4 (s : ByteArray) : (bsI s).length = s.size := by rw [Jl3]; simp [JwK]
theorem JCf (s : ByteArray) : ∀ x ∈ bsI s, 0 <= x /\ x < 256 := by
 intro x hx
 rw [Jl3] at hx
 obtain ⟨b, _, rfl⟩ := List.mem_map.1 hx
 have := b.toNat_lt
 omega
def GC (s : ByteArray) : List Int := [IntKind.u8.wrap (zi s.size), IntKind.u8.wrap (JV .i64 (zi s.size) 8)] ++ bsI s
def WO : ByteArray -> List Int := hid GC
theorem YU (s : ByteArray) : WO s = GC s := by rw [WO, hid_eq]
@[simp] theorem JaX (s : ByteArray) : (WO s).length = s.size + 2 := by rw [YU]; simp [GC]
theorem Jdx (x : Int) : 0 <= IntKind.u8.wrap x /\ IntKind.u8.wrap x < 256 := by rw [Jlb]; omega
theorem VR (n : Int) : ∀ x ∈ QE n, 0 <= x /\ x < 256 := by
 rw [Yp]; intro x hx
 simp only [JsC, List.mem_cons, List.not_mem_nil, or_false] at hx
 rcases hx with h | h | h | h | h | h | h | h <;> (rw [h]; exact Jdx _)
theorem JsD (s : ByteArray) : ∀ x ∈ WO s, 0 <= x /\ x < 256 := by
 rw [YU]; intro x hx
 rcases List.mem_append.1 hx with hx | hx
 · simp only [List.mem_cons, List.not_mem_nil, or_false] at hx
   rcases hx with h | h <;> (rw [h]; exact Jdx _)
 · exact JCf s x hx
theorem JwL (f : Bool) (b : List PV) (n : Int) (k : KR) : g35 0 true f b n k = k ⟨.ro 5 false false (pu .u8 (QE n)), [], []⟩ := by
 rw [Yp]; kernel_rfl
theorem JHs (f : Bool) (b : List PV) (hb : b.length <= 1000000000) (n : Int) (k : KR) : g35 0 false f b n k = k ⟨.ro 5 false false (b ++ pu .u8 (QE n)), [], []⟩ := by
 rw [Yp]
 unfold g35 JhN Jl1 Jl0 JlZ JlY JeC JlX JlW JlV
 refine (Jd rfl).trans ?_
 repeat (refine (Ja (by simp [Je]; omega)).trans ?_)
 repeat rw [List.take_of_length_le (by simp <;> omega)]
 simp only [List.nil_append, List.append_assoc]
 rfl
def JhP : Jz
 | [.ro 5 z f b, .sc (.int .i64 n)], [], k => bif slB z b then k ⟨.ro 5 false false (b ++ pu .u8 (QE n)), [], []⟩ else none
 | _, _, _ => none
def JHt : Sig := { own := [], run := JhP }
theorem Jzw : Jc tau Try.prog 35 JHt := Jc.mk' fun xs es k res hl hr => by
 change JhP xs es k = some res at hr
 unfold JhP at hr
 split at hr
 · rename_i z f b n
   obtain ⟨hc, hr2⟩ := Jv hr
   clear hr
   obtain ⟨h1, h2⟩ := XA.1 hc
   have hg : g35 0 z f b n k = some res := by
    cases z with
    | true => obtain rfl := h1 rfl; rw [JwL]; exact hr2
    | false => rw [JHs f b h2]; exact hr2
   exact J3 Jn JB2 Jo JHd JHe JB4 [.ro] 0 12 (JMY 0) hl rfl ((e35 0 z f b n k).trans hg)
 · cases hr
theorem JjU (s : ByteArray) : s.extract 0 s.size = s := by
 apply ByteArray.ext
 simp [ByteArray.data_extract]
def JaY : Jz
 | [.ro 5 true true [], .sc (.int .i64 n)], [], k => k ⟨.ow 5 16 [] 0 1 none, [], [.vec false 5 false (pu .u8 [IntKind.u8.wrap n])]⟩
 | [.ow 5 0 [] 0 m none, .sc (.int .i64 n)], [.vec false 5 nl l], k => bif Nat.beq m l.length && Nat.ble l.length 1000000000 then k ⟨.ow 5 16 [] 0 (m + 1) none, [.dead], [.vec false 5 false (l ++ pu .u8 [IntKind.u8.wrap n])]⟩ else none
 | _, _, _ => none
def JHu : Sig := { own := [true], run := JaY }
theorem JCg : Jc tau Try.prog 105 JHu := Jc.mk' fun xs es k res hl hr => by
 change JaY xs es k = some res at hr
 unfold JaY at hr
 split at hr
 · rename_i n
   exact J3 Jn JwF Jo Jzq Jzr Jsx [] 0 0 (JHg 0) hl rfl ((JM0 0 n k).trans hr)
 · rename_i m n nl l
   obtain ⟨hc, hr⟩ := Jv hr
   rw [Bool.and_eq_true, Nat.beq_eq, Nat.ble_eq] at hc
   obtain ⟨rfl, hc⟩ := hc
   have hg : Jsz 0 nl l l.length n k = some res := by
    unfold Jsz
    rw [Ja (by simp [Je]; omega), List.take_length, Bool.and_false]
    exact hr
   exact J3 Jn Jsy Jo JB7 JB8 Jl2 [] 1 0 (JB6 0) hl rfl ((JHh 0 nl l l.length n k).trans hg)
 · cases hr
def JeD : Jz
 | [.ro 5 true true [], .sc (.int .i64 n)], [], k => k ⟨.ow 5 16 [] 0 8 none, [], [.vec false 5 false (pu .u8 (QE n))]⟩
 | [.ow 5 0 [] 0 m none, .sc (.int .i64 n)], [.vec false 5 nl l], k => bif Nat.beq m l.length && Nat.ble l.length 1000000000 then k ⟨.ow 5 16 [] 0 (m + 8) none, [.dead], [.vec false 5 false (l ++ pu .u8 (QE n))]⟩ else none
 | _, _, _ => none
def JM4 : Sig := { own := [true], run := JeD }
theorem JwM (n : Int) (k : KR) : g53 0 n k = k ⟨.ow 5 16 [] 0 8 none, [], [.vec false 5 false (pu .u8 (QE n))]⟩ := by
 rw [Yp]; kernel_rfl
theorem JwN (nl : Bool) (l : List PV) (hl : l.length <= 1000000000) (n : Int) (k : KR) : JCd 0 nl l l.length n k = k ⟨.ow 5 16 [] 0 (l.length + 8) none, [.dead], [.vec false 5 false (l ++ pu .u8 (QE n))]⟩ := by
 rw [Yp]
 unfold JCd JaW
 repeat (refine (Ja (by simp [Je]; omega)).trans ?_)
 repeat rw [List.take_of_length_le (by simp <;> omega)]
 simp only [Bool.and_false, List.append_assoc]
 rfl
theorem Jzx : Jc tau Try.prog 53 JM4 := Jc.mk' fun xs es k res hl hr => by
 change JeD xs es k = some res at hr
 unfold JeD at hr
 split at hr
 · rename_i n
   exact J3 Jn JB9 Jo JHj JHk JCb [] 0 12 (JM1 0) hl rfl ((e53 0 n k).trans ((JwM n k).trans hr))
 · rename_i m n nl l
   obtain ⟨hc, hr⟩ := Jv hr
   rw [Bool.and_eq_true, Nat.beq_eq, Nat.ble_eq] at hc
   obtain ⟨rfl, hc⟩ := hc
   exact J3 Jn JwH Jo JHn JHo JsA [] 1 12 (JHm 0) hl rfl ((JM2 0 nl l l.length n k).trans ((JwN nl l hc n k).trans hr))
 · cases hr
def JeE : Jz
 | [.ow 5 0 [] 0 m none, .sc (.string s)], [.vec false 5 nl l], k => bif Nat.beq m l.length && Nat.ble l.length 1000000000 && Nat.ble s.size 65535 then k ⟨.ow 5 16 [] 0 (m + (s.size + 2)) none, [.dead], [.vec false 5 false (l ++ pu .u8 (WO s))]⟩ else none
 | _, _, _ => none
def JM5 : Sig := { own := [true], run := JeE }
theorem JHv : Jc tau Try.prog 97 JM5 := Jc.mk' fun xs es k res hl hr => by
 change JeE xs es k = some res at hr
 unfold JeE at hr
 split at hr
 · rename_i m s nl l
   obtain ⟨hc, hr⟩ := Jv hr
   rw [Bool.and_eq_true, Bool.and_eq_true, Nat.beq_eq, Nat.ble_eq, Nat.ble_eq] at hc
   obtain ⟨⟨rfl, hc⟩, hs⟩ := hc
   have hg : JCe 0 nl l l.length s k = some res := by
    unfold JCe
    have hob : (Ji s).length = s.size := by rw [X1]; simp
    rw [Jd (by simp only [zi, decide_eq_false_iff_not]; omega), Ja (by simp [Je]; omega), Ja (by simp [Je, hob]; omega), List.take_length, List.take_of_length_le (by simp), hob, Bool.and_false, Bool.false_and]
    rw [YU, GC] at hr
    rw [X1, show l.length + 2 + s.size = l.length + (s.size + 2) from by omega]
    simpa [pu] using hr
   exact J3 Jn JwJ Jo Jzu Jzv JsB [] 1 0 (JHq 0) hl rfl ((JM3 0 nl l l.length s k).trans hg)
 · cases hr
def Jdy : Jz
 | [.ro 5 z f b, .sc (.int .i64 n)], [], k => bif slB z b then k ⟨.ow 5 16 [] 0 (b.length + 1) none, [], [.vec false 5 false (b ++ pu .u8 [IntKind.u8.wrap n])]⟩ else none
 | _, _, _ => none
def JHw : Sig := { own := [], run := Jdy }
theorem JCh : Jc tau Try.prog 130 JHw := Jc.mk' fun xs es k res hl hr => by
 change Jdy xs es k = some res at hr
 unfold Jdy at hr
 split at hr
 · rename_i z f b n
   obtain ⟨hc, hr⟩ := Jv hr
   obtain ⟨h1, h2⟩ := XA.1 hc
   have hg : Jsu 0 z f b n k = some res := by
    have hf : JH [PV.ro 5 z f b, PV.ro 5 false false [PV.sc (Value.int IntKind.u8 (IntKind.u8.wrap n))]] = b ++ pu .u8 [IntKind.u8.wrap n] := by simp [PV.els, pu]
    have hf2 : JH [PV.ro 5 z f b, PV.ro 5 false true [PV.sc (Value.int IntKind.u8 (IntKind.u8.wrap n))]] = b ++ pu .u8 [IntKind.u8.wrap n] := by simp [PV.els, pu]
    have he : (b ++ pu .u8 [IntKind.u8.wrap n]).isEmpty = false := by simp
    have hlen : (b ++ pu .u8 [IntKind.u8.wrap n]).length = b.length + 1 := by simp
    unfold Jsu
    simp only [hf, hf2, List.take_length, List.drop_zero, List.take_succ_cons, List.take_zero, he, hlen, Ent.nil]
    rw [Ja (by simp; omega)]
    exact hr
   exact J3 Jn Jst Jo JBY JBZ JlT [] 0 0 (JBX 0) hl rfl ((JG0 0 z f b n k).trans hg)
 · cases hr
def JhQ : Jz
 | [.ro 5 z f b, .sc (.string s)], [], k => bif slB z b && Nat.ble s.size 65535 then k ⟨.ow 5 16 [] 0 (b.length + (s.size + 2)) none, [], [.vec false 5 false (b ++ pu .u8 (WO s))]⟩ else none
 | _, _, _ => none
def JM6 : Sig := { own := [], run := JhQ }
theorem JHx : Jc tau Try.prog 92 JM6 := Jc.mk' fun xs es k res hl hr => by
 change JhQ xs es k = some res at hr
 unfold JhQ at hr
 split at hr
 · rename_i z f b s
   obtain ⟨hc, hr⟩ := Jv hr
   rw [Bool.and_eq_true, Nat.ble_eq] at hc
   obtain ⟨h1, h2⟩ := XA.1 hc.1
   have hg : JB0 0 z f b s k = some res := by
    have hm : Qh (zi s.size) 65535 = (s.size : Int) := by unfold Qh; rw [if_neg (by simp only [zi]; omega)]
    unfold JB0 JaV VQ
    simp only [hm, Int.toNat_natCast, JjU]
    have hf : ∀ x y : Bool, JH [PV.ro 5 z f b, PV.ro 5 false x [PV.sc (Value.int IntKind.u8 (IntKind.u8.wrap (zi s.size))), PV.sc (Value.int IntKind.u8 (IntKind.u8.wrap (JV IntKind.i64 (zi s.size) 8)))], PV.ro 5 false y (List.take s.size (Ji s))] = b ++ pu .u8 (WO s) := by
     intro x y
     rw [X1, List.take_of_length_le (by simp), YU, GC]
     simp [PV.els, pu]
    have he : (b ++ pu .u8 (WO s)).isEmpty = false := by
     rw [YU, GC]; simp
    have hlen : (b ++ pu .u8 (WO s)).length = b.length + (s.size + 2) := by simp
    simp only [hf, List.take_length, List.drop_zero, List.take_succ_cons, List.take_zero, he, hlen, Ent.nil]
    rw [Ja (by simp), Ja (by simp [Je]; omega), Ja (by simp; omega)]
    exact hr
   exact J3 Jn JwD Jo JG3 JG4 Jsv [] 0 0 (JG2 0) hl rfl ((JMU 0 z f b s k).trans hg)
 · cases hr
def apI : List PV -> Int -> List PV := hid fun b n => b ++ pu .u8 (QE n)
def apY : List PV -> Int -> List PV := hid fun b n => b ++ pu .u8 [IntKind.u8.wrap n]
def apT : List PV -> ByteArray -> List PV := hid fun b s => b ++ pu .u8 (WO s)
def okZ : Bool -> List PV -> Bool := hid slB
def okL : Nat -> List PV -> Bool := hid fun m l => Nat.beq m l.length && Nat.ble l.length 1000000000
theorem Zi (b : List PV) (n : Int) : apI b n = b ++ pu .u8 (QE n) := by rw [apI, hid_eq]
theorem GD (b : List PV) (n : Int) : apY b n = b ++ pu .u8 [IntKind.u8.wrap n] := by rw [apY, hid_eq]
theorem YA (b : List PV) (s : ByteArray) : apT b s = b ++ pu .u8 (WO s) := by rw [apT, hid_eq]
theorem GE (z : Bool) (b : List PV) : okZ z b = slB z b := by rw [okZ, hid_eq]
theorem JhR (m : Nat) (l : List PV) : okL m l = (Nat.beq m l.length && Nat.ble l.length 1000000000) := by rw [okL, hid_eq]
def Jl5 : Jz
 | [.ro 5 z f b, .sc (.int .i64 n)], [], k => bif okZ z b then k ⟨.ro 5 false false (apI b n), [], []⟩ else none
 | _, _, _ => none
def JHy : Sig := { own := [], run := Jl5 }
theorem JHz : Jc tau Try.prog 35 JHy := fun xs es k res hl hr => Jzw xs es k res hl (by
 change Jl5 xs es k = some res at hr
 show JhP xs es k = some res
 unfold Jl5 at hr
 split at hr
 · rw [GE, Zi] at hr; exact hr
 · cases hr)
def JhS : Jz
 | [.ro 5 z f b, .sc (.int .i64 n)], [], k => bif okZ z b then k ⟨.ow 5 16 [] 0 (apY b n).length none, [], [.vec false 5 false (apY b n)]⟩ else none
 | _, _, _ => none
def Jzy : Sig := { own := [], run := JhS }
theorem JCi : Jc tau Try.prog 130 Jzy := fun xs es k res hl hr => JCh xs es k res hl (by
 change JhS xs es k = some res at hr
 show Jdy xs es k = some res
 unfold JhS at hr
 split at hr
 · rename_i z f b n
   rw [GE, GD, show (b ++ pu .u8 [IntKind.u8.wrap n]).length = b.length + 1 by simp] at hr; exact hr
 · cases hr)
def Jl6 : Jz
 | [.ro 5 z f b, .sc (.string s)], [], k => bif okZ z b && Nat.ble s.size 65535 then k ⟨.ow 5 16 [] 0 (apT b s).length none, [], [.vec false 5 false (apT b s)]⟩ else none
 | _, _, _ => none
def JCj : Sig := { own := [], run := Jl6 }
theorem Jzz : Jc tau Try.prog 92 JCj := fun xs es k res hl hr => JHx xs es k res hl (by
 change Jl6 xs es k = some res at hr
 show JhQ xs es k = some res
 unfold Jl6 at hr
 split at hr
 · rename_i z f b s
   rw [GE, YA, show (b ++ pu .u8 (WO s)).length = b.length + (s.size + 2) by simp] at hr; exact hr
 · cases hr)
def JhT : Jz
 | [.ro 5 true true [], .sc (.int .i64 n)], [], k => k ⟨.ow 5 16 [] 0 (apY [] n).length none, [], [.vec false 5 false (apY [] n)]⟩
 | [.ow 5 0 [] 0 m none, .sc (.int .i64 n)], [.vec false 5 nl l], k => bif okL m l then k ⟨.ow 5 16 [] 0 (apY l n).length none, [.dead], [.vec false 5 false (apY l n)]⟩ else none
 | _, _, _ => none
def JsE : Sig := { own := [true], run := JhT }
theorem JsF : Jc tau Try.prog 105 JsE := fun xs es k res hl hr => JCg xs es k res hl (by
 change JhT xs es k = some res at hr
 show JaY xs es k = some res
 unfold JhT at hr
 split at hr
 · rw [GD] at hr; exact hr
 · rename_i m n nl l
   rw [JhR, GD] at hr
   obtain ⟨hc, hr⟩ := Jv hr
   have hm : m = l.length := by rw [Bool.and_eq_true, Nat.beq_eq] at hc; exact hc.1
   have h2 : JaY [.ow 5 0 [] 0 m none, .sc (.int .i64 n)] [.vec false 5 nl l] k = k ⟨.ow 5 16 [] 0 (m + 1) none, [.dead], [.vec false 5 false (l ++ pu .u8 [IntKind.u8.wrap n])]⟩ := Ja hc
   rw [h2, ← hr, hm]; simp
 · cases hr)
def Jl7 : Jz
 | [.ow 5 0 [] 0 m none, .sc (.int .i64 n)], [.vec false 5 nl l], k => bif okL m l then k ⟨.ow 5 16 [] 0 (apI l n).length none, [.dead], [.vec false 5 false (apI l n)]⟩ else none
 | _, _, _ => none
def JHA : Sig := { own := [true], run := Jl7 }
theorem JzA : Jc tau Try.prog 53 JHA := fun xs es k res hl hr => Jzx xs es k res hl (by
 change Jl7 xs es k = some res at hr
 show JeD xs es k = some res
 unfold Jl7 at hr
 split at hr
 · rename_i m n nl l
   rw [JhR, Zi] at hr
   obtain ⟨hc, hr⟩ := Jv hr
   have hm : m = l.length := by rw [Bool.and_eq_true, Nat.beq_eq] at hc; exact hc.1
   have h2 : JeD [.ow 5 0 [] 0 m none, .sc (.int .i64 n)] [.vec false 5 nl l] k = k ⟨.ow 5 16 [] 0 (m + 8) none, [.dead], [.vec false 5 false (l ++ pu .u8 (QE n))]⟩ := Ja hc
   rw [h2, ← hr, hm]; simp
 · cases hr)
def Jl8 : Jz
 | [.ow 5 0 [] 0 m none, .sc (.string s)], [.vec false 5 nl l], k => bif okL m l && Nat.ble s.size 65535 then k ⟨.ow 5 16 [] 0 (apT l s).length none, [.dead], [.vec false 5 false (apT l s)]⟩ else none
 | _, _, _ => none
def JHB : Sig := { own := [true], run := Jl8 }
theorem JzB : Jc tau Try.prog 97 JHB := fun xs es k res hl hr => JHv xs es k res hl (by
 change Jl8 xs es k = some res at hr
 show JeE xs es k = some res
 unfold Jl8 at hr
 split at hr
 · rename_i m s nl l
   rw [JhR, YA] at hr
   obtain ⟨hc, hr⟩ := Jv hr
   have hm : m = l.length := by simp only [Bool.and_eq_true, Nat.beq_eq] at hc; exact hc.1.1
   have h2 : JeE [.ow 5 0 [] 0 m none, .sc (.string s)] [.vec false 5 nl l] k = k ⟨.ow 5 16 [] 0 (m + (s.size + 2)) none, [.dead], [.vec false 5 false (l ++ pu .u8 (WO s))]⟩ := Ja hc
   rw [h2, ← hr, hm]; simp
 · cases hr)
def JHC : Fns := Jt 76 JB1 (F0)
theorem JwO : Jq tau Try.prog JHC := (Js).add Jzp Jzo
def JwP : Nm := [(0, .any), (1, .any), (5, .own), (6, .any)]
def JCk : An := (.seq .leaf (.seq .leaf (.seq .leaf (.seq .leaf (.seq (.seq .leaf (.seq .leaf (.cond .leaf .leaf))) (.seq .leaf .leaf))))))
def JsG : An := (.seq .leaf (.scope JwP JCk))
abbrev JhU (n : Int) := (IntKind.u8.wrap (JV IntKind.u64 (IntKind.u64.wrap n) (IntKind.i64.wrap (8 * IntKind.i64.wrap (0 + 1)))))
abbrev JhV (n : Int) := (IntKind.u8.wrap (JV IntKind.u64 (IntKind.u64.wrap n) (IntKind.i64.wrap (8 * IntKind.i64.wrap (IntKind.i64.wrap (0 + 1) + 1)))))
abbrev JhW (n : Int) := (IntKind.u8.wrap (JV IntKind.u64 (IntKind.u64.wrap n) (IntKind.i64.wrap (8 * IntKind.i64.wrap (IntKind.i64.wrap (IntKind.i64.wrap (0 + 1) + 1) + 1)))))
abbrev JaZ := (IntKind.i64.wrap (IntKind.i64.wrap (IntKind.i64.wrap (0 + 1) + 1) + 1) + 1)
abbrev JhX (n : Int) := (IntKind.u8.wrap (JV IntKind.u64 (IntKind.u64.wrap n) (IntKind.i64.wrap (8 * IntKind.i64.wrap JaZ))))
abbrev JhY (n : Int) := (IntKind.u8.wrap (JV IntKind.u64 (IntKind.u64.wrap n) (IntKind.i64.wrap (8 * IntKind.i64.wrap (IntKind.i64.wrap JaZ + 1)))))
abbrev JhZ (n : Int) := (IntKind.u8.wrap (JV IntKind.u64 (IntKind.u64.wrap n) (IntKind.i64.wrap (8 * IntKind.i64.wrap (IntKind.i64.wrap (IntKind.i64.wrap JaZ + 1) + 1)))))
abbrev Jh0 (n : Int) := (IntKind.u8.wrap (JV IntKind.u64 (IntKind.u64.wrap n) (IntKind.i64.wrap (8 * IntKind.i64.wrap (IntKind.i64.wrap (IntKind.i64.wrap (IntKind.i64.wrap JaZ + 1) + 1) + 1)))))
abbrev Jdz (b : List PV) (n : Int) := (List.take (0 + b.length + 1 + 1 + 1 + 1 + 1 + 1 + 1 + 1) (List.take (0 + b.length + 1 + 1 + 1 + 1 + 1 + 1 + 1) (List.take (0 + b.length + 1 + 1 + 1 + 1 + 1 + 1) (List.take (0 + b.length + 1 + 1 + 1 + 1 + 1) (List.take (0 + b.length + 1 + 1 + 1 + 1) (List.take (0 + b.length + 1 + 1 + 1) (List.take (0 + b.length + 1 + 1) (List.take (0 + b.length + 1) (List.take (0 + b.length) b ++ [PV.sc (.int .u8 (IntKind.u8.wrap (JV IntKind.u64 (IntKind.u64.wrap n) (IntKind.i64.wrap (8 * 0)))))]) ++ [PV.sc (.int .u8 (JhU n))]) ++ [PV.sc (.int .u8 (JhV n))]) ++ [PV.sc (.int .u8 (JhW n))]) ++ [PV.sc (.int .u8 (JhX n))]) ++ [PV.sc (.int .u8 (JhY n))]) ++ [PV.sc (.int .u8 (JhZ n))]) ++ [PV.sc (.int .u8 (Jh0 n))]))
def JsH (f : Nat) (b_z b_f : Bool) (b : List PV) (n : Int) (k : KR) : OR := bif b_z then k (Res.mk (.ow 5 16 [] 0 8 none) [] [.vec false 5 false [.sc (.int .u8 (IntKind.u8.wrap (JV IntKind.u64 (IntKind.u64.wrap n) (IntKind.i64.wrap (8 * 0))))), .sc (.int .u8 (JhU n)), .sc (.int .u8 (JhV n)), .sc (.int .u8 (JhW n)), .sc (.int .u8 (JhX n)), .sc (.int .u8 (JhY n)), .sc (.int .u8 (JhZ n)), .sc (.int .u8 (Jh0 n))]]) else bif Je (0 + b.length) 1 && true then bif Je (0 + b.length + 1) 1 && true then bif Je (0 + b.length + 1 + 1) 1 && true then bif Je (0 + b.length + 1 + 1 + 1) 1 && true then bif Je (0 + b.length + 1 + 1 + 1 + 1) 1 && true then bif Je (0 + b.length + 1 + 1 + 1 + 1 + 1) 1 && true then bif Je (0 + b.length + 1 + 1 + 1 + 1 + 1 + 1) 1 && true then bif Je (0 + b.length + 1 + 1 + 1 + 1 + 1 + 1 + 1) 1 && true then bif Je (0 + b.length + 1 + 1 + 1 + 1 + 1 + 1 + 1 + 1) 1 && true then bif Je (0 + (Jdz b n).length) 1 && true then k (Res.mk (.ow 5 16 [] 0 (0 + (Jdz b n).length) none) [] [.vec false 5 false (Jdz b n)]) else none else none else none else none else none else none else none else none else none else none
theorem JM7 (f : Nat) (b_z b_f : Bool) (b : List PV) (n : Int) (k : KR) : JJ tau JHC Try.f35 (Try.f35.body.get!) JsG [] 12 [.ro 5 b_z b_f b, .sc (.int .i64 n)] [] k = JsH f b_z b_f b n k := by kernel_rfl
theorem JHD (f : Nat) : ∀ q ∈ Jg (Try.f35.body.get!) JsG, q.Ok tau Try.prog 0 := Jw (by kernel_rfl)
theorem JHE : Try.prog.funcs[35]? = some Try.f35 := by kernel_rfl
theorem JHF : Try.f35.body = some (Try.f35.body.get!) := by kernel_rfl
def F97 : Fns := F0
theorem JCl : Jq tau Try.prog F97 := Js
def JCm : An := (.seq .leaf (.seq (.seq .leaf (.cond .leaf .leaf)) (.seq .leaf .leaf)))
def g97 (f : Nat) (s : ByteArray) (k : KR) : OR := bif decide (zi s.size > 65535) then bif decide (65535 <= s.size) && true then bif Je (2 + (Ji (s.extract 0 65535)).length) 1 && true then k (Res.mk (.ow 5 16 [] 0 (2 + (Ji (s.extract 0 65535)).length) none) [] [.vec false 5 false (.sc (.int .u8 (IntKind.u8.wrap (zi (s.extract 0 65535).size))) :: .sc (.int .u8 (IntKind.u8.wrap (JV IntKind.i64 (zi (s.extract 0 65535).size) 8))) :: id (Ji (s.extract 0 65535)))]) else none else none else bif Je (2 + (Ji s).length) 1 && true then k (Res.mk (.ow 5 16 [] 0 (2 + (Ji s).length) none) [] [.vec false 5 false (.sc (.int .u8 (IntKind.u8.wrap (zi s.size))) :: .sc (.int .u8 (IntKind.u8.wrap (JV IntKind.i64 (zi s.size) 8))) :: id (Ji s))]) else none
theorem e97 (f : Nat) (s : ByteArray) (k : KR) : JJ tau F97 Try.f97 (Try.f97.body.get!) JCm [] 0 [.ro 5 true true [], .sc (.string s)] [] k = g97 f s k := by kernel_rfl
theorem JM8 (f : Nat) : ∀ q ∈ Jg (Try.f97.body.get!) JCm, q.Ok tau Try.prog 0 := Jw (by kernel_rfl)
theorem JHG : Try.prog.funcs[97]? = some Try.f97 := by kernel_rfl
theorem JHH : Try.f97.body = some (Try.f97.body.get!) := by kernel_rfl
theorem JHI : Enters Try.prog 97 := enters_of JHG (by kernel_rfl) JHH
def Jl9 : Jz
 | [.ro 5 z f b, .sc (.int .i64 n)], [], k => bif okZ z b then k ⟨.ow 5 16 [] 0 (apI b n).length none, [], [.vec false 5 false (apI b n)]⟩ else none
 | _, _, _ => none
def JHJ : Sig := { own := [], run := Jl9 }
theorem JsI (f : Bool) (n : Int) (k : KR) : JsH 0 true f [] n k = k ⟨.ow 5 16 [] 0 8 none, [], [.vec false 5 false (pu .u8 (QE n))]⟩ := by
 rw [Yp]; kernel_rfl
theorem JCn (f : Bool) (b : List PV) (hb : b.length <= 1000000000) (n : Int) (k : KR) : JsH 0 false f b n k = k ⟨.ow 5 16 [] 0 (b.length + 8) none, [], [.vec false 5 false (b ++ pu .u8 (QE n))]⟩ := by
 rw [Yp]
 unfold JsH Jdz Jh0 JhZ JhY JhX JaZ JhW JhV JhU
 refine (Jd rfl).trans ?_
 repeat rw [List.take_of_length_le (by simp <;> omega)]
 repeat (refine (Ja (by simp [Je]; omega)).trans ?_)
 simp only [List.nil_append, List.append_assoc, List.length_append, List.length_cons, List.length_nil, Nat.zero_add]
 rfl
theorem JHK : Jc tau Try.prog 35 JHJ := Jc.mk' fun xs es k res hl hr => by
 change Jl9 xs es k = some res at hr
 unfold Jl9 at hr
 split at hr
 · rename_i z f b n
   obtain ⟨hc, hr2⟩ := Jv hr
   clear hr
   rw [GE] at hc
   obtain ⟨h1, h2⟩ := XA.1 hc
   rw [Zi] at hr2
   have hg : JsH 0 z f b n k = some res := by
    cases z with
    | true => obtain rfl := h1 rfl; rw [JsI]; simpa using hr2
    | false => rw [JCn f b h2]; simpa using hr2
   exact J3 Jn JwO Jo JHE JHF JsG [] 0 12 (JHD 0) hl rfl ((JM7 0 z f b n k).trans hg)
 · cases hr
def Jma : Jz
 | [.ro 5 true true [], .sc (.int .i64 n)], [], k => k ⟨.ow 5 16 [] 0 (apI [] n).length none, [], [.vec false 5 false (apI [] n)]⟩
 | [.ow 5 0 [] 0 m none, .sc (.int .i64 n)], [.vec false 5 nl l], k => bif okL m l then k ⟨.ow 5 16 [] 0 (apI l n).length none, [.dead], [.vec false 5 false (apI l n)]⟩ else none
 | _, _, _ => none
def JwQ : Sig := { own := [true], run := Jma }
theorem JsJ : Jc tau Try.prog 53 JwQ := fun xs es k res hl hr => by
 change Jma xs es k = some res at hr
 unfold Jma at hr
 split at hr
 · rename_i n
   refine Jzx _ _ k res hl ?_
   rw [Zi] at hr
   show k ⟨.ow 5 16 [] 0 8 none, [], [.vec false 5 false (pu .u8 (QE n))]⟩ = some res
   simpa using hr
 · rename_i m n nl l
   exact JzA _ _ k res hl hr
 · cases hr
def Jmb : Jz
 | [.ro 5 true true [], .sc (.string s)], [], k => bif Nat.ble s.size 65535 then k ⟨.ow 5 16 [] 0 (apT [] s).length none, [], [.vec false 5 false (apT [] s)]⟩ else none
 | [.ow 5 0 [] 0 m none, .sc (.string s)], [.vec false 5 nl l], k => bif okL m l && Nat.ble s.size 65535 then k ⟨.ow 5 16 [] 0 (apT l s).length none, [.dead], [.vec false 5 false (apT l s)]⟩ else none
 | _, _, _ => none
def JCo : Sig := { own := [true], run := Jmb }
theorem JzC : Jc tau Try.prog 97 JCo := Jc.mk' fun xs es k res hl hr => by
 change Jmb xs es k = some res at hr
 unfold Jmb at hr
 split at hr
 · rename_i s
   obtain ⟨hc, hr⟩ := Jv hr
   rw [Nat.ble_eq] at hc
   have hob : (Ji s).length = s.size := by rw [X1]; simp
   have hg : g97 0 s k = some res := by
    unfold g97
    rw [Jd (by simp only [zi, decide_eq_false_iff_not]; omega), Ja (by simp [Je, hob]; omega), hob]
    rw [YA, YU, GC] at hr
    simp only [List.nil_append, Qa, List.length_append, JI, Jl4, List.length_cons, List.length_nil, ← X1] at hr
    rw [← hr, hob]
    simp only [id, Jdt, Jla, List.cons_append, List.nil_append, Nat.zero_add, Nat.reduceAdd]
   exact J3 Jn JCl Jo JHG JHH JCm [] 0 0 (JM8 0) hl rfl ((e97 0 s k).trans hg)
 · rename_i m s nl l
   exact JzB _ _ k res hl hr
 · cases hr
def N93 : Nat := 34
def F93 : Fns := Jt 130 Jzy (Jt 92 JCj (Jt 35 JHy (F0)))
theorem JsK : Jq tau Try.prog F93 := (((Js).add JHz JB5).add Jzz JG8).add JCi JG7
def JjV : Code := Qf (Try.f93.body.get!) [1, 0]
def JeF : Nm := [(0, .any), (3, .own), (4, .any)]
def Jmc : Nm := [(2, .any)]
def JoL : An := (.seq .leaf (.seq .leaf (.seq .leaf (.seq (.seq .leaf (.cond (.seq .leaf (.seq .leaf .leaf)) .leaf)) (.seq .leaf .leaf)))))
def JwR (r0 : Jrl) : An := (.seq .leaf (.ssum JeF N93 (JoL) r0))
abbrev JsL := Bool -> Bool -> List PV -> Nat -> Int -> List PV -> OR
abbrev W0 (v2 : List PV) (v4 : Int) := (PV.child (0 + 1 + 1) (v2.getD v4.toNat PV.top))
abbrev X2 (v2 : List PV) (v4 : Int) := (PV.isSt 113 #[Field.mk "Kind" 3 0 false "" "" 0, Field.mk "N" 3 1 false "" "" 8, Field.mk "S" 9 2 false "" "" 16].size (v2.getD v4.toNat PV.top) && (PV.isInt IntKind.i64 (PV.child 0 (v2.getD v4.toNat PV.top)) && (PV.isInt IntKind.i64 (PV.child (0 + 1) (v2.getD v4.toNat PV.top)) && ((W0 v2 v4).isStr && true))))
abbrev W1 (v2 : List PV) (v3 : Nat) (v4 : Int) (v5 : List PV) := (List.take (apY (List.take v3 v5) (PV.child 0 (v2.getD v4.toNat PV.top)).int).length (apY (List.take v3 v5) (PV.child 0 (v2.getD v4.toNat PV.top)).int))
def Ja0 (f : Nat) (rc : JsL) (k0 : Nat -> List PV -> OR) (v0 v1 : Bool) (v2 : List PV) (v3 : Nat) (v4 : Int) (v5 : List PV) : OR := bif decide (v4 < zi v2.length) then bif decide (0 <= v4) && decide (v4 < zi v2.length) && (X2 v2 v4) && true then bif okZ false (List.take v3 v5) then bif decide (0 <= v4) && decide (v4 < zi v2.length) && (X2 v2 v4) && true then bif okZ false (W1 v2 v3 v4 v5) then bif decide (0 <= v4) && decide (v4 < zi v2.length) && (X2 v2 v4) && true then bif okZ false (apI (W1 v2 v3 v4 v5) (PV.child (0 + 1) (v2.getD v4.toNat PV.top)).int) && (W0 v2 v4).str.size.ble 65535 then rc v0 v1 v2 ((apT (apI (W1 v2 v3 v4 v5) (PV.child (0 + 1) (v2.getD v4.toNat PV.top)).int) (W0 v2 v4).str).length) (IntKind.i64.wrap (v4 + 1)) (apT (apI (W1 v2 v3 v4 v5) (PV.child (0 + 1) (v2.getD v4.toNat PV.top)).int) (W0 v2 v4).str) else none else none else none else none else none else none else k0 v3 v5
def GF (f : Nat) (k0 : Nat -> List PV -> OR) : Nat -> JsL
 | 0 => fun _ _ _ _ _ _ => none
 | n + 1 => Ja0 f (GF f k0 n) k0
def Ja1 (k : Kont) := fun x0 x1 => k Ex.ret (Jj Jmc N93 [.ow 5 560 [] 0 x0 none] [(560, .vec false 5 false x1)])
def Jmd (f : Nat) (k : Kont) (n : Nat) (v0 v1 : Bool) (v2 : List PV) (v3 : Nat) (v4 : Int) (v5 : List PV) : OR := Q2 tau 0 JeF (hasLabel JjV) (fun l s k => Qi tau F93 0 0 JjV (JoL ) l s k) n 0 (Jj JeF N93 [.ro 113 v0 v1 v2, .ow 5 560 [] 0 v3 none, .sc (.int .i64 v4)] [(560, .vec false 5 false v5)]) (JG tau 0 Jmc k)
theorem JwS (f : Nat) (k : Kont) (n : Nat) : Jmd f k (n + 1) = Ja0 f (Jmd f k n) (Ja1 k) := by kernel_rfl
theorem JoM (f : Nat) (k : Kont) : ∀ n, Jmd f k n = GF f (Ja1 k) n
 | 0 => rfl
 | n + 1 => (JwS f k n).trans (congrArg (fun r => Ja0 f r (Ja1 k)) (JoM f k n))
def JeG (f : Nat) : Nat -> List PV -> List (Nat × Ent) -> Kont -> OR
 | 0, [.ro 113 v0 v1 v2, .ow 5 560 [] 0 v3 none,
 PV.sc
  (Value.int IntKind.i64
   v4)], [(560, .vec false 5 false v5)], k => GF f (Ja1 k) f v0 v1 v2 v3 v4 v5
 | _, _, _, _ => none
theorem JCp (f : Nat) : Jg JjV JoL = [] := by kernel_rfl
theorem JCq (f : Nat) : (Item.s JjV JeF N93 (JeG f)).Ok tau Try.prog 0 := XV Jn JsK Jo (x := JoL) (nm2 := Jmc) (Jk _ _ (by rw [JCp f]; intro q hq; cases hq)) fun l vs hp k res hr => by
 unfold JeG at hr
 split at hr
 · rw [← JoM f] at hr; exact ⟨f, 0, hr⟩
 · cases hr
abbrev Jh1 (o : List PV) := (List.take (apY [] (zi o.length)).length (apY [] (zi o.length)))
abbrev JeH (o : List PV) := (apY (Jh1 o) (PV.child 0 (o.getD 0 PV.top)).int)
abbrev JeI (o : List PV) := (PV.child (0 + 1 + 1) (o.getD 0 PV.top))
abbrev Jh2 (o : List PV) := (PV.isSt 113 #[Field.mk "Kind" 3 0 false "" "" 0, Field.mk "N" 3 1 false "" "" 8, Field.mk "S" 9 2 false "" "" 16].size (o.getD (Int.toNat 0) PV.top) && (PV.isInt IntKind.i64 (PV.child 0 (o.getD 0 PV.top)) && (PV.isInt IntKind.i64 (PV.child (0 + 1) (o.getD 0 PV.top)) && ((JeI o).isStr && true))))
abbrev Jh3 (o : List PV) := (apI (List.take (JeH o).length (JeH o)) (PV.child (0 + 1) (o.getD 0 PV.top)).int)
def g93 (f : Nat) (o_z o_f : Bool) (o : List PV) (k : KR) : OR := bif okZ true [] then bif decide (0 < zi o.length) then bif decide (0 < zi o.length) && (Jh2 o) && true then bif okZ false (Jh1 o) then bif decide (0 < zi o.length) && (Jh2 o) && true then bif okZ false (List.take (JeH o).length (JeH o)) then bif decide (0 < zi o.length) && (Jh2 o) && true then bif okZ false (Jh3 o) && (JeI o).str.size.ble 65535 then GF f (fun x0_0 x1_0 => k (Res.mk (.ro 5 false false (List.take x0_0 x1_0)) [] [])) f o_z o_f o ((apT (Jh3 o) (JeI o).str).length) (IntKind.i64.wrap (0 + 1)) (apT (Jh3 o) (JeI o).str) else none else none else none else none else none else none else k (Res.mk (.ro 5 false false (Jh1 o)) [] []) else none
theorem e93 (f : Nat) (o_z o_f : Bool) (o : List PV) (k : KR) : JJ tau F93 Try.f93 (Try.f93.body.get!) (JwR (JeG f)) [.ro] 0 [.ro 113 o_z o_f o] [] k = g93 f o_z o_f o k := by kernel_rfl
theorem JM9 (f : Nat) : Jg (Try.f93.body.get!) (JwR (JeG f)) = [.s JjV JeF N93 (JeG f)] := by kernel_rfl
theorem JNa (f : Nat) : ∀ q ∈ Jg (Try.f93.body.get!) (JwR (JeG f)), q.Ok tau Try.prog 0 := by rw [JM9 f]; exact JL (JCq f) (fun _ h => nomatch h)
theorem JHL : Try.prog.funcs[93]? = some Try.f93 := by kernel_rfl
theorem JHM : Try.f93.body = some (Try.f93.body.get!) := by kernel_rfl
theorem JNb : Enters Try.prog 93 := enters_of JHL (by kernel_rfl) JHM
def N98 : Nat := 34
def F98 : Fns := Jt 105 JsE (Jt 97 JHB (Jt 53 JHA (F0)))
theorem JsM : Jq tau Try.prog F98 := (((Js).add JzA JwG).add JzB JHr).add JsF Jzs
def JoN : Code := Qf (Try.f98.body.get!) [1, 1, 0, 1, 0, 0]
def JeJ : Nm := [(0, .any), (3, .own), (4, .any)]
def Jme : Nm := [(3, .any)]
def JsN : An := (.seq (.seq .leaf (.cond .leaf .leaf)) (.seq (.block none .leaf) .leaf))
def JwT (r0 : Qw) : An := (.seq .leaf (.seq .leaf (.seq (.seq .leaf (.block none (.sum JeJ N98 r0))) (.seq .leaf .leaf))))
abbrev JsO := Bool -> Bool -> List PV -> Nat -> Int -> List PV -> OR
abbrev W2 (v2 : List PV) (v4 : Int) := (PV.child (0 + 1 + 1) (v2.getD v4.toNat PV.top))
abbrev X3 (v2 : List PV) (v4 : Int) := (PV.isSt 113 #[Field.mk "Kind" 3 0 false "" "" 0, Field.mk "N" 3 1 false "" "" 8, Field.mk "S" 9 2 false "" "" 16].size (v2.getD v4.toNat PV.top) && (PV.isInt IntKind.i64 (PV.child 0 (v2.getD v4.toNat PV.top)) && (PV.isInt IntKind.i64 (PV.child (0 + 1) (v2.getD v4.toNat PV.top)) && ((W2 v2 v4).isStr && true))))
abbrev W3 (v2 : List PV) (v4 : Int) (v5 : List PV) := (apI (apY v5 (PV.child 0 (v2.getD v4.toNat PV.top)).int) (PV.child (0 + 1) (v2.getD v4.toNat PV.top)).int)
def Ja2 (f : Nat) (rc : JsO) (k0 : Nat -> List PV -> OR) (v0 v1 : Bool) (v2 : List PV) (v3 : Nat) (v4 : Int) (v5 : List PV) : OR := bif decide (v4 < zi v2.length) then bif decide (0 <= v4) && decide (v4 < zi v2.length) && (X3 v2 v4) && true then bif okL v3 v5 then bif decide (0 <= v4) && decide (v4 < zi v2.length) && (X3 v2 v4) && true then bif okL (apY v5 (PV.child 0 (v2.getD v4.toNat PV.top)).int).length (apY v5 (PV.child 0 (v2.getD v4.toNat PV.top)).int) then bif decide (0 <= v4) && decide (v4 < zi v2.length) && (X3 v2 v4) && true then bif okL (W3 v2 v4 v5).length (W3 v2 v4 v5) && (W2 v2 v4).str.size.ble 65535 then rc v0 v1 v2 ((apT (W3 v2 v4 v5) (W2 v2 v4).str).length) (IntKind.i64.wrap (v4 + 1)) (apT (W3 v2 v4 v5) (W2 v2 v4).str) else none else none else none else none else none else none else k0 v3 v5
def GG (f : Nat) (k0 : Nat -> List PV -> OR) : Nat -> JsO
 | 0 => fun _ _ _ _ _ _ => none
 | n + 1 => Ja2 f (GG f k0 n) k0
def Ja3 (k : Kont) := fun x0 x1 => k (Ex.exit 0) (Jj Jme N98 [.ow 5 560 [] 0 x0 none] [(560, .vec false 5 false x1)])
def Jmf (f : Nat) (k : Kont) (n : Nat) (v0 v1 : Bool) (v2 : List PV) (v3 : Nat) (v4 : Int) (v5 : List PV) : OR := Jy tau 0 JeJ (fun s k => ev tau F98 0 0 JoN (JsN ) s k) n (Jj JeJ N98 [.ro 113 v0 v1 v2, .ow 5 560 [] 0 v3 none, .sc (.int .i64 v4)] [(560, .vec false 5 false v5)]) (JG tau 0 Jme k)
theorem JwU (f : Nat) (k : Kont) (n : Nat) : Jmf f k (n + 1) = Ja2 f (Jmf f k n) (Ja3 k) := by kernel_rfl
theorem JoO (f : Nat) (k : Kont) : ∀ n, Jmf f k n = GG f (Ja3 k) n
 | 0 => rfl
 | n + 1 => (JwU f k n).trans (congrArg (fun r => Ja2 f r (Ja3 k)) (JoO f k n))
def JeK (f : Nat) : List PV -> List (Nat × Ent) -> Kont -> OR
 | [.ro 113 v0 v1 v2, .ow 5 560 [] 0 v3 none,
 PV.sc
  (Value.int IntKind.i64
   v4)], [(560, .vec false 5 false v5)], k => GG f (Ja3 k) f v0 v1 v2 v3 v4 v5
 | _, _, _ => none
theorem JCr (f : Nat) : Jg JoN JsN = [] := by kernel_rfl
theorem JCs (f : Nat) : (Item.l JoN JeJ N98 (JeK f)).Ok tau Try.prog 0 := Ju Jn JsM Jo (x := JsN) (nm2 := Jme) (Jk _ _ (by rw [JCr f]; intro q hq; cases hq)) fun vs hp k res hr => by
 unfold JeK at hr
 split at hr
 · rw [← JoO f] at hr; exact ⟨f, 0, hr⟩
 · cases hr
def g98 (f : Nat) (o_z o_f : Bool) (o : List PV) (k : KR) : OR := GG f (fun x0_0 x1_0 => k (Res.mk (.ow 5 16 [] 0 x0_0 none) [] [.vec false 5 false x1_0])) f o_z o_f o ((apY [] (zi o.length)).length) (0) (apY [] (zi o.length))
theorem e98 (f : Nat) (o_z o_f : Bool) (o : List PV) (k : KR) : JJ tau F98 Try.f98 (Try.f98.body.get!) (JwT (JeK f)) [] 0 [.ro 113 o_z o_f o] [] k = g98 f o_z o_f o k := by kernel_rfl
theorem JNc (f : Nat) : Jg (Try.f98.body.get!) (JwT (JeK f)) = [.l JoN JeJ N98 (JeK f)] := by kernel_rfl
theorem JNd (f : Nat) : ∀ q ∈ Jg (Try.f98.body.get!) (JwT (JeK f)), q.Ok tau Try.prog 0 := by rw [JNc f]; exact JL (JCs f) (fun _ h => nomatch h)
theorem JHN : Try.prog.funcs[98]? = some Try.f98 := by kernel_rfl
theorem JHO : Try.f98.body = some (Try.f98.body.get!) := by kernel_rfl
theorem JHP : Enters Try.prog 98 := enters_of JHN (by kernel_rfl) JHO
def JoP (c : CV) : List Int := [IntKind.u8.wrap c.kd] ++ (QE c.n ++ WO c.s)
def WH (l : List PV) : List Int := l.flatMap fun p => JoP (cv p)
def JsP (l : List PV) : List Int := [IntKind.u8.wrap (zi l.length)] ++ WH l
def opB : List PV -> List Int := hid JsP
theorem Jmg (l : List PV) : opB l = JsP l := by rw [opB, hid_eq]
theorem XD (c : CV) : (JoP c).length = c.s.size + 11 := by simp [JoP]; omega
def cBy : List PV -> Bool := hid fun l => l.all isCp && (l.all (fun p => decide ((cv p).s.size <= 65535)) && decide (l.length <= 1000))
theorem JdA {l : List PV} : cBy l = true ↔ l.all isCp = true /\ (∀ p ∈ l, (cv p).s.size <= 65535) /\ l.length <= 1000 := by
 rw [cBy, hid_eq]; simp only [Bool.and_eq_true, List.all_eq_true, decide_eq_true_eq]
theorem JeL (m : Nat) : ∀ l : List PV, (∀ p ∈ l, (cv p).s.size <= m) -> (WH l).length <= l.length * (m + 11)
 | [], _ => by simp [WH]
 | p :: l, h => by
  have h1 := h p List.mem_cons_self
  have h2 := JeL m l fun x hx => h x (List.mem_cons_of_mem _ hx)
  simp only [WH, List.flatMap_cons, List.length_append, XD, List.length_cons, Nat.add_mul] at h2 ⊢
  omega
theorem Jh4 (L : List PV) (p : PV) : apT (apI (apY L (PV.child 0 p).int) (PV.child (0 + 1) p).int) (PV.child (0 + 1 + 1) p).str = L ++ pu .u8 (JoP (cv p)) := by
 rw [YA, Zi, GD]
 show _ = L ++ pu .u8 ([IntKind.u8.wrap (PV.child 0 p).int] ++ (QE (PV.child (0 + 1) p).int ++ WO (PV.child (0 + 1 + 1) p).str))
 simp only [Qa, List.append_assoc]
theorem XE (L : List PV) (n : Int) : (apY L n).length = L.length + 1 := by rw [GD]; simp
theorem Xg (L : List PV) (n : Int) : (apI L n).length = L.length + 8 := by rw [Zi]; simp
theorem W4 {l : List PV} (h : l.length <= 1000000000) : okL l.length l = true := by
 rw [JhR, Bool.and_eq_true, Nat.beq_eq, Nat.ble_eq]; exact ⟨rfl, h⟩
theorem Vd {l : List PV} (h : l.length <= 1000000000) : okZ false l = true := by rw [GE]; exact XA.2 ⟨fun h => (by cases h), h⟩
theorem JzD (l : List PV) (h1 : l.all isCp = true) (h3 : ∀ p ∈ l, (cv p).s.size <= 65535) (h2 : l.length <= 1000) (f : Nat) (k0 : Nat -> List PV -> OR) (z fl : Bool) : ∀ (d i n : Nat) (L : List PV), i + d = l.length -> d < n -> L.length <= 1 + i * 65546 ->
  GF f k0 n z fl l L.length (i : Int) L = k0 (L ++ pu .u8 (WH (l.drop i))).length (L ++ pu .u8 (WH (l.drop i)))
 | 0, i, n + 1, L, hi, hn, hL => by
   rw [List.drop_of_length_le (by omega)]
   simp only [GF, Ja0, W1, X2, W0, WH, List.flatMap_nil, Jla, List.append_nil]
   exact Jd (by simp [zi]; omega)
 | d + 1, i, n + 1, L, hi, hn, hL => by
   have g1 := tI i
   have w1 := wI (i := i) (by omega)
   have hro : (decide (0 <= (i : Int)) && decide ((i : Int) < zi l.length) && (PV.isSt 113 #[Field.mk "Kind" 3 0 false "" "" 0, Field.mk "N" 3 1 false "" "" 8, Field.mk "S" 9 2 false "" "" 16].size (l.getD i PV.top) && (PV.isInt IntKind.i64 (PV.child 0 (l.getD i PV.top)) && (PV.isInt IntKind.i64 (PV.child (0 + 1) (l.getD i PV.top)) && ((PV.child (0 + 1 + 1) (l.getD i PV.top)).isStr && true)))) && true) = true := by
    have hq : (PV.isSt 113 #[Field.mk "Kind" 3 0 false "" "" 0, Field.mk "N" 3 1 false "" "" 8, Field.mk "S" 9 2 false "" "" 16].size (l.getD i PV.top) && (PV.isInt IntKind.i64 (PV.child 0 (l.getD i PV.top)) && (PV.isInt IntKind.i64 (PV.child (0 + 1) (l.getD i PV.top)) && ((PV.child (0 + 1 + 1) (l.getD i PV.top)).isStr && true)))) = true := XL (WW h1 (by omega))
    rw [hq]; simp [zi]; omega
   have hd := J0 (l := l) (i := i) (by omega)
   have hmem : l.getD i .top ∈ l := by rw [List.getD_eq_getElem?_getD, List.getElem?_eq_getElem (by omega)]; exact List.getElem_mem (by omega)
   have hsz := h3 _ hmem
   have hs2 : (PV.child (0 + 1 + 1) (l.getD i PV.top)).str.size.ble 65535 = true := Nat.ble_eq.symm ▸ hsz
   have hi2 : i * 65546 <= 999 * 65546 := Nat.mul_le_mul_right _ (by omega)
   simp only [GF, Ja0, W1, X2, W0, g1, w1, List.take_length]
   refine (Ja (by simp [zi]; omega)).trans ((Ja hro).trans ((Ja (Vd (by omega))).trans ((Ja hro).trans ((Ja (Vd (by rw [XE]; omega))).trans ((Ja hro).trans ((Ja (by rw [Vd (by rw [Xg, XE]; omega), hs2]; rfl)).trans ?_))))))
   rw [Jh4]
   refine (JzD l h1 h3 h2 f k0 z fl d (i + 1) n _ (by omega) (by omega) (by rw [List.length_append, JI, XD]; omega)).trans ?_
   rw [hd]
   simp only [WH, List.flatMap_cons, Qa, List.append_assoc]
theorem JzE (l : List PV) (h1 : l.all isCp = true) (h3 : ∀ p ∈ l, (cv p).s.size <= 65535) (h2 : l.length <= 1000) (f : Nat) (k0 : Nat -> List PV -> OR) (z fl : Bool) : ∀ (d i n : Nat) (L : List PV), i + d = l.length -> d < n -> L.length <= 1 + i * 65546 ->
  GG f k0 n z fl l L.length (i : Int) L = k0 (L ++ pu .u8 (WH (l.drop i))).length (L ++ pu .u8 (WH (l.drop i)))
 | 0, i, n + 1, L, hi, hn, hL => by
   rw [List.drop_of_length_le (by omega)]
   simp only [GG, Ja2, W3, X3, W2, WH, List.flatMap_nil, Jla, List.append_nil]
   exact Jd (by simp [zi]; omega)
 | d + 1, i, n + 1, L, hi, hn, hL => by
   have g1 := tI i
   have w1 := wI (i := i) (by omega)
   have hro : (decide (0 <= (i : Int)) && decide ((i : Int) < zi l.length) && (PV.isSt 113 #[Field.mk "Kind" 3 0 false "" "" 0, Field.mk "N" 3 1 false "" "" 8, Field.mk "S" 9 2 false "" "" 16].size (l.getD i PV.top) && (PV.isInt IntKind.i64 (PV.child 0 (l.getD i PV.top)) && (PV.isInt IntKind.i64 (PV.child (0 + 1) (l.getD i PV.top)) && ((PV.child (0 + 1 + 1) (l.getD i PV.top)).isStr && true)))) && true) = true := by
    have hq : (PV.isSt 113 #[Field.mk "Kind" 3 0 false "" "" 0, Field.mk "N" 3 1 false "" "" 8, Field.mk "S" 9 2 false "" "" 16].size (l.getD i PV.top) && (PV.isInt IntKind.i64 (PV.child 0 (l.getD i PV.top)) && (PV.isInt IntKind.i64 (PV.child (0 + 1) (l.getD i PV.top)) && ((PV.child (0 + 1 + 1) (l.getD i PV.top)).isStr && true)))) = true := XL (WW h1 (by omega))
    rw [hq]; simp [zi]; omega
   have hd := J0 (l := l) (i := i) (by omega)
   have hmem : l.getD i .top ∈ l := by rw [List.getD_eq_getElem?_getD, List.getElem?_eq_getElem (by omega)]; exact List.getElem_mem (by omega)
   have hsz := h3 _ hmem
   have hs2 : (PV.child (0 + 1 + 1) (l.getD i PV.top)).str.size.ble 65535 = true := Nat.ble_eq.symm ▸ hsz
   have hi2 : i * 65546 <= 999 * 65546 := Nat.mul_le_mul_right _ (by omega)
   simp only [GG, Ja2, W3, X3, W2, g1, w1, List.take_length]
   refine (Ja (by simp [zi]; omega)).trans ((Ja hro).trans ((Ja (W4 (by omega))).trans ((Ja hro).trans ((Ja (W4 (by rw [XE]; omega))).trans ((Ja hro).trans ((Ja (by rw [W4 (by rw [Xg, XE]; omega), hs2]; rfl)).trans ?_))))))
   rw [Jh4]
   refine (JzE l h1 h3 h2 f k0 z fl d (i + 1) n _ (by omega) (by omega) (by rw [List.length_append, JI, XD]; omega)).trans ?_
   rw [hd]
   simp only [WH, List.flatMap_cons, Qa, List.append_assoc]
theorem JjW {l : List PV} : apY [] (zi l.length) = pu .u8 [IntKind.u8.wrap (zi l.length)] := by rw [GD]; rfl
def Jmh : Jz
 | [.ro 113 z f l], [], k => bif cBy l then k ⟨.ro 5 false false (pu .u8 (opB l)), [], []⟩ else none
 | _, _, _ => none
def JHQ : Sig := { own := [], run := Jmh }
theorem JCt (z f : Bool) (l : List PV) (h : cBy l = true) (k : KR) : g93 1010 z f l k = k ⟨.ro 5 false false (pu .u8 (opB l)), [], []⟩ := by
 obtain ⟨h1, h3, h2⟩ := JdA.1 h
 have hY := JjW (l := l)
 rw [Jmg]
 unfold g93 Jh3 Jh2 JeI JeH Jh1
 simp only [List.take_length]
 refine (Ja (by rw [GE]; rfl)).trans ?_
 cases l with
 | nil => exact (Jd (by simp [zi])).trans (by rw [hY]; rfl)
 | cons p r =>
  have hq : (PV.isSt 113 #[Field.mk "Kind" 3 0 false "" "" 0, Field.mk "N" 3 1 false "" "" 8, Field.mk "S" 9 2 false "" "" 16].size ((p :: r).getD 0 PV.top) && (PV.isInt IntKind.i64 (PV.child 0 ((p :: r).getD 0 PV.top)) && (PV.isInt IntKind.i64 (PV.child (0 + 1) ((p :: r).getD 0 PV.top)) && ((PV.child (0 + 1 + 1) ((p :: r).getD 0 PV.top)).isStr && true)))) = true := by
   have := XL (WW h1 (i := 0) (by simp))
   exact this
  have hro : (decide (0 < zi (p :: r).length) && (PV.isSt 113 #[Field.mk "Kind" 3 0 false "" "" 0, Field.mk "N" 3 1 false "" "" 8, Field.mk "S" 9 2 false "" "" 16].size ((p :: r).getD 0 PV.top) && (PV.isInt IntKind.i64 (PV.child 0 ((p :: r).getD 0 PV.top)) && (PV.isInt IntKind.i64 (PV.child (0 + 1) ((p :: r).getD 0 PV.top)) && ((PV.child (0 + 1 + 1) ((p :: r).getD 0 PV.top)).isStr && true)))) && true) = true := by
   rw [hq]; simp [zi]
  have hsz := h3 p List.mem_cons_self
  have hs2 : (PV.child (0 + 1 + 1) ((p :: r).getD 0 PV.top)).str.size.ble 65535 = true := Nat.ble_eq.symm ▸ hsz
  have l1 : (apY [] (zi (p :: r).length)).length = 1 := by rw [XE]; rfl
  refine (Ja (by simp [zi])).trans ((Ja hro).trans ((Ja (Vd (by rw [l1]; decide))).trans ((Ja hro).trans ((Ja (Vd (by rw [XE, l1]; decide))).trans ((Ja hro).trans ((Ja (by rw [Vd (by rw [Xg, XE, l1]; decide), hs2]; rfl)).trans ?_))))))
  rw [Jh4]
  have w1 : IntKind.i64.wrap (0 + 1) = ((1 : Nat) : Int) := by decide
  rw [w1]
  refine (JzD (p :: r) h1 h3 h2 1010 _ z f r.length 1 1010 _ (by simp; omega) (by simp at h2; omega) (by rw [List.length_append, JI, XD, l1]; have : (cv ((p :: r).getD 0 PV.top)).s.size <= 65535 := hsz; omega)).trans ?_
  rw [List.take_length, hY]
  simp only [JsP, WH, List.flatMap_cons, Qa, List.append_assoc, List.drop_succ_cons, List.drop_zero, List.getD_cons_zero]
theorem JHR : Jc tau Try.prog 93 JHQ := Jc.mk' fun xs es k res hl hr => by
 change Jmh xs es k = some res at hr
 unfold Jmh at hr
 split at hr
 · rename_i z f l
   obtain ⟨hc, hr⟩ := Jv hr
   exact J3 Jn JsK Jo JHL JHM (JwR (JeG 1010)) [.ro] 0 0 (JNa 1010) hl rfl ((e93 1010 z f l k).trans ((JCt z f l hc k).trans hr))
 · cases hr
def Jmi : Jz
 | [.ro 113 z f l], [], k => bif cBy l then k ⟨.ow 5 16 [] 0 (opB l).length none, [], [.vec false 5 false (pu .u8 (opB l))]⟩ else none
 | _, _, _ => none
def JCu : Sig := { own := [], run := Jmi }
theorem JCv (z f : Bool) (l : List PV) (h : cBy l = true) (k : KR) : g98 1010 z f l k = k ⟨.ow 5 16 [] 0 (opB l).length none, [], [.vec false 5 false (pu .u8 (opB l))]⟩ := by
 obtain ⟨h1, h3, h2⟩ := JdA.1 h
 have hY := JjW (l := l)
 rw [Jmg]
 unfold g98
 refine (JzE l h1 h3 h2 1010 _ z f l.length 0 1010 _ (by omega) (by omega) (by rw [XE]; simp)).trans ?_
 rw [List.drop_zero, hY, ← Qa]
 rw [show [IntKind.u8.wrap (zi l.length)] ++ WH l = JsP l from rfl, JI]
theorem JzF : Jc tau Try.prog 98 JCu := Jc.mk' fun xs es k res hl hr => by
 change Jmi xs es k = some res at hr
 unfold Jmi at hr
 split at hr
 · rename_i z f l
   obtain ⟨hc, hr⟩ := Jv hr
   exact J3 Jn JsM Jo JHN JHO (JwT (JeK 1010)) [] 0 0 (JNd 1010) hl rfl ((e98 1010 z f l k).trans ((JCv z f l hc k).trans hr))
 · cases hr
def F99 : Fns := Jt 105 JsE (Jt 98 JCu (Jt 97 JCo (Jt 53 JwQ (F0))))
theorem JCw : Jq tau Try.prog F99 := ((((Js).add JsJ JwG).add JzC JHI).add JzF JHP).add JsF Jzs
def JCx : An := (.seq .leaf (.seq .leaf (.seq .leaf (.seq .leaf (.seq .leaf (.seq .leaf .leaf))))))
abbrev JeM (y0 : Int) (y1 : Int) (d_Id : Int) (y2 : Int) (y3 : List PV) := (List.take (apI (apI (apI (apI [] y0) y1) d_Id) y2).length (apI (apI (apI (apI [] y0) y1) d_Id) y2) ++ List.take 32 y3)
abbrev Jmj (d_Op : List PV) := (ByteArray.mk (Array.mk (JW ((Ent.vec false 5 false (pu IntKind.u8 (opB d_Op))).nil, List.take (opB d_Op).length (List.drop 0 (pu IntKind.u8 (opB d_Op)))).snd)))
abbrev GH (y0 : Int) (y1 : Int) (d_Id : Int) (y2 : Int) (y3 : List PV) (y4 : Int) (d_Op : List PV) := (apT (apY (JeM y0 y1 d_Id y2 y3) y4) (Jmj d_Op))
def g99 (f : Nat) (y0 y1 d_Id y2 : Int) (y3 : List PV) (y4 : Int) (y5 y6 : Bool) (d_Op : List PV) (y7 y8 : Int) (k : KR) : OR := bif okL (apI [] y0).length (apI [] y0) then bif okL (apI (apI [] y0) y1).length (apI (apI [] y0) y1) then bif okL (apI (apI (apI [] y0) y1) d_Id).length (apI (apI (apI [] y0) y1) d_Id) then bif Je ((apI (apI (apI (apI [] y0) y1) d_Id) y2).length + (List.take 32 y3).length) 1 && true then bif okL ((apI (apI (apI (apI [] y0) y1) d_Id) y2).length + (List.take 32 y3).length) (JeM y0 y1 d_Id y2 y3) then bif cBy d_Op then bif Jl IntKind.u8 (List.take (opB d_Op).length (pu IntKind.u8 (opB d_Op))) && true then bif okL (apY (JeM y0 y1 d_Id y2 y3) y4).length (apY (JeM y0 y1 d_Id y2 y3) y4) && (Jmj d_Op).size.ble 65535 then bif okL (GH y0 y1 d_Id y2 y3 y4 d_Op).length (GH y0 y1 d_Id y2 y3 y4 d_Op) then bif okL (apI (GH y0 y1 d_Id y2 y3 y4 d_Op) y7).length (apI (GH y0 y1 d_Id y2 y3 y4 d_Op) y7) then k (Res.mk (.ow 5 16 [] 0 (apI (apI (GH y0 y1 d_Id y2 y3 y4 d_Op) y7) y8).length none) [] [.vec false 5 false (apI (apI (GH y0 y1 d_Id y2 y3 y4 d_Op) y7) y8)]) else none else none else none else none else none else none else none else none else none else none
theorem e99 (f : Nat) (y0 y1 d_Id y2 : Int) (y3 : List PV) (y4 : Int) (y5 y6 : Bool) (d_Op : List PV) (y7 y8 : Int) (k : KR) : JJ tau F99 Try.f99 (Try.f99.body.get!) JCx [] 0 [.st 53 [.st 42 [.sc (.int .i64 y0), .sc (.int .i64 y1)], .sc (.int .i64 d_Id), .sc (.int .i64 y2), .ar 37 y3, .sc (.int .i64 y4), .ro 113 y5 y6 d_Op, .st 42 [.sc (.int .i64 y7), .sc (.int .i64 y8)]]] [] k = g99 f y0 y1 d_Id y2 y3 y4 y5 y6 d_Op y7 y8 k := by kernel_rfl
theorem JNe (f : Nat) : ∀ q ∈ Jg (Try.f99.body.get!) JCx, q.Ok tau Try.prog 0 := Jw (by kernel_rfl)
theorem JHS : Try.prog.funcs[99]? = some Try.f99 := by kernel_rfl
theorem JHT : Try.f99.body = some (Try.f99.body.get!) := by kernel_rfl
theorem JNf : Enters Try.prog 99 := enters_of JHS (by kernel_rfl) JHT
def F41 : Fns := Jt 93 JHQ (Jt 92 JCj (Jt 35 JHJ (F0)))
theorem JCy : Jq tau Try.prog F41 := (((Js).add JHK JB5).add Jzz JG8).add JHR JNb
def JCz : An := (.seq .leaf (.seq .leaf (.seq .leaf .leaf)))
abbrev Jcm (y0 : Bool) (y2 : List PV) := (ByteArray.mk (Array.mk (JW (y0, y2).snd)))
abbrev Ve (y0 : Bool) (y2 : List PV) (y3 : List PV) := (List.take ((apT [] (Jcm y0 y2)).length + (List.take 32 y3).length) (List.take (apT [] (Jcm y0 y2)).length (apT [] (Jcm y0 y2)) ++ List.take 32 y3))
abbrev Jh5 (e_Op : List PV) := (ByteArray.mk (Array.mk (JW (false, pu IntKind.u8 (opB e_Op)).snd)))
def g41 (f : Nat) (y0 y1 : Bool) (y2 y3 : List PV) (e_At : Int) (y4 y5 : Bool) (e_Op y6 y7 : List PV) (k : KR) : OR := bif Jl IntKind.u8 y2 && true then bif okZ true [] && (Jcm y0 y2).size.ble 65535 then bif Je ((apT [] (Jcm y0 y2)).length + (List.take 32 y3).length) 1 && true then bif okZ false (Ve y0 y2 y3) then bif cBy e_Op then bif Jl IntKind.u8 (pu IntKind.u8 (opB e_Op)) && true then bif okZ false (List.take (apI (Ve y0 y2 y3) e_At).length (apI (Ve y0 y2 y3) e_At)) && (Jh5 e_Op).size.ble 65535 then k (Res.mk (.ro 5 false false (List.take (apT (List.take (apI (Ve y0 y2 y3) e_At).length (apI (Ve y0 y2 y3) e_At)) (Jh5 e_Op)).length (apT (List.take (apI (Ve y0 y2 y3) e_At).length (apI (Ve y0 y2 y3) e_At)) (Jh5 e_Op)))) [] []) else none else none else none else none else none else none else none
theorem e41 (f : Nat) (y0 y1 : Bool) (y2 y3 : List PV) (e_At : Int) (y4 y5 : Bool) (e_Op y6 y7 : List PV) (k : KR) : JJ tau F41 Try.f41 (Try.f41.body.get!) JCz [.ro] 0 [.st 51 [.st 47 [.ro 5 y0 y1 y2, .ar 37 y3], .sc (.int .i64 e_At), .ro 113 y4 y5 e_Op, .ar 37 y6, .ar 37 y7]] [] k = g41 f y0 y1 y2 y3 e_At y4 y5 e_Op y6 y7 k := by kernel_rfl
theorem JNg (f : Nat) : ∀ q ∈ Jg (Try.f41.body.get!) JCz, q.Ok tau Try.prog 0 := Jw (by kernel_rfl)
theorem JHU : Try.prog.funcs[41]? = some Try.f41 := by kernel_rfl
theorem JHV : Try.f41.body = some (Try.f41.body.get!) := by kernel_rfl
theorem JNh : Enters Try.prog 41 := enters_of JHU (by kernel_rfl) JHV
def F52 : Fns := Jt 98 JCu (Jt 97 JCo (Jt 53 JwQ (F0)))
theorem JCA : Jq tau Try.prog F52 := (((Js).add JsJ JwG).add JzC JHI).add JzF JHP
def JCB : An := (.seq .leaf (.seq .leaf (.seq .leaf .leaf)))
abbrev Jcn (y0 : Bool) (y2 : List PV) := (ByteArray.mk (Array.mk (JW (y0, y2).snd)))
abbrev Jco (y0 : Bool) (y2 : List PV) (y3 : List PV) := (List.take (apT [] (Jcn y0 y2)).length (apT [] (Jcn y0 y2)) ++ List.take 32 y3)
abbrev Jh6 (e_Op : List PV) := (ByteArray.mk (Array.mk (JW ((Ent.vec false 5 false (pu IntKind.u8 (opB e_Op))).nil, List.take (opB e_Op).length (List.drop 0 (pu IntKind.u8 (opB e_Op)))).snd)))
def g52 (f : Nat) (y0 y1 : Bool) (y2 y3 : List PV) (e_At : Int) (y4 y5 : Bool) (e_Op y6 y7 : List PV) (k : KR) : OR := bif Jl IntKind.u8 y2 && true then bif (Jcn y0 y2).size.ble 65535 then bif Je ((apT [] (Jcn y0 y2)).length + (List.take 32 y3).length) 1 && true then bif okL ((apT [] (Jcn y0 y2)).length + (List.take 32 y3).length) (Jco y0 y2 y3) then bif cBy e_Op then bif Jl IntKind.u8 (List.take (opB e_Op).length (pu IntKind.u8 (opB e_Op))) && true then bif okL (apI (Jco y0 y2 y3) e_At).length (apI (Jco y0 y2 y3) e_At) && (Jh6 e_Op).size.ble 65535 then k (Res.mk (.ow 5 16 [] 0 (apT (apI (Jco y0 y2 y3) e_At) (Jh6 e_Op)).length none) [] [.vec false 5 false (apT (apI (Jco y0 y2 y3) e_At) (Jh6 e_Op))]) else none else none else none else none else none else none else none
theorem e52 (f : Nat) (y0 y1 : Bool) (y2 y3 : List PV) (e_At : Int) (y4 y5 : Bool) (e_Op y6 y7 : List PV) (k : KR) : JJ tau F52 Try.f52 (Try.f52.body.get!) JCB [] 0 [.st 51 [.st 47 [.ro 5 y0 y1 y2, .ar 37 y3], .sc (.int .i64 e_At), .ro 113 y4 y5 e_Op, .ar 37 y6, .ar 37 y7]] [] k = g52 f y0 y1 y2 y3 e_At y4 y5 e_Op y6 y7 k := by kernel_rfl
theorem JNi (f : Nat) : ∀ q ∈ Jg (Try.f52.body.get!) JCB, q.Ok tau Try.prog 0 := Jw (by kernel_rfl)
theorem JHW : Try.prog.funcs[52]? = some Try.f52 := by kernel_rfl
theorem JHX : Try.f52.body = some (Try.f52.body.get!) := by kernel_rfl
theorem JHY : Enters Try.prog 52 := enters_of JHW (by kernel_rfl) JHX
def tx (l : List PV) : ByteArray := ByteArray.mk (Array.mk (JW l))
theorem Yq (l : List PV) : (tx l).size = l.length := Va l
structure EV where
 (b m : List PV) (at1 : Int) (o : List PV)
def Jh7 (e : EV) : List Int := WO (tx e.b) ++ (JD e.m ++ (QE e.at1 ++ WO (tx (pu .u8 (opB e.o)))))
def JY : EV -> List Int := hid Jh7
theorem JjX (e : EV) : JY e = Jh7 e := by rw [JY, hid_eq]
def eOk : EV -> Bool := hid fun e => Jl .u8 e.b && (decide (e.b.length <= 65535) && (Jl .u8 e.m && (decide (e.m.length = 32) && (cBy e.o && decide ((opB e.o).length <= 65535)))))
theorem Xh {e : EV} : eOk e = true ↔ Jl .u8 e.b = true /\ e.b.length <= 65535 /\ Jl .u8 e.m = true /\ e.m.length = 32 /\ cBy e.o = true /\ (opB e.o).length <= 65535 := by
 rw [eOk, hid_eq]; simp only [Bool.and_eq_true, decide_eq_true_eq]
theorem XF {e : EV} (h : eOk e = true) : (JY e).length = e.b.length + (opB e.o).length + 44 := by
 obtain ⟨h1, h2, h3, h4, h5, h6⟩ := Xh.1 h
 rw [JjX]
 simp only [Jh7, List.length_append, JaX, QU, Vc, Yq, JI, h4]; omega
theorem JeN {e : EV} (h : eOk e = true) : apT (apI (apT [] (tx e.b) ++ List.take 32 e.m) e.at1) (tx (pu .u8 (opB e.o))) = pu .u8 (JY e) := by
 obtain ⟨h1, h2, h3, h4, h5, h6⟩ := Xh.1 h
 rw [JjX, YA, Zi, YA, List.take_of_length_le (by omega)]
 simp only [Jh7, Qa, List.nil_append, List.append_assoc, ← QB h3]
def Jmk : Jz
 | [.st 51 [.st 47 [.ro 5 bz bf b, .ar 37 m], .sc (.int .i64 at1), .ro 113 oz of o, .ar 37 h, .ar 37 mc]], [], k => bif eOk ⟨b, m, at1, o⟩ then k ⟨.ro 5 false false (pu .u8 (JY ⟨b, m, at1, o⟩)), [], []⟩ else none
 | _, _, _ => none
def JHZ : Sig := { own := [], run := Jmk }
theorem JCC (bz bf : Bool) (b m : List PV) (at1 : Int) (oz of : Bool) (o h mc : List PV) (he : eOk ⟨b, m, at1, o⟩ = true) (k : KR) : g41 0 bz bf b m at1 oz of o h mc k = k ⟨.ro 5 false false (pu .u8 (JY ⟨b, m, at1, o⟩)), [], []⟩ := by
 have hl := XF he
 have hp := JeN he
 obtain ⟨h1, h2, h3, h4, h5, h6⟩ := Xh.1 he
 simp only at hl hp h1 h2 h3 h4 h5 h6
 have ht : ∀ l : List PV, ByteArray.mk (Array.mk (JW l)) = tx l := fun l => rfl
 have hm : List.take 32 m = m := List.take_of_length_le (by omega)
 have l1 : (apT [] (tx b)).length = b.length + 2 := by rw [YA]; simp [Yq]
 have l2 : ∀ (L : List PV) (n : Int), (apI L n).length = L.length + 8 := Xg
 have htp : ∀ l : List Int, List.take l.length (pu .u8 l) = pu .u8 l := fun l => List.take_of_length_le (by simp)
 have hcat : ∀ n, n = (apT [] (tx b)).length + m.length -> List.take n (apT [] (tx b) ++ m) = apT [] (tx b) ++ m := fun n hn => List.take_of_length_le (by simp; omega)
 rw [hm] at hp
 unfold g41 Jh5 Ve Jcm
 simp only [ht, hm, List.take_length, htp, List.drop_zero, hcat _ rfl, Yq, JI]
 refine (Ja (by rw [h1]; rfl)).trans ((Ja (by rw [GE]; show (true && _) = true; rw [Bool.true_and, Nat.ble_eq]; exact h2)).trans ((Ja (by simp only [Je, Nat.mul_one, Bool.and_true, decide_eq_true_eq, l1]; omega)).trans ((Ja (by rw [Vd (by rw [List.length_append, l1]; omega)])).trans ((Ja h5).trans ((Ja (by rw [JP]; rfl)).trans ((Ja (by rw [Vd (by rw [l2, List.length_append, l1]; omega), Bool.true_and, Nat.ble_eq]; exact h6)).trans ?_))))))
 rw [hp]
 try rfl
theorem JH0 : Jc tau Try.prog 41 JHZ := Jc.mk' fun xs es k res hl hr => by
 change Jmk xs es k = some res at hr
 unfold Jmk at hr
 split at hr
 · rename_i bz bf b m at1 oz of o h mc
   obtain ⟨hc, hr⟩ := Jv hr
   exact J3 Jn JCy Jo JHU JHV JCz [.ro] 0 0 (JNg 0) hl rfl ((e41 0 bz bf b m at1 oz of o h mc k).trans ((JCC bz bf b m at1 oz of o h mc hc k).trans hr))
 · cases hr
def Jml : Jz
 | [.st 51 [.st 47 [.ro 5 bz bf b, .ar 37 m], .sc (.int .i64 at1), .ro 113 oz of o, .ar 37 h, .ar 37 mc]], [], k => bif eOk ⟨b, m, at1, o⟩ then k ⟨.ow 5 16 [] 0 (JY ⟨b, m, at1, o⟩).length none, [], [.vec false 5 false (pu .u8 (JY ⟨b, m, at1, o⟩))]⟩ else none
 | _, _, _ => none
def JCD : Sig := { own := [], run := Jml }
theorem JCE (bz bf : Bool) (b m : List PV) (at1 : Int) (oz of : Bool) (o h mc : List PV) (he : eOk ⟨b, m, at1, o⟩ = true) (k : KR) : g52 0 bz bf b m at1 oz of o h mc k = k ⟨.ow 5 16 [] 0 (JY ⟨b, m, at1, o⟩).length none, [], [.vec false 5 false (pu .u8 (JY ⟨b, m, at1, o⟩))]⟩ := by
 have hl := XF he
 have hp := JeN he
 obtain ⟨h1, h2, h3, h4, h5, h6⟩ := Xh.1 he
 simp only at hl hp h1 h2 h3 h4 h5 h6
 have ht : ∀ l : List PV, ByteArray.mk (Array.mk (JW l)) = tx l := fun l => rfl
 have hm : List.take 32 m = m := List.take_of_length_le (by omega)
 have l1 : (apT [] (tx b)).length = b.length + 2 := by rw [YA]; simp [Yq]
 have l2 : ∀ (L : List PV) (n : Int), (apI L n).length = L.length + 8 := Xg
 have htp : ∀ l : List Int, List.take l.length (pu .u8 l) = pu .u8 l := fun l => List.take_of_length_le (by simp)
 have hcat : ∀ n, n = (apT [] (tx b)).length + m.length -> List.take n (apT [] (tx b) ++ m) = apT [] (tx b) ++ m := fun n hn => List.take_of_length_le (by simp; omega)
 rw [hm] at hp
 unfold g52 Jh6 Jco Jcn
 simp only [ht, hm, List.take_length, htp, List.drop_zero, hcat _ rfl, Yq, JI]
 refine (Ja (by rw [h1]; rfl)).trans ((Ja (by rw [Nat.ble_eq]; exact h2)).trans ((Ja (by simp only [Je, Nat.mul_one, Bool.and_true, decide_eq_true_eq, l1]; omega)).trans ((Ja (by rw [show (apT [] (tx b)).length + m.length = (apT [] (tx b) ++ m).length from (List.length_append).symm, W4 (by rw [List.length_append, l1]; omega)])).trans ((Ja h5).trans ((Ja (by rw [JP]; rfl)).trans ((Ja (by rw [W4 (by rw [l2, List.length_append, l1]; omega), Bool.true_and, Nat.ble_eq]; exact h6)).trans ?_))))))
 rw [hp]
 rw [JI]
theorem JzG : Jc tau Try.prog 52 JCD := Jc.mk' fun xs es k res hl hr => by
 change Jml xs es k = some res at hr
 unfold Jml at hr
 split at hr
 · rename_i bz bf b m at1 oz of o h mc
   obtain ⟨hc, hr⟩ := Jv hr
   exact J3 Jn JCA Jo JHW JHX JCB [] 0 0 (JNi 0) hl rfl ((e52 0 bz bf b m at1 oz of o h mc k).trans ((JCE bz bf b m at1 oz of o h mc hc k).trans hr))
 · cases hr
structure DV where
 (ad au id ve : Int) (h : List PV) (kd : Int) (o : List PV) (wd wu : Int)
def JsQ (d : DV) : List Int := QE d.ad ++ (QE d.au ++ (QE d.id ++ (QE d.ve ++ (JD d.h ++ ([IntKind.u8.wrap d.kd] ++ (WO (tx (pu .u8 (opB d.o))) ++ (QE d.wd ++ QE d.wu)))))))
def dlB : DV -> List Int := hid JsQ
theorem Jmm (d : DV) : dlB d = JsQ d := by rw [dlB, hid_eq]
def dOk : DV -> Bool := hid fun d => Jl .u8 d.h && (decide (d.h.length = 32) && (cBy d.o && decide ((opB d.o).length <= 65535)))
theorem Zj {d : DV} : dOk d = true ↔ Jl .u8 d.h = true /\ d.h.length = 32 /\ cBy d.o = true /\ (opB d.o).length <= 65535 := by
 rw [dOk, hid_eq]; simp only [Bool.and_eq_true, decide_eq_true_eq]
theorem GI {d : DV} (h : dOk d = true) : (dlB d).length = (opB d.o).length + 83 := by
 obtain ⟨h1, h2, h3, h4⟩ := Zj.1 h
 rw [Jmm]
 simp only [JsQ, List.length_append, JaX, QU, Vc, Yq, JI, h2, List.length_cons, List.length_nil]; omega
theorem JsR {d : DV} (h : dOk d = true) : apI (apI (apT (apY (apI (apI (apI (apI [] d.ad) d.au) d.id) d.ve ++ List.take 32 d.h) d.kd) (tx (pu .u8 (opB d.o)))) d.wd) d.wu = pu .u8 (dlB d) := by
 obtain ⟨h1, h2, h3, h4⟩ := Zj.1 h
 rw [Jmm, List.take_of_length_le (by omega)]
 simp only [YA, Zi, GD, JsQ, Qa, List.nil_append, List.append_assoc, ← QB h1]
def Jmn : Jz
 | [.st 53 [.st 42 [.sc (.int .i64 ad), .sc (.int .i64 au)], .sc (.int .i64 id1), .sc (.int .i64 ve), .ar 37 h, .sc (.int .i64 kd), .ro 113 oz of o, .st 42 [.sc (.int .i64 wd), .sc (.int .i64 wu)]]], [], k => bif dOk ⟨ad, au, id1, ve, h, kd, o, wd, wu⟩ then k ⟨.ow 5 16 [] 0 (dlB ⟨ad, au, id1, ve, h, kd, o, wd, wu⟩).length none, [], [.vec false 5 false (pu .u8 (dlB ⟨ad, au, id1, ve, h, kd, o, wd, wu⟩))]⟩ else none
 | _, _, _ => none
def JH1 : Sig := { own := [], run := Jmn }
theorem JCF (ad au id1 ve : Int) (h : List PV) (kd : Int) (oz of : Bool) (o : List PV) (wd wu : Int) (he : dOk ⟨ad, au, id1, ve, h, kd, o, wd, wu⟩ = true) (k : KR) : g99 0 ad au id1 ve h kd oz of o wd wu k = k ⟨.ow 5 16 [] 0 (dlB ⟨ad, au, id1, ve, h, kd, o, wd, wu⟩).length none, [], [.vec false 5 false (pu .u8 (dlB ⟨ad, au, id1, ve, h, kd, o, wd, wu⟩))]⟩ := by
 have hl := GI he
 have hp := JsR he
 obtain ⟨h1, h2, h3, h4⟩ := Zj.1 he
 simp only at hl hp h1 h2 h3 h4
 have ht : ∀ l : List PV, ByteArray.mk (Array.mk (JW l)) = tx l := fun l => rfl
 have hm : List.take 32 h = h := List.take_of_length_le (by omega)
 have l1 : ∀ (L : List PV) (n : Int), (apY L n).length = L.length + 1 := XE
 have l2 : ∀ (L : List PV) (n : Int), (apI L n).length = L.length + 8 := Xg
 have l3 : ∀ (L : List PV), (apT L (tx (pu .u8 (opB o)))).length = L.length + ((opB o).length + 2) := fun L => by rw [YA]; simp [Yq]
 have htp : ∀ l : List Int, List.take l.length (pu .u8 l) = pu .u8 l := fun l => List.take_of_length_le (by simp)
 have hcat : ∀ L : List PV, List.take (L.length + h.length) (L ++ h) = L ++ h := fun L => List.take_of_length_le (by simp)
 rw [hm] at hp
 unfold g99 GH Jmj JeM
 simp only [ht, hm, List.take_length, htp, List.drop_zero, hcat, Yq, JI]
 refine (Ja (W4 (by simp only [l2, List.length_nil]; omega))).trans ((Ja (W4 (by simp only [l2, List.length_nil]; omega))).trans ((Ja (W4 (by simp only [l2, List.length_nil]; omega))).trans ?_))
 refine (Ja (by simp only [Je, Nat.mul_one, Bool.and_true, decide_eq_true_eq, l2, List.length_nil]; omega)).trans ?_
 refine (Ja (by rw [show ∀ L : List PV, L.length + h.length = (L ++ h).length from fun L => (List.length_append).symm, W4 (by simp only [List.length_append, l2, List.length_nil]; omega)])).trans ((Ja h3).trans ((Ja (by rw [JP]; rfl)).trans ?_))
 refine (Ja (by rw [W4 (by simp only [l1, List.length_append, l2, List.length_nil]; omega), Bool.true_and, Nat.ble_eq]; exact h4)).trans ?_
 refine (Ja (W4 (by rw [l3]; simp only [l1, List.length_append, l2, List.length_nil]; omega))).trans ?_
 refine (Ja (W4 (by rw [l2, l3]; simp only [l1, List.length_append, l2, List.length_nil]; omega))).trans ?_
 rw [hp]
 rw [JI]
theorem JH2 : Jc tau Try.prog 99 JH1 := Jc.mk' fun xs es k res hl hr => by
 change Jmn xs es k = some res at hr
 unfold Jmn at hr
 split at hr
 · rename_i ad au id1 ve h kd oz of o wd wu
   obtain ⟨hc, hr⟩ := Jv hr
   exact J3 Jn JCw Jo JHS JHT JCx [] 0 0 (JNe 0) hl rfl ((e99 0 ad au id1 ve h kd oz of o wd wu k).trans ((JCF ad au id1 ve h kd oz of o wd wu hc k).trans hr))
 · cases hr
def JwV (d : DV) : Int :=
 bif inZ d.ad 2 && (inZ d.au 7 && (inZ d.id 1073741824 && inZ d.ve 1048576)) then
  (bif d.kd == 1 then (bif ckO d.o == 0 then (bif d.wd == 0 && d.wu == 0 then 0 else 1) else ckO d.o)
  else bif d.kd == 2 || d.kd == 3 then (bif d.o.isEmpty && (inZ d.wd 2 && inZ d.wu 7) then 0 else 1)
  else 3)
 else 1
def dCk : DV -> Int := hid JwV
theorem JsS (d : DV) : dCk d = JwV d := by rw [dCk, hid_eq]
theorem Jh8 (x m : Int) : inZ x m = (decide (x >= 0) && decide (x <= m)) := rfl
theorem JNj (x : Int) : decide (x < 0) = !decide (x >= 0) := by rw [← decide_not]; apply decide_eq_decide.2; omega
theorem JNk (x m : Int) : decide (x > m) = !decide (x <= m) := by rw [← decide_not]; apply decide_eq_decide.2; omega
theorem JjY (l : List PV) : decide (zi l.length > 0) = !l.isEmpty := by
 cases l with
 | nil => rfl
 | cons p ps => exact decide_eq_true (by simp only [zi, List.length_cons]; omega)
theorem JCG (ad au id1 ve : Int) (h : List PV) (kd : Int) (oz of : Bool) (o : List PV) (wd wu : Int) (hc : cOk o = true) (k : KR) : g85 0 ad au id1 ve h kd oz of o wd wu k = k ⟨.sc (.int .i64 (dCk ⟨ad, au, id1, ve, h, kd, o, wd, wu⟩)), [], []⟩ := by
 rw [JsS]
 unfold g85 JwV
 simp only [hc, Jh8, JjY, cond_true, bne]
 have h2 : (kd == 2) = true -> (kd == 1) = false := fun h => by
     have : kd = 2 := by simpa using h
     rw [this]; decide
 generalize o.isEmpty = e0
 generalize (kd == 1) = d1 at *
 generalize (kd == 2) = d2 at *
 generalize (kd == 3) = d3
 generalize (wd == 0) = w0
 generalize (wu == 0) = w1
 generalize hck : ckO o = ck
 cases decide (ad >= 0)
 · rfl
 cases decide (ad <= 2)
 · rfl
 cases decide (au >= 0)
 · rfl
 cases decide (au <= 7)
 · rfl
 cases decide (id1 >= 0)
 · rfl
 cases decide (id1 <= 1073741824)
 · rfl
 cases decide (ve >= 0)
 · rfl
 cases decide (ve <= 1048576)
 · rfl
 cases d1
 · cases d2
   · cases d3
     · rfl
     · cases e0 <;> cases decide (wd >= 0) <;> cases decide (wd <= 2) <;> cases decide (wu >= 0) <;> cases decide (wu <= 7) <;> rfl
   · cases e0 <;> cases decide (wd >= 0) <;> cases decide (wd <= 2) <;> cases decide (wu >= 0) <;> cases decide (wu <= 7) <;> rfl
 · cases ck == 0 <;> cases w0 <;> cases w1 <;> rfl
def Jmo : Jz
 | [.st 53 [.st 42 [.sc (.int .i64 ad), .sc (.int .i64 au)], .sc (.int .i64 id1), .sc (.int .i64 ve), .ar 37 h, .sc (.int .i64 kd), .ro 113 oz of o, .st 42 [.sc (.int .i64 wd), .sc (.int .i64 wu)]]], [], k => bif cOk o then k ⟨.sc (.int .i64 (dCk ⟨ad, au, id1, ve, h, kd, o, wd, wu⟩)), [], []⟩ else none
 | _, _, _ => none
def JH3 : Sig := { own := [], run := Jmo }
theorem JH4 : Jc tau Try.prog 85 JH3 := JMi.of fun xs es k res hr => by
 change Jmo xs es k = some res at hr
 unfold Jmo at hr
 split at hr
 · rename_i ad au id1 ve h kd oz of o wd wu
   obtain ⟨hc, hr⟩ := Jv hr
   exact (JCG ad au id1 ve h kd oz of o wd wu hc k).trans hr
 · cases hr
theorem JCH (ad au id1 ve : Int) (h : List PV) (kd : Int) (oz of : Bool) (o : List PV) (wd wu : Int) (hc : cOk o = true) (k : KR) : g50 0 ad au id1 ve h kd oz of o wd wu k = k ⟨.sc (.int .i64 (dCk ⟨ad, au, id1, ve, h, kd, o, wd, wu⟩)), [], []⟩ := by
 rw [JsS]
 unfold g50 JwV
 simp only [hc, JjY, cond_true, bne]
 simp only [Jh8, JjH, JNj, JNk]
 have h2 : (kd == 2) = true -> (kd == 1) = false := fun h => by
     have : kd = 2 := by simpa using h
     rw [this]; decide
 generalize o.isEmpty = e0
 generalize (kd == 1) = d1 at *
 generalize (kd == 2) = d2 at *
 generalize (kd == 3) = d3
 generalize (wd == 0) = w0
 generalize (wu == 0) = w1
 generalize hck : ckO o = ck
 cases decide (ad >= 0)
 · rfl
 cases decide (ad <= 2)
 · rfl
 cases decide (au >= 0)
 · rfl
 cases decide (au <= 7)
 · rfl
 cases decide (id1 >= 0)
 · rfl
 cases decide (id1 <= 1073741824)
 · rfl
 cases decide (ve >= 0)
 · rfl
 cases decide (ve <= 1048576)
 · rfl
 cases d1
 · cases d2
   · cases d3
     · rfl
     · cases e0 <;> cases decide (wd >= 0) <;> cases decide (wd <= 2) <;> cases decide (wu >= 0) <;> cases decide (wu <= 7) <;> rfl
   · cases e0 <;> cases decide (wd >= 0) <;> cases decide (wd <= 2) <;> cases decide (wu >= 0) <;> cases decide (wu <= 7) <;> rfl
 · cases ck == 0 <;> cases w0 <;> cases w1 <;> rfl
def Jmp : Jz
 | [.st 53 [.st 42 [.sc (.int .i64 ad), .sc (.int .i64 au)], .sc (.int .i64 id1), .sc (.int .i64 ve), .ar 37 h, .sc (.int .i64 kd), .ro 113 oz of o, .st 42 [.sc (.int .i64 wd), .sc (.int .i64 wu)]]], [], k => bif cOk o then k ⟨.sc (.int .i64 (dCk ⟨ad, au, id1, ve, h, kd, o, wd, wu⟩)), [], []⟩ else none
 | _, _, _ => none
def JH5 : Sig := { own := [], run := Jmp }
theorem JH6 : Jc tau Try.prog 50 JH5 := JMl.of fun xs es k res hr => by
 change Jmp xs es k = some res at hr
 unfold Jmp at hr
 split at hr
 · rename_i ad au id1 ve h kd oz of o wd wu
   obtain ⟨hc, hr⟩ := Jv hr
   exact (JCH ad au id1 ve h kd oz of o wd wu hc k).trans hr
 · cases hr
structure AV where
 (d u : Int)
def Zk : PV -> Bool
 | .st t [.sc (.int .i64 _), .sc (.int .i64 _)] => t == 42
 | _ => false
def adP (a : AV) : PV := .st 42 [.sc (.int .i64 a.d), .sc (.int .i64 a.u)]
def av (p : PV) : AV := ⟨(p.child 0).int, (p.child 1).int⟩
theorem JjZ {p : PV} : Zk p = true ↔ ∃ a, p = adP a := by
 constructor
 · intro h
   unfold Zk at h
   split at h
   · rename_i t d u
     obtain rfl : t = 42 := by simpa using h
     exact ⟨⟨d, u⟩, rfl⟩
   · cases h
 · rintro ⟨a, rfl⟩; rfl
theorem JwW {p : PV} (h : Zk p = true) : adP (av p) = p := by obtain ⟨a, rfl⟩ := JjZ.1 h; rfl
def Vf (p : PV) : Bool := PV.isSt 42 #[Field.mk "D" 3 0 false "" "" 0, Field.mk "U" 3 1 false "" "" 8].size p && (PV.isInt IntKind.i64 (PV.child 0 p) && (PV.isInt IntKind.i64 (PV.child (0 + 1) p) && true))
theorem W5 {p : PV} (h : Zk p = true) : Vf p = true := by
 obtain ⟨a, rfl⟩ := JjZ.1 h
 rfl
theorem W6 {l : List PV} (h : l.all Zk = true) {i : Nat} (hi : i < l.length) : Zk (l.getD i .top) = true := by
 rw [List.getD_eq_getElem?_getD, List.getElem?_eq_getElem hi]
 exact List.all_eq_true.1 h _ (List.getElem_mem hi)
def eqA (x y : AV) : Bool := x.d == y.d && (x.u == y.u && true)
theorem QH {x y : AV} : eqA x y = true ↔ x = y := by
 obtain ⟨a, b⟩ := x; obtain ⟨c, d⟩ := y
 simp [eqA]
def ltA (x y : AV) : Bool := decide (x.d < y.d) || (x.d == y.d && decide (x.u < y.u))
theorem Yr {x y : AV} : ltA x y = true ↔ x.d < y.d ∨ (x.d = y.d /\ x.u < y.u) := by simp [ltA]
def srt : List PV -> Bool
 | [] => true
 | p :: ps => ps.all (fun q => ltA (av p) (av q)) && srt ps
def pOk : List PV -> Bool := hid fun l => l.all Zk && (srt l && decide (l.length <= 8))
theorem QI {l : List PV} : pOk l = true ↔ l.all Zk = true /\ srt l = true /\ l.length <= 8 := by
 rw [pOk, hid_eq]; simp only [Bool.and_eq_true, decide_eq_true_eq]
structure PH where
 (l : List PV) (a : AV)
def hasL (l : List PV) (a : AV) : Bool := l.any fun p => eqA (av p) a
def hasP : PH -> Bool := hid fun x => hasL x.l x.a
theorem hasP_eq (x : PH) : hasP x = hasL x.l x.a := by rw [hasP, hid_eq]
def JwX : AV -> AV -> Bool := hid ltA
theorem JoQ (x y : AV) : JwX x y = ltA x y := by rw [JwX, hid_eq]
theorem JzH (l : List PV) (d u : Int) (h1 : l.all Zk = true) (h2 : l.length <= 1000) (f : Nat) (k0 : Bool -> OR) (k1 : OR) (z fl : Bool) : ∀ (e i n : Nat), i + e = l.length -> e < n ->
  Gu f k0 k1 n z fl l (i : Int) d u = bif hasL (l.drop i) ⟨d, u⟩ then k0 true else k1
 | 0, i, n + 1, hi, hn => by
   rw [List.drop_of_length_le (by omega)]
   simp only [Gu, Jaw]
   exact Jd (by simp [zi]; omega)
 | e + 1, i, n + 1, hi, hn => by
   have g1 := tI i
   have w1 := wI (i := i) (by omega)
   have hd := J0 (l := l) (i := i) (by omega)
   have hc := W5 (W6 h1 (i := i) (by omega))
   unfold Vf at hc
   rw [hd]
   simp only [Gu, Jaw, g1, w1]
   refine (Ja (by simp [zi]; omega)).trans ((Ja (by rw [hc]; simp [zi]; omega)).trans ?_)
   have he : ((PV.child 0 (l.getD i PV.top)).int == d && ((PV.child (0 + 1) (l.getD i PV.top)).int == u && true)) = eqA (av (l.getD i .top)) ⟨d, u⟩ := rfl
   rw [he]
   have hh : hasL (l.getD i .top :: l.drop (i + 1)) ⟨d, u⟩ = (eqA (av (l.getD i .top)) ⟨d, u⟩ || hasL (l.drop (i + 1)) ⟨d, u⟩) := rfl
   rw [hh]
   cases eqA (av (l.getD i .top)) ⟨d, u⟩ with
   | true => rfl
   | false => exact (Jd rfl).trans (JzH l d u h1 h2 f k0 k1 z fl e (i + 1) n (by omega) (by omega))
def Jmq : Jz
 | [.ro 42 z f l, .st 42 [.sc (.int .i64 d), .sc (.int .i64 u)]], [], k => bif pOk l then k ⟨.sc (.bool (hasP ⟨l, ⟨d, u⟩⟩)), [], []⟩ else none
 | _, _, _ => none
def JwY : Sig := { own := [], run := Jmq }
theorem JCI (z f : Bool) (l : List PV) (d u : Int) (h : pOk l = true) (k : KR) : g58 20 z f l d u k = k ⟨.sc (.bool (hasP ⟨l, ⟨d, u⟩⟩)), [], []⟩ := by
 obtain ⟨h1, _, h3⟩ := QI.1 h
 unfold g58
 rw [hasP_eq]
 refine (JzH l d u h1 (by omega) 20 _ _ z f l.length 0 20 (by omega) (by omega)).trans ?_
 rw [List.drop_zero]
 cases hasL l ⟨d, u⟩ <;> rfl
theorem JsT : Jc tau Try.prog 58 JwY := Jc.mk' fun xs es k res hl hr => by
 change Jmq xs es k = some res at hr
 unfold Jmq at hr
 split at hr
 · rename_i z f l d u
   obtain ⟨hc, hr⟩ := Jv hr
   exact J3 Jn Jrq Jo JFu JFv (JvQ (Jei 20)) [.ro] 0 0 (JL3 20) hl rfl ((e58 20 z f l d u k).trans ((JCI z f l d u hc k).trans hr))
 · cases hr
def Jh9 : Jz
 | [.st 42 [.sc (.int .i64 d), .sc (.int .i64 u)], .st 42 [.sc (.int .i64 d2), .sc (.int .i64 u2)]], [], k => k ⟨.sc (.bool (JwX ⟨d, u⟩ ⟨d2, u2⟩)), [], []⟩
 | _, _, _ => none
def JzI : Sig := { own := [], run := Jh9 }
theorem JCJ : Jc tau Try.prog 104 JzI := JFt.of fun xs es k res hr => by
 change Jh9 xs es k = some res at hr
 unfold Jh9 at hr
 split at hr
 · rename_i d u d2 u2
   refine Eq.trans ?_ hr
   show JvP 0 d u d2 u2 k = _
   unfold JvP
   rw [JoQ]
   show _ = k ⟨.sc (.bool (decide (d < d2) || (d == d2 && decide (u < u2)))), [], []⟩
   cases decide (d < d2) <;> cases (d == d2) <;> rfl
 · cases hr
structure AA where
 (a b : List PV)
def Jdn : List PV -> List PV -> Bool
 | [], [] => true
 | p :: ps, q :: qs => eqA (av p) (av q) && Jdn ps qs
 | _, _ => false
def JsU : AA -> Bool := hid fun x => Jdn x.a x.b
theorem Jia (x : AA) : JsU x = Jdn x.a x.b := by rw [JsU, hid_eq]
def Jcp : List PV -> Bool := hid fun l => l.all Zk && decide (l.length <= 1000)
theorem YV {l : List PV} : Jcp l = true ↔ l.all Zk = true /\ l.length <= 1000 := by
 rw [Jcp, hid_eq, Bool.and_eq_true, decide_eq_true_eq]
theorem Jgw : ∀ l : List PV, Jdn l l = true
 | [] => rfl
 | p :: ps => by simp only [Jdn, Jgw ps, QH.2 rfl, Bool.and_self]
theorem Jj0 : ∀ {a b : List PV}, Jdn a b = true -> a.length = b.length
 | [], [], _ => rfl
 | p :: ps, q :: qs, h => by
  simp only [Jdn, Bool.and_eq_true] at h
  simp [Jj0 h.2]
 | [], _ :: _, h => by simp [Jdn] at h
 | _ :: _, [], h => by simp [Jdn] at h

def JH7 : Fns := F0
theorem JwZ : Jq tau Try.prog JH7 := Js
def JsV : An := (.seq .leaf (.seq .leaf .leaf))
def JH8 (f : Nat) (k : KR) : OR := k (Res.mk (.ar 159 [.sc (.int .u32 1116352408), .sc (.int .u32 1899447441), .sc (.int .u32 3049323471), .sc (.int .u32 3921009573), .sc (.int .u32 961987163), .sc (.int .u32 1508970993), .sc (.int .u32 2453635748), .sc (.int .u32 2870763221), .sc (.int .u32 3624381080), .sc (.int .u32 310598401), .sc (.int .u32 607225278), .sc (.int .u32 1426881987), .sc (.int .u32 1925078388), .sc (.int .u32 2162078206), .sc (.int .u32 2614888103), .sc (.int .u32 3248222580), .sc (.int .u32 3835390401), .sc (.int .u32 4022224774), .sc (.int .u32 264347078), .sc (.int .u32 604807628), .sc (.int .u32 770255983), .sc (.int .u32 1249150122), .sc (.int .u32 1555081692), .sc (.int .u32 1996064986), .sc (.int .u32 2554220882), .sc (.int .u32 2821834349), .sc (.int .u32 2952996808), .sc (.int .u32 3210313671), .sc (.int .u32 3336571891), .sc (.int .u32 3584528711), .sc (.int .u32 113926993), .sc (.int .u32 338241895), .sc (.int .u32 666307205), .sc (.int .u32 773529912), .sc (.int .u32 1294757372), .sc (.int .u32 1396182291), .sc (.int .u32 1695183700), .sc (.int .u32 1986661051), .sc (.int .u32 2177026350), .sc (.int .u32 2456956037), .sc (.int .u32 2730485921), .sc (.int .u32 2820302411), .sc (.int .u32 3259730800), .sc (.int .u32 3345764771), .sc (.int .u32 3516065817), .sc (.int .u32 3600352804), .sc (.int .u32 4094571909), .sc (.int .u32 275423344), .sc (.int .u32 430227734), .sc (.int .u32 506948616), .sc (.int .u32 659060556), .sc (.int .u32 883997877), .sc (.int .u32 958139571), .sc (.int .u32 1322822218), .sc (.int .u32 1537002063), .sc (.int .u32 1747873779), .sc (.int .u32 1955562222), .sc (.int .u32 2024104815), .sc (.int .u32 2227730452), .sc (.int .u32 2361852424), .sc (.int .u32 2428436474), .sc (.int .u32 2756734187), .sc (.int .u32 3204031479), .sc (.int .u32 3329325298)]) [] [])
theorem JNl (f : Nat) (k : KR) : JJ tau JH7 Try.f116 (Try.f116.body.get!) JsV [.ro] 0 [] [] k = JH8 f k := by kernel_rfl
theorem JH9 (f : Nat) : ∀ q ∈ Jg (Try.f116.body.get!) JsV, q.Ok tau Try.prog 0 := Jw (by kernel_rfl)
theorem JzJ : Try.prog.funcs[116]? = some Try.f116 := by kernel_rfl
theorem JzK : Try.f116.body = some (Try.f116.body.get!) := by kernel_rfl
theorem JIa : Enters Try.prog 116 := enters_of JzJ (by kernel_rfl) JzK
def Jmr : Jz
 | [], [], k => JH8 0  k
 | _, _, _ => none
def JIb : Sig := { own := [], run := Jmr }
theorem JIc : Jc tau Try.prog 116 JIb := JO Jn JwZ Jo JzJ JzK JsV [.ro] 0 [] Jmr (JH9 0) fun xs es k res hr => by
 unfold Jmr at hr
 split at hr
 · exact ⟨rfl, 0, (JNl 0  _).trans hr⟩
 · cases hr
def N80 : Nat := 113
def F80 : Fns := Jt 116 JIb (Jt 115 Jzf (Jt 117 Jsf F0))
theorem Jms : Jq tau Try.prog F80 := ((Js.add Jsg Jzc).add JBO JGM).add JIc JIa
def JoR : Code := Qf (Try.f80.body.get!) [1, 1, 1, 0, 1, 0, 0]
def JeO : Nm := [(2, .any), (4, .any), (5, .any), (6, .any), (7, .any), (18, .any)]
def Jmt : Nm := [(2, .any), (4, .any), (7, .any)]
def JsW : An := (.seq .leaf (.seq (.cond .leaf .leaf) (.seq (.block none (.seq .leaf (.seq .leaf (.seq .leaf (.seq .leaf .leaf))))) .leaf)))
def JoS : Code := Qf (Try.f80.body.get!) [1, 1, 1, 1, 0, 1, 0, 0]
def JeP : Nm := [(2, .any), (4, .any), (7, .any), (100, .any)]
def Jmu : Nm := [(4, .any), (7, .any)]
def JsX : An := (.seq .leaf (.seq (.cond .leaf .leaf) (.seq (.block none (.seq .leaf .leaf)) .leaf)))
def JCK (r0 : Qw) (r1 : Qw) : An := (.seq .leaf (.seq .leaf (.seq .leaf (.seq (.seq .leaf (.block none (.sum JeO N80 r0))) (.seq (.seq .leaf (.block none (.sum JeP N80 r1))) (.seq .leaf .leaf))))))
abbrev JsY := Int -> List PV -> List PV -> List PV -> List PV -> List PV -> OR
abbrev Zl (v0 : Int) (v3 : List PV) (v4 : List PV) (v5 : List PV) := (IntKind.u32.wrap (IntKind.u32.wrap (IntKind.u32.wrap ((Jr (PV.ar 143 v5) [7]).int + JM BinOp.xor IntKind.u32 (JM BinOp.xor IntKind.u32 (rr (Jr (PV.ar 143 v5) [4]).int 6) (rr (Jr (PV.ar 143 v5) [4]).int 11)) (rr (Jr (PV.ar 143 v5) [4]).int 25)) + JM BinOp.xor IntKind.u32 (JM BinOp.and IntKind.u32 (Jr (PV.ar 143 v5) [4]).int (Jr (PV.ar 143 v5) [5]).int) (JM BinOp.and IntKind.u32 (JM BinOp.xor IntKind.u32 (Int.ofNat (2 ^ IntKind.u32.bits - Nat.succ 0)) (Jr (PV.ar 143 v5) [4]).int) (Jr (PV.ar 143 v5) [6]).int)) + (Jr (PV.ar 159 v4) [v0.toNat]).int) + (Jr (PV.ar 159 v3) [v0.toNat]).int)
def Ja4 (f : Nat) (rc : JsY) (k0 : List PV -> List PV -> List PV -> OR) (v0 : Int) (v1 v2 v3 v4 v5 : List PV) : OR := bif decide (v0 < 64) then bif PV.isInt IntKind.u32 (Jr (PV.ar 143 v5) [4]) && true then bif PV.isInt IntKind.u32 (Jr (PV.ar 143 v5) [0]) && true then bif PV.isInt IntKind.u32 (Jr (PV.ar 143 v5) [7]) && true then bif PV.isInt IntKind.u32 (Jr (PV.ar 143 v5) [5]) && true then bif PV.isInt IntKind.u32 (Jr (PV.ar 143 v5) [6]) && true then bif decide (0 <= v0) && decide (v0 < zi 64) && true then bif PV.isInt IntKind.u32 (Jr (PV.ar 159 v4) [v0.toNat]) && true then bif decide (0 <= v0) && decide (v0 < zi 64) && true then bif PV.isInt IntKind.u32 (Jr (PV.ar 159 v3) [v0.toNat]) && true then bif PV.isInt IntKind.u32 (Jr (PV.ar 143 v5) [1]) && true then bif PV.isInt IntKind.u32 (Jr (PV.ar 143 v5) [2]) && true then bif PV.isInt IntKind.u32 (Jr (PV.ar 143 v5) [1]) && true then bif PV.isInt IntKind.u32 (Jr (PV.ar 143 v5) [2]) && true then bif PV.isInt IntKind.u32 (Jr (PV.ar 143 v5) [0]) && true then bif PV.isInt IntKind.u32 (Jr (PV.ar 143 v5) [1]) && true then bif PV.isInt IntKind.u32 (Jr (PV.ar 143 v5) [2]) && true then bif PV.isInt IntKind.u32 (Jr (PV.ar 143 v5) [3]) && true then bif PV.isInt IntKind.u32 (Jr (PV.ar 143 v5) [4]) && true then bif PV.isInt IntKind.u32 (Jr (PV.ar 143 v5) [5]) && true then bif PV.isInt IntKind.u32 (Jr (PV.ar 143 v5) [6]) && true then rc (IntKind.i64.wrap (v0 + 1)) v1 v2 v3 v4 ([.sc (.int .u32 (IntKind.u32.wrap (IntKind.u32.wrap (Zl v0 v3 v4 v5) + IntKind.u32.wrap (JM BinOp.xor IntKind.u32 (JM BinOp.xor IntKind.u32 (rr (Jr (PV.ar 143 v5) [0]).int 2) (rr (Jr (PV.ar 143 v5) [0]).int 13)) (rr (Jr (PV.ar 143 v5) [0]).int 22) + JM BinOp.xor IntKind.u32 (JM BinOp.xor IntKind.u32 (JM BinOp.and IntKind.u32 (Jr (PV.ar 143 v5) [0]).int (Jr (PV.ar 143 v5) [1]).int) (JM BinOp.and IntKind.u32 (Jr (PV.ar 143 v5) [0]).int (Jr (PV.ar 143 v5) [2]).int)) (JM BinOp.and IntKind.u32 (Jr (PV.ar 143 v5) [1]).int (Jr (PV.ar 143 v5) [2]).int))))), .sc (.int .u32 (Jr (PV.ar 143 v5) [0]).int), .sc (.int .u32 (Jr (PV.ar 143 v5) [1]).int), .sc (.int .u32 (Jr (PV.ar 143 v5) [2]).int), .sc (.int .u32 (IntKind.u32.wrap ((Jr (PV.ar 143 v5) [3]).int + IntKind.u32.wrap (Zl v0 v3 v4 v5)))), .sc (.int .u32 (Jr (PV.ar 143 v5) [4]).int), .sc (.int .u32 (Jr (PV.ar 143 v5) [5]).int), .sc (.int .u32 (Jr (PV.ar 143 v5) [6]).int)]) else none else none else none else none else none else none else none else none else none else none else none else none else none else none else none else none else none else none else none else none else k0 v1 v2 v5
def Vg (f : Nat) (k0 : List PV -> List PV -> List PV -> OR) : Nat -> JsY
 | 0 => fun _ _ _ _ _ _ => none
 | n + 1 => Ja4 f (Vg f k0 n) k0
def Ja5 (k : Kont) := fun x0 x1 x2 => k (Ex.exit 0) (Jj Jmt N80 [.ptr 1824 [], .ptr 1825 [], .ptr 1826 []] [(1824, .box false 143 (PV.ar 143 x0)), (1825, .box false 143 (PV.ar 143 x1)), (1826, .box false 143 (PV.ar 143 x2))])
def Jmv (f : Nat) (k : Kont) (n : Nat) (v0 : Int) (v1 v2 v3 v4 v5 : List PV) : OR := Jy tau 0 JeO (fun s k => ev tau F80 0 0 JoR (JsW ) s k) n (Jj JeO N80 [.ptr 1824 [], .ptr 1825 [], .ptr 1826 [], .ptr 1827 [], .ptr 1828 [], .sc (.int .i64 v0)] [(1824, .box false 143 (PV.ar 143 v1)), (1825, .box false 143 (PV.ar 143 v2)), (1826, .box false 159 (PV.ar 159 v3)), (1827, .box false 159 (PV.ar 159 v4)), (1828, .box false 143 (PV.ar 143 v5))]) (JG tau 0 Jmt k)
theorem Jw0 (f : Nat) (k : Kont) (n : Nat) : Jmv f k (n + 1) = Ja4 f (Jmv f k n) (Ja5 k) := by kernel_rfl
theorem JoT (f : Nat) (k : Kont) : ∀ n, Jmv f k n = Vg f (Ja5 k) n
 | 0 => rfl
 | n + 1 => (Jw0 f k n).trans (congrArg (fun r => Ja4 f r (Ja5 k)) (JoT f k n))
def Jgx (f : Nat) : List PV -> List (Nat × Ent) -> Kont -> OR
 | [.ptr 1824 [], .ptr 1825 [], .ptr 1826 [], .ptr 1827 [], .ptr 1828 [],
 PV.sc
  (Value.int IntKind.i64
   v0)], [(1824, .box false 143 (PV.ar 143 v1)), (1825, .box false 143 (PV.ar 143 v2)), (1826, .box false 159 (PV.ar 159 v3)), (1827, .box false 159 (PV.ar 159 v4)),
 (1828,
  Ent.box false 143
   (PV.ar 143
    v5))], k => Vg f (Ja5 k) f v0 v1 v2 v3 v4 v5
 | _, _, _ => none
theorem JCL (f : Nat) : Jg JoR JsW = [] := by kernel_rfl
theorem JId (f : Nat) : (Item.l JoR JeO N80 (Jgx f)).Ok tau Try.prog 0 := Ju Jn Jms Jo (x := JsW) (nm2 := Jmt) (Jk _ _ (by rw [JCL f]; intro q hq; cases hq)) fun vs hp k res hr => by
 unfold Jgx at hr
 split at hr
 · exact ⟨f, 0, (JoT f _ f _ _ _ _ _ _ ).trans hr⟩
 · cases hr
abbrev JsZ := Int -> List PV -> List PV -> List PV -> OR
def Ja6 (f : Nat) (rc : JsZ) (k0 : List PV -> List PV -> OR) (v0 : Int) (v1 v2 v3 : List PV) : OR := bif decide (v0 < 8) then bif decide (0 <= v0) && decide (v0 < zi 8) && true then bif PV.isInt IntKind.u32 (Jr (PV.ar 143 v3) [v0.toNat]) && true then bif decide (0 <= v0) && decide (v0 < zi 8) && true then bif PV.isInt IntKind.u32 (Jr (PV.ar 143 v1) [v0.toNat]) && true then bif decide (0 <= v0) && decide (v0 < zi 8) && true then rc (IntKind.i64.wrap (v0 + 1)) v1 v2 (v3.set v0.toNat (.sc (.int .u32 (IntKind.u32.wrap ((Jr (PV.ar 143 v3) [v0.toNat]).int + (Jr (PV.ar 143 v1) [v0.toNat]).int))))) else none else none else none else none else none else k0 v2 v3
def Vh (f : Nat) (k0 : List PV -> List PV -> OR) : Nat -> JsZ
 | 0 => fun _ _ _ _ => none
 | n + 1 => Ja6 f (Vh f k0 n) k0
def Ja7 (k : Kont) := fun x0 x1 => k (Ex.exit 2) (Jj Jmu N80 [.ptr 1824 [], .ptr 1825 []] [(1824, .box false 143 (PV.ar 143 x0)), (1825, .box false 143 (PV.ar 143 x1))])
def Jmw (f : Nat) (k : Kont) (n : Nat) (v0 : Int) (v1 v2 v3 : List PV) : OR := Jy tau 0 JeP (fun s k => ev tau F80 0 0 JoS (JsX ) s k) n (Jj JeP N80 [.ptr 1824 [], .ptr 1825 [], .ptr 1826 [], .sc (.int .i64 v0)] [(1824, .box false 143 (PV.ar 143 v1)), (1825, .box false 143 (PV.ar 143 v2)), (1826, .box false 143 (PV.ar 143 v3))]) (JG tau 0 Jmu k)
theorem Jw1 (f : Nat) (k : Kont) (n : Nat) : Jmw f k (n + 1) = Ja6 f (Jmw f k n) (Ja7 k) := by kernel_rfl
theorem JoU (f : Nat) (k : Kont) : ∀ n, Jmw f k n = Vh f (Ja7 k) n
 | 0 => rfl
 | n + 1 => (Jw1 f k n).trans (congrArg (fun r => Ja6 f r (Ja7 k)) (JoU f k n))
def Jgy (f : Nat) : List PV -> List (Nat × Ent) -> Kont -> OR
 | [.ptr 1824 [], .ptr 1825 [], .ptr 1826 [],
 PV.sc
  (Value.int IntKind.i64
   v0)], [(1824, .box false 143 (PV.ar 143 v1)), (1825, .box false 143 (PV.ar 143 v2)),
 (1826,
  Ent.box false 143
   (PV.ar 143
    v3))], k => Vh f (Ja7 k) f v0 v1 v2 v3
 | _, _, _ => none
theorem JCM (f : Nat) : Jg JoS JsX = [] := by kernel_rfl
theorem JIe (f : Nat) : (Item.l JoS JeP N80 (Jgy f)).Ok tau Try.prog 0 := Ju Jn Jms Jo (x := JsX) (nm2 := Jmu) (Jk _ _ (by rw [JCM f]; intro q hq; cases hq)) fun vs hp k res hr => by
 unfold Jgy at hr
 split at hr
 · exact ⟨f, 0, (JoU f _ f _ _ _ _ ).trans hr⟩
 · cases hr
def g80 (f : Nat) (s : List PV) (nl fl : Bool) (b : List PV) (k : KR) : OR := bif Jl IntKind.u8 b && decide (b.length = 64) then Vg f (fun x0_0 x1_0 x2_0 => Vh f (fun _ x1_1 => k (Res.mk (.ar 143 x1_1) [] [])) f (0) x0_0 x1_0 x2_0) f (0) s ([.sc (.int .u32 0), .sc (.int .u32 0), .sc (.int .u32 0), .sc (.int .u32 0), .sc (.int .u32 0), .sc (.int .u32 0), .sc (.int .u32 0), .sc (.int .u32 0)]) (pu IntKind.u32 (Qs (JD b))) ([.sc (.int .u32 1116352408), .sc (.int .u32 1899447441), .sc (.int .u32 3049323471), .sc (.int .u32 3921009573), .sc (.int .u32 961987163), .sc (.int .u32 1508970993), .sc (.int .u32 2453635748), .sc (.int .u32 2870763221), .sc (.int .u32 3624381080), .sc (.int .u32 310598401), .sc (.int .u32 607225278), .sc (.int .u32 1426881987), .sc (.int .u32 1925078388), .sc (.int .u32 2162078206), .sc (.int .u32 2614888103), .sc (.int .u32 3248222580), .sc (.int .u32 3835390401), .sc (.int .u32 4022224774), .sc (.int .u32 264347078), .sc (.int .u32 604807628), .sc (.int .u32 770255983), .sc (.int .u32 1249150122), .sc (.int .u32 1555081692), .sc (.int .u32 1996064986), .sc (.int .u32 2554220882), .sc (.int .u32 2821834349), .sc (.int .u32 2952996808), .sc (.int .u32 3210313671), .sc (.int .u32 3336571891), .sc (.int .u32 3584528711), .sc (.int .u32 113926993), .sc (.int .u32 338241895), .sc (.int .u32 666307205), .sc (.int .u32 773529912), .sc (.int .u32 1294757372), .sc (.int .u32 1396182291), .sc (.int .u32 1695183700), .sc (.int .u32 1986661051), .sc (.int .u32 2177026350), .sc (.int .u32 2456956037), .sc (.int .u32 2730485921), .sc (.int .u32 2820302411), .sc (.int .u32 3259730800), .sc (.int .u32 3345764771), .sc (.int .u32 3516065817), .sc (.int .u32 3600352804), .sc (.int .u32 4094571909), .sc (.int .u32 275423344), .sc (.int .u32 430227734), .sc (.int .u32 506948616), .sc (.int .u32 659060556), .sc (.int .u32 883997877), .sc (.int .u32 958139571), .sc (.int .u32 1322822218), .sc (.int .u32 1537002063), .sc (.int .u32 1747873779), .sc (.int .u32 1955562222), .sc (.int .u32 2024104815), .sc (.int .u32 2227730452), .sc (.int .u32 2361852424), .sc (.int .u32 2428436474), .sc (.int .u32 2756734187), .sc (.int .u32 3204031479), .sc (.int .u32 3329325298)]) s else none
theorem e80 (f : Nat) (s : List PV) (nl fl : Bool) (b : List PV) (k : KR) : JJ tau F80 Try.f80 (Try.f80.body.get!) (JCK (Jgx f) (Jgy f)) [] 0 [.ar 143 s, .ro 5 nl fl b] [] k = g80 f s nl fl b k := by kernel_rfl
theorem JNm (f : Nat) : Jg (Try.f80.body.get!) (JCK (Jgx f) (Jgy f)) = [.l JoR JeO N80 (Jgx f), .l JoS JeP N80 (Jgy f)] := by kernel_rfl
theorem JNn (f : Nat) : ∀ q ∈ Jg (Try.f80.body.get!) (JCK (Jgx f) (Jgy f)), q.Ok tau Try.prog 0 := by rw [JNm f]; exact JL (JId f) (JL (JIe f) (fun _ h => nomatch h))
theorem JIf : Try.prog.funcs[80]? = some Try.f80 := by kernel_rfl
theorem JIg : Try.f80.body = some (Try.f80.body.get!) := by kernel_rfl
theorem JNo : Enters Try.prog 80 := enters_of JIf (by kernel_rfl) JIg
theorem Vi {R : List Int} (h : R.length = 8) (j : Nat) (hj : j < 8) : (pu .u32 R).getD j .top = .sc (.int .u32 (R.getD j 0)) := Z1 (by omega)
theorem JzL (W s : List Int) (hW : W.length = 64) (hs : s.length = 8) (f : Nat) (k0 : List PV -> List PV -> List PV -> OR) (a b : List PV) : ∀ (d i n : Nat), i + d = 64 -> d < n ->
  Vg f k0 n (i : Int) a b (pu .u32 W) (pu .u32 kks) (pu .u32 (Jcl W s i)) = k0 a b (pu .u32 (Jcl W s 64))
 | 0, i, n + 1, h, hn => by
   obtain rfl : i = 64 := by omega
   simp only [Vg, Ja4, Zl]
   exact Jd (by decide)
 | d + 1, i, n + 1, h, hn => by
   have hl := Yn W s hs i
   have h1 := wI (i := i) (by omega)
   have hk : (pu .u32 kks).getD i .top = .sc (.int .u32 (kks.getD i 0)) := Z1 (by show i < 64; omega)
   have hw : (pu .u32 W).getD i .top = .sc (.int .u32 (W.getD i 0)) := Z1 (by omega)
   have c1 : decide ((i : Int) < 64) = true := by simp; omega
   have c2 : decide (0 <= (i : Int)) = true := by simp
   have c3 : decide ((i : Int) < zi 64) = true := by simp; omega
   simp only [Vg, Ja4, Zl, Yi, Int.toNat_natCast, h1, hk, hw, c1, c2, c3, Vi hl 0 (by omega), Vi hl 1 (by omega), Vi hl 2 (by omega), Vi hl 3 (by omega), Vi hl 4 (by omega), Vi hl 5 (by omega), Vi hl 6 (by omega), Vi hl 7 (by omega), PV.isInt, PV.int, decide_true, Bool.and_true, cond_true]
   exact JzL W s hW hs f k0 a b d (i + 1) n (by omega) (by omega)
theorem JzM (t s : List Int) (ht : t.length = 8) (hs : s.length = 8) (f : Nat) (k0 : List PV -> List PV -> OR) (a : List PV) : ∀ (d i n : Nat), i + d = 8 -> d < n ->
  Vh f k0 n (i : Int) (pu .u32 s) a (pu .u32 (QQ (fun j => ww (t.getD j 0 + s.getD j 0)) t i)) = k0 a (pu .u32 (QQ (fun j => ww (t.getD j 0 + s.getD j 0)) t 8))
 | 0, i, n + 1, h, hn => by
   obtain rfl : i = 8 := by omega
   simp only [Vh, Ja6]
   exact Jd (by decide)
 | d + 1, i, n + 1, h, hn => by
   have hl : (QQ (fun j => ww (t.getD j 0 + s.getD j 0)) t i).length = 8 := by rw [JaP _ _ _ (by omega), ht]
   have h1 := wI (i := i) (by omega)
   have c1 : decide ((i : Int) < 8) = true := by simp; omega
   have c2 : decide (0 <= (i : Int)) = true := by simp
   have c3 : decide ((i : Int) < zi 8) = true := by simp; omega
   have g1 := tI i
   simp only [Vh, Ja6, Yi, g1, h1, c1, c2, c3, Vi hl i (by omega), Vi hs i (by omega), Jgr _ t i (by omega), PV.isInt, PV.int, decide_true, Bool.and_true, cond_true, Xs]
   have := JzM t s ht hs f k0 a d (i + 1) n (by omega) (by omega)
   rw [← QP _ t i (by omega)] at this
   exact this
theorem JCN (s bs : List Int) (hs : s.length = 8) (hb : bs.length = 64) (nl fl : Bool) (k : KR) : g80 100 (pu .u32 s) nl fl (pu .u8 bs) k = k ⟨.ar 143 (pu .u32 (JlM s bs)), [], []⟩ := by
 have hW : (Qs bs).length = 64 := Qg bs 48
 have hc : (Jl .u8 (pu .u8 bs) && decide ((pu .u8 bs).length = 64)) = true := by simp [hb]
 refine (Ja hc).trans ?_
 rw [WF]
 have h0 : ∀ k0 a b, Vg 100 k0 100 0 a b (pu .u32 (Qs bs)) (pu .u32 kks) (pu .u32 s) = k0 a b (pu .u32 (Jcl (Qs bs) s 64)) := fun k0 a b => JzL (Qs bs) s hW hs 100 k0 a b 64 0 100 (by omega) (by omega)
 have ht := Yn (Qs bs) s hs 64
 have h1 : ∀ k0 a, Vh 100 k0 100 0 (pu .u32 s) a (pu .u32 (Jcl (Qs bs) s 64)) = k0 a (pu .u32 (JlM s bs)) := by
  intro k0 a
  have := JzM (Jcl (Qs bs) s 64) s ht hs 100 k0 a 8 0 100 (by omega) (by omega)
  rw [Wg] at this
  refine this.trans ?_
  have h2 := WZ (fun j => ww ((Jcl (Qs bs) s 64).getD j 0 + s.getD j 0)) (Jcl (Qs bs) s 64)
  rw [ht] at h2; rw [h2]; rfl
 exact (h0 _ _ _).trans (h1 _ _)
def Jmx : Jz
 | [.ar 143 s, .ro 5 nl fl b], [], k => bif (Jl .u32 s && decide (s.length = 8)) && (Jl .u8 b && decide (b.length = 64)) then k ⟨.ar 143 (pu .u32 (JlM (JD s) (JD b))), [], []⟩ else none
 | _, _, _ => none
def JIh : Sig := { own := [], run := Jmx }
theorem JIi : Jc tau Try.prog 80 JIh := JO Jn Jms Jo JIf JIg _ [] 0 [] Jmx (JNn 100) fun xs es k res hr => by
 unfold Jmx at hr
 split at hr
 · obtain ⟨hc, hr⟩ := Jv hr
   simp only [Bool.and_eq_true, decide_eq_true_eq] at hc
   refine ⟨rfl, 0, (e80 100 _ _ _ _ _).trans ?_⟩
   rw [QB hc.2.1, QB hc.1.1, JCN _ _ (by simpa using hc.1.2) (by simpa using hc.2.2)]
   exact hr
 · cases hr
def N78 : Nat := 33
def F78 : Fns := F0
theorem Jmy : Jq tau Try.prog F78 := Js
def JeQ : Code := Qf (Try.f78.body.get!) [1, 0, 1, 1, 1, 1, 0, 1, 0, 0]
def YB : Nm := [(0, .any), (3, .any), (19, .any)]
def Vj : Nm := [(0, .any)]
def Jj1 : An := (.seq .leaf (.seq (.cond .leaf .leaf) (.seq (.block none (.seq .leaf .leaf)) .leaf)))
def Ja8 : Code := Qf (Try.f78.body.get!) [1, 0]
def Zm : Nm := [(0, .any), (3, .any)]
def Vk : Nm := [(2, .any)]
def Jgz (r1 : Qw) : An := (.seq .leaf (.seq .leaf (.seq .leaf (.seq (.seq .leaf (.cond (.seq .leaf .leaf) .leaf)) (.seq (.seq .leaf (.block none (.sum YB N78 r1))) (.seq .leaf .leaf))))))
def JCO (r0 : Jrl) (r1 : Qw) : An := (.seq .leaf (.ssum Zm N78 (Jgz r1) r0))
def Ja9 (f : Nat) (rc : Nat -> Int -> Int -> Bool -> List PV -> OR) (k0 : Nat -> Bool -> List PV -> OR) (v0 : Nat) (v1 v2 : Int) (v3 : Bool) (v4 : List PV) : OR := bif decide (v2 < 8) then bif decide (0 <= IntKind.i64.wrap (56 - IntKind.i64.wrap (8 * v2))) && true then bif Je (v0 + 1) 1 && true then rc (v0 + 1) v1 (IntKind.i64.wrap (v2 + 1)) (v3 && false) (List.take v0 v4 ++ [.sc (.int .u8 (IntKind.u8.wrap (JV IntKind.u64 v1 (IntKind.i64.wrap (56 - IntKind.i64.wrap (8 * v2))))))]) else none else none else k0 v0 v3 v4
def YC (f : Nat) (k0 : Nat -> Bool -> List PV -> OR) : Nat -> Nat -> Int -> Int -> Bool -> List PV -> OR
 | 0, _, _, _, _, _ => none
 | n + 1, v0, v1, v2, v3, v4 => Ja9 f (YC f k0 n) k0 v0 v1 v2 v3 v4
theorem Jw2 (f : Nat) (k : Kont) (n v0 : Nat) (v1 v2 : Int) (v3 : Bool) (v4 : List PV) : Jy tau 1 YB (fun s k => ev tau F78 1 0 JeQ (Jj1 ) s k) (n + 1) (Jj YB N78 [.ow 5 545 [] 0 v0 none, .sc (.int .u64 v1), .sc (.int .i64 v2)] [(0, .dead), (545, .vec false 5 v3 v4)]) (JG tau 1 Vj k) = Ja9 f (fun v0 v1 v2 v3 v4 => Jy tau 1 YB (fun s k => ev tau F78 1 0 JeQ (Jj1 ) s k) n (Jj YB N78 [.ow 5 545 [] 0 v0 none, .sc (.int .u64 v1), .sc (.int .i64 v2)] [(0, .dead), (545, .vec false 5 v3 v4)]) (JG tau 1 Vj k)) (fun x0 x1 x2 => k (Ex.exit 0) (Jj Vj N78 [.ow 5 545 [] 0 x0 none] [(0, .dead), (545, .vec false 5 x1 x2)])) v0 v1 v2 v3 v4 := by kernel_rfl
theorem JoV (f : Nat) (k : Kont) : ∀ (n v0 : Nat) (v1 v2 : Int) (v3 : Bool) (v4 : List PV), Jy tau 1 YB (fun s k => ev tau F78 1 0 JeQ (Jj1 ) s k) n (Jj YB N78 [.ow 5 545 [] 0 v0 none, .sc (.int .u64 v1), .sc (.int .i64 v2)] [(0, .dead), (545, .vec false 5 v3 v4)]) (JG tau 1 Vj k) = YC f (fun x0 x1 x2 => k (Ex.exit 0) (Jj Vj N78 [.ow 5 545 [] 0 x0 none] [(0, .dead), (545, .vec false 5 x1 x2)])) n v0 v1 v2 v3 v4 | 0, _, _, _, _, _ => rfl | n + 1, v0, v1, v2, v3, v4 => (Jw2 f k n v0 v1 v2 v3 v4).trans (congrArg (fun r => Ja9 f r (fun x0 x1 x2 => k (Ex.exit 0) (Jj Vj N78 [.ow 5 545 [] 0 x0 none] [(0, .dead), (545, .vec false 5 x1 x2)])) v0 v1 v2 v3 v4) (by funext v0 v1 v2 v3 v4; exact JoV f k n v0 v1 v2 v3 v4))
def ZL (f : Nat) : List PV -> List (Nat × Ent) -> Kont -> OR
 | [.ow 5 545 [] 0 v0 none, .sc (.int .u64 v1),
 PV.sc
  (Value.int IntKind.i64
   v2)], [(0, .dead),
 (545, .vec false 5 v3 v4)], k => YC f (fun x0 x1 x2 => k (Ex.exit 0) (Jj Vj N78 [.ow 5 545 [] 0 x0 none] [(0, .dead), (545, .vec false 5 x1 x2)])) f v0 v1 v2 v3 v4
 | _, _, _ => none
theorem JCP (f : Nat) : Jg JeQ Jj1 = [] := by kernel_rfl
theorem Js0 (f : Nat) : (Item.l JeQ YB N78 (ZL f)).Ok tau Try.prog 1 := Ju Jn Jmy Jo (x := Jj1) (nm2 := Vj) (Jk _ _ (by rw [JCP f]; intro q hq; cases hq)) fun vs hp k res hr => by
 unfold ZL at hr
 split at hr
 · exact ⟨f, 0, (JoV f _ f _ _ _ _ _ ).trans hr⟩
 · cases hr
def Jba (f : Nat) (rc : Nat -> Int -> Bool -> List PV -> OR) (k0 : Nat -> Bool -> List PV -> OR) (v0 : Nat) (v1 : Int) (v2 : Bool) (v3 : List PV) : OR := bif (zi v0).tmod 64 != 56 then bif Je (v0 + 1) 1 && true then rc (v0 + 1) v1 (v2 && false) (List.take v0 v3 ++ [.sc (.int .u8 0)]) else none else YC f k0 f v0 v1 (0) v2 v3
def GJ (f : Nat) (k0 : Nat -> Bool -> List PV -> OR) : Nat -> Nat -> Int -> Bool -> List PV -> OR
 | 0, _, _, _, _ => none
 | n + 1, v0, v1, v2, v3 => Jba f (GJ f k0 n) k0 v0 v1 v2 v3
theorem Jw3 (f : Nat) (k : Kont) (n v0 : Nat) (v1 : Int) (v2 : Bool) (v3 : List PV) : Q2 tau 1 Zm (hasLabel Ja8) (fun l s k => Qi tau F78 1 0 Ja8 (Jgz (ZL f)) l s k) (n + 1) 0 (Jj Zm N78 [.ow 5 545 [] 0 v0 none, .sc (.int .u64 v1)] [(0, .dead), (545, .vec false 5 v2 v3)]) (JG tau 1 Vk k) = Jba f (fun v0 v1 v2 v3 => Q2 tau 1 Zm (hasLabel Ja8) (fun l s k => Qi tau F78 1 0 Ja8 (Jgz (ZL f)) l s k) n 0 (Jj Zm N78 [.ow 5 545 [] 0 v0 none, .sc (.int .u64 v1)] [(0, .dead), (545, .vec false 5 v2 v3)]) (JG tau 1 Vk k)) (fun x0 x1 x2 => k Ex.ret (Jj Vk N78 [.ow 5 545 [] 0 x0 none] [(0, .dead), (545, .vec false 5 x1 x2)])) v0 v1 v2 v3 := by kernel_rfl
theorem JoW (f : Nat) (k : Kont) : ∀ (n v0 : Nat) (v1 : Int) (v2 : Bool) (v3 : List PV), Q2 tau 1 Zm (hasLabel Ja8) (fun l s k => Qi tau F78 1 0 Ja8 (Jgz (ZL f)) l s k) n 0 (Jj Zm N78 [.ow 5 545 [] 0 v0 none, .sc (.int .u64 v1)] [(0, .dead), (545, .vec false 5 v2 v3)]) (JG tau 1 Vk k) = GJ f (fun x0 x1 x2 => k Ex.ret (Jj Vk N78 [.ow 5 545 [] 0 x0 none] [(0, .dead), (545, .vec false 5 x1 x2)])) n v0 v1 v2 v3 | 0, _, _, _, _ => rfl | n + 1, v0, v1, v2, v3 => (Jw3 f k n v0 v1 v2 v3).trans (congrArg (fun r => Jba f r (fun x0 x1 x2 => k Ex.ret (Jj Vk N78 [.ow 5 545 [] 0 x0 none] [(0, .dead), (545, .vec false 5 x1 x2)])) v0 v1 v2 v3) (by funext v0 v1 v2 v3; exact JoW f k n v0 v1 v2 v3))
def JgA (f : Nat) : Nat -> List PV -> List (Nat × Ent) -> Kont -> OR
 | 0, [.ow 5 545 [] 0 v0 none,
 PV.sc
  (Value.int IntKind.u64
   v1)], [(0, .dead),
 (545, .vec false 5 v2 v3)], k => GJ f (fun x0 x1 x2 => k Ex.ret (Jj Vk N78 [.ow 5 545 [] 0 x0 none] [(0, .dead), (545, .vec false 5 x1 x2)])) f v0 v1 v2 v3
 | _, _, _, _ => none
theorem JCQ (f : Nat) : Jg Ja8 (Jgz (ZL f)) = [.l JeQ YB N78 (ZL f)] := by kernel_rfl
theorem JCR (f : Nat) : (Item.s Ja8 Zm N78 (JgA f)).Ok tau Try.prog 1 := XV Jn Jmy Jo (x := (Jgz (ZL f))) (nm2 := Vk) (Jk _ _ (by rw [JCQ f]; simp only [List.forall_mem_cons, List.not_mem_nil, false_implies, implies_true, and_true]; exact Js0 f)) fun l vs hp k res hr => by
 unfold JgA at hr
 split at hr
 · exact ⟨f, 0, (JoW f _ f _ _ _ _ ).trans hr⟩
 · cases hr
def g78 (f : Nat) (nl : Bool) (l : List PV) (n : Nat) (k : KR) : OR := bif Je (n + 1) 1 && true then bif (zi (n + 1)).tmod 64 != 56 then bif Je (n + 1 + 1) 1 && true then GJ f (fun x0_1 x1_1 x2_1 => k (Res.mk (.ow 5 16 [] 0 x0_1 none) [.dead] [.vec false 5 x1_1 x2_1])) f (n + 1 + 1) (IntKind.u64.wrap (IntKind.u64.wrap (zi n) * 8)) (nl && false && false) (List.take (n + 1) (List.take n l ++ [.sc (.int .u8 128)]) ++ [.sc (.int .u8 0)]) else none else YC f (fun x0_2 x1_2 x2_2 => k (Res.mk (.ow 5 16 [] 0 x0_2 none) [.dead] [.vec false 5 x1_2 x2_2])) f (n + 1) (IntKind.u64.wrap (IntKind.u64.wrap (zi n) * 8)) (0) (nl && false) (List.take n l ++ [.sc (.int .u8 128)]) else none
theorem e78 (f : Nat) (nl : Bool) (l : List PV) (n : Nat) (k : KR) : JJ tau F78 Try.f78 (Try.f78.body.get!) (JCO (JgA f) (ZL f)) [] 0 [.ow 5 0 [] 0 n none] [.vec false 5 nl l] k = g78 f nl l n k := by kernel_rfl
theorem JNp (f : Nat) : Jg (Try.f78.body.get!) (JCO (JgA f) (ZL f)) = [.s Ja8 Zm N78 (JgA f), .l JeQ YB N78 (ZL f)] := by kernel_rfl
theorem JNq (f : Nat) : ∀ q ∈ Jg (Try.f78.body.get!) (JCO (JgA f) (ZL f)), q.Ok tau Try.prog 1 := by rw [JNp f]; exact JL (JCR f) (JL (Js0 f) (fun _ h => nomatch h))
theorem JIj : Try.prog.funcs[78]? = some Try.f78 := by kernel_rfl
theorem JIk : Try.f78.body = some (Try.f78.body.get!) := by kernel_rfl
theorem JNr : Enters Try.prog 78 := enters_of JIj (by kernel_rfl) JIk
def JCS (n : Int) (i : Nat) : Int := IntKind.u8.wrap (JV .u64 n (56 - 8 * (i : Int)))
theorem JzN (f : Nat) (N : Int) (k0 : Nat -> Bool -> List PV -> OR) (L : List Int) (hL : L.length <= 140737488355300) : ∀ (d i n : Nat) (z : Bool), i + d = 8 -> d < n -> (d = 0 -> z = false) ->
  YC f k0 n (L.length + i) N (i : Int) z (pu .u8 (L ++ (List.range i).map (JCS N))) = k0 (L.length + 8) false (pu .u8 (L ++ (List.range 8).map (JCS N)))
 | 0, i, n + 1, z, h, hn, hz => by
   obtain rfl : i = 8 := by omega
   simp only [YC, Ja9]
   rw [hz rfl]
   exact Jd (by decide)
 | d + 1, i, n + 1, z, h, hn, hz => by
   have h1 := wI (i := i) (by omega)
   have h8 : IntKind.i64.wrap (8 * (i : Int)) = 8 * (i : Int) := wrap_i64 (by omega) (by omega)
   have h9 : IntKind.i64.wrap (56 - 8 * (i : Int)) = 56 - 8 * (i : Int) := wrap_i64 (by omega) (by omega)
   have c1 : decide ((i : Int) < 8) = true := by simp; omega
   have c2 : decide (0 <= 56 - 8 * (i : Int)) = true := by simp; omega
   have c3 : Je (L.length + i + 1) 1 = true := by simp [Je]; omega
   have hlen : (L ++ (List.range i).map (JCS N)).length = L.length + i := by simp
   simp only [YC, Ja9, h1, h8, h9, c1, c2, c3, Bool.and_true, cond_true, Yh, Bool.and_false]
   rw [List.take_of_length_le (by omega)]
   have := JzN f N k0 L hL d (i + 1) n false (by omega) (by omega) (fun _ => rfl)
   rw [List.range_succ, List.map_append, ← List.append_assoc, Qa] at this
   exact this
theorem JzO (f : Nat) (N : Int) (k0 : Nat -> Bool -> List PV -> OR) (hf : 9 <= f) : ∀ (d n : Nat) (L : List Int) (z : Bool), zs L.length = d -> d < n -> L.length + d <= 140737488355200 ->
  GJ f k0 n L.length N z (pu .u8 L) = YC f k0 f (L.length + d) N 0 (z && decide (d = 0)) (pu .u8 (L ++ List.replicate d 0))
 | 0, n + 1, L, z, hd, hn, hL => by
   simp only [GJ, Jba, Jeu]
   refine (Jd (by simp [zs] at hd ⊢; omega)).trans ?_
   simp
 | d + 1, n + 1, L, z, hd, hn, hL => by
   have hlt : d + 1 < 64 := by rw [← hd]; unfold zs; omega
   have c3 : Je (L.length + 1) 1 = true := by simp [Je]; omega
   simp only [GJ, Jba, Jeu, c3, Bool.and_true, cond_true, Yh, Bool.and_false]
   refine (Ja (by simp [zs] at hd ⊢; omega)).trans ?_
   rw [List.take_of_length_le (Nat.le_refl _)]
   have := JzO f N k0 hf d n (L ++ [0]) false (by simp [zs] at hd ⊢; omega) (by omega) (by simp; omega)
   simp only [List.length_append, List.length_cons, List.length_nil, Nat.zero_add, Qa] at this
   refine this.trans ?_
   rw [show L.length + 1 + d = L.length + (d + 1) from by omega, List.replicate_succ]
   simp
theorem JCT (nl : Bool) (bs : List Int) (hb : bs.length <= 140737488355000) (k : KR) : g78 100 nl (pu .u8 bs) bs.length k = k ⟨.ow 5 16 [] 0 (Q4 bs).length none, [.dead], [.vec false 5 false (pu .u8 (Q4 bs))]⟩ := by
 have c1 : (Je (bs.length + 1) 1 && true) = true := by simp [Je]; omega
 have c2 : (Je (bs.length + 1 + 1) 1 && true) = true := by simp [Je]; omega
 have hlen : (Q4 bs).length = bs.length + 1 + zs (bs.length + 1) + 8 := by simp [Q4, Jww]; omega
 have hz : zs (bs.length + 1) < 64 := by unfold zs; omega
 refine (Ja c1).trans ?_
 rw [Jeu, Yh, List.take_of_length_le (Nat.le_refl _)]
 have fin : ∀ z, YC 100 (fun x0_2 x1_2 x2_2 => k (Res.mk (PV.ow 5 16 [] 0 x0_2 none) [Ent.dead] [Ent.vec false 5 x1_2 x2_2])) 100 (bs.length + 1 + zs (bs.length + 1)) (IntKind.u64.wrap (IntKind.u64.wrap (zi bs.length) * 8)) 0 z (pu .u8 (bs ++ [128] ++ List.replicate (zs (bs.length + 1)) 0)) = k ⟨.ow 5 16 [] 0 (Q4 bs).length none, [.dead], [.vec false 5 false (pu .u8 (Q4 bs))]⟩ := by
  intro z
  have := JzN 100 (IntKind.u64.wrap (IntKind.u64.wrap (zi bs.length) * 8)) (fun x0_2 x1_2 x2_2 => k (Res.mk (PV.ow 5 16 [] 0 x0_2 none) [Ent.dead] [Ent.vec false 5 x1_2 x2_2])) (bs ++ [128] ++ List.replicate (zs (bs.length + 1)) 0) (by simp; omega) 8 0 100 z (by omega) (by omega) (by omega)
  have hl2 : (bs ++ [128] ++ List.replicate (zs (bs.length + 1)) 0).length = bs.length + 1 + zs (bs.length + 1) := by simp; omega
  rw [hl2] at this
  simp only [List.range_zero, List.map_nil, List.append_nil, Nat.add_zero] at this
  rw [hlen]
  exact this
 cases hc : (((((bs.length + 1) % 64 : Nat) : Int)) != 56) with
 | true =>
  refine (Ja rfl).trans ((Ja c2).trans ?_)
  have hc' : ((bs.length + 1) % 64 : Nat) ≠ 56 := by simp at hc; omega
  have hz1 : zs (bs.length + 1 + 1) + 1 = zs (bs.length + 1) := by unfold zs; omega
  have := JzO 100 (IntKind.u64.wrap (IntKind.u64.wrap (zi bs.length) * 8)) (fun x0_1 x1_1 x2_1 => k (Res.mk (PV.ow 5 16 [] 0 x0_1 none) [Ent.dead] [Ent.vec false 5 x1_1 x2_1])) (by omega) (zs (bs.length + 1 + 1)) 100 (bs ++ [128] ++ [0]) (nl && false && false) (by simp) (by unfold zs; omega) (by simp; omega)
  have h0 : pu .u8 (bs ++ [128] ++ [0]) = List.take (bs.length + 1) (pu .u8 bs ++ [PV.sc (Value.int IntKind.u8 128)]) ++ [PV.sc (Value.int IntKind.u8 0)] := by
   rw [List.take_of_length_le (by simp)]; simp
  rw [h0] at this
  simp only [List.length_append, List.length_cons, List.length_nil, Nat.zero_add] at this
  refine this.trans ?_
  have h3 : bs ++ [128] ++ [0] ++ List.replicate (zs (bs.length + 1 + 1)) 0 = bs ++ [128] ++ List.replicate (zs (bs.length + 1)) 0 := by
   rw [← hz1, List.replicate_succ]; simp
  rw [h3, show bs.length + 1 + 1 + zs (bs.length + 1 + 1) = bs.length + 1 + zs (bs.length + 1) from by omega]
  exact fin _
 | false =>
  refine (Jd rfl).trans ?_
  have hc' : ((bs.length + 1) % 64 : Nat) = 56 := by simp at hc; omega
  have hz0 : zs (bs.length + 1) = 0 := by unfold zs; omega
  have := fin (nl && false)
  rw [hz0] at this
  simpa using this
def Jmz : Jz
 | [.ow 5 0 [] 0 n none], [.vec false 5 nl l], k => bif Jl .u8 l && (decide (n = l.length) && decide (l.length <= 140737488355000)) then k ⟨.ow 5 16 [] 0 (Q4 (JD l)).length none, [.dead], [.vec false 5 false (pu .u8 (Q4 (JD l)))]⟩ else none
 | _, _, _ => none
def JIl : Sig := { own := [true], run := Jmz }
theorem JIm : Jc tau Try.prog 78 JIl := JO Jn Jmy Jo JIj JIk _ [] 1 [true] Jmz (JNq 100) fun xs es k res hr => by
 unfold Jmz at hr
 split at hr
 · obtain ⟨hc, hr⟩ := Jv hr
   simp only [Bool.and_eq_true, decide_eq_true_eq] at hc
   refine ⟨rfl, 0, (e78 100 _ _ _ _).trans ?_⟩
   rw [hc.2.1, QB hc.1, JI, JCT _ _ (by simpa using hc.2.2)]
   exact hr
 · cases hr
def F77 : Fns := F0
theorem JCU : Jq tau Try.prog F77 := Js
def JCV : An := (.seq .leaf (.seq .leaf .leaf))
def g77 (f : Nat) (k : KR) : OR := k (Res.mk (.ar 143 [.sc (.int .u32 1779033703), .sc (.int .u32 3144134277), .sc (.int .u32 1013904242), .sc (.int .u32 2773480762), .sc (.int .u32 1359893119), .sc (.int .u32 2600822924), .sc (.int .u32 528734635), .sc (.int .u32 1541459225)]) [] [])
theorem e77 (f : Nat) (k : KR) : JJ tau F77 Try.f77 (Try.f77.body.get!) JCV [.ro] 0 [] [] k = g77 f k := by kernel_rfl
theorem JNs (f : Nat) : ∀ q ∈ Jg (Try.f77.body.get!) JCV, q.Ok tau Try.prog 0 := Jw (by kernel_rfl)
theorem JIn : Try.prog.funcs[77]? = some Try.f77 := by kernel_rfl
theorem JIo : Try.f77.body = some (Try.f77.body.get!) := by kernel_rfl
theorem JNt : Enters Try.prog 77 := enters_of JIn (by kernel_rfl) JIo
def Js1 : Jz
 | [], [], k => g77 0  k
 | _, _, _ => none
def s77 : Sig := { own := [], run := Js1 }
theorem JNu : Jc tau Try.prog 77 s77 := JO Jn JCU Jo JIn JIo JCV [.ro] 0 [] Js1 (JNs 0) fun xs es k res hr => by
 unfold Js1 at hr
 split at hr
 · exact ⟨rfl, 0, (e77 0  _).trans hr⟩
 · cases hr
def N36 : Nat := 37
def F36 : Fns := Jt 77 s77 (Jt 78 JIl (Jt 79 JwC (Jt 80 JIh F0)))
theorem JmA : Jq tau Try.prog F36 := (((Js.add JIi JNo).add Jss JBV).add JIm JNr).add JNu JNt
def JoX : Code := Qf (Try.f36.body.get!) [1, 1, 0, 1, 0, 0]
def JeR : Nm := [(2, .any), (3, .any), (4, .ro)]
def JmB : Nm := [(2, .any), (3, .any)]
def Js2 : An := (.seq (.seq .leaf (.cond .leaf .leaf)) (.seq (.block none .leaf) .leaf))
def JoY : Code := Qf (Try.f36.body.get!) [1, 1, 1, 1, 0, 1, 0, 0]
def JeS : Nm := [(2, .any), (3, .any), (5, .any), (20, .any)]
def JmC : Nm := [(2, .any), (5, .any)]
def Js3 : An := (.seq .leaf (.seq (.cond .leaf .leaf) (.seq (.block none (.seq .leaf .leaf)) .leaf)))
def Jw4 (r0 : Qw) (r1 : Qw) : An := (.seq .leaf (.seq .leaf (.seq (.seq .leaf (.block none (.sum JeR N36 r0))) (.seq .leaf (.seq (.seq .leaf (.block none (.sum JeS N36 r1))) (.seq .leaf .leaf))))))
abbrev Js4 := List PV -> List PV -> List PV -> OR
def Jbb (f : Nat) (rc : Js4) (k0 : List PV -> List PV -> OR) (v0 v1 v2 : List PV) : OR := bif decide (zi v0.length > 0) then bif decide (64 <= v0.length) && true then bif Jl IntKind.u32 v2 && decide (v2.length = 8) && (Jl IntKind.u8 (List.take 64 v0) && decide ((List.take 64 v0).length = 64)) then bif decide (64 <= v0.length) && decide (v0.length <= v0.length) && true then rc (List.drop 64 (List.take v0.length v0)) v1 (pu IntKind.u32 (JlM (JD v2) (JD (List.take 64 v0)))) else none else none else none else k0 v1 v2
def Vl (f : Nat) (k0 : List PV -> List PV -> OR) : Nat -> Js4
 | 0 => fun _ _ _ => none
 | n + 1 => Jbb f (Vl f k0 n) k0
def Jbc (k : Kont) := fun x0 x1 => k (Ex.exit 0) (Jj JmB N36 [.ptr 608 [], .ptr 609 []] [(608, .box false 37 (PV.ar 37 x0)), (609, .box false 143 (PV.ar 143 x1))])
def JmD (f : Nat) (k : Kont) (n : Nat) (v0 v1 v2 : List PV) : OR := Jy tau 0 JeR (fun s k => ev tau F36 0 0 JoX (Js2 ) s k) n (Jj JeR N36 [.ptr 608 [], .ptr 609 [], .ro 5 false false v0] [(608, .box false 37 (PV.ar 37 v1)), (609, .box false 143 (PV.ar 143 v2))]) (JG tau 0 JmB k)
theorem Jw5 (f : Nat) (k : Kont) (n : Nat) : JmD f k (n + 1) = Jbb f (JmD f k n) (Jbc k) := by kernel_rfl
theorem JoZ (f : Nat) (k : Kont) : ∀ n, JmD f k n = Vl f (Jbc k) n
 | 0 => rfl
 | n + 1 => (Jw5 f k n).trans (congrArg (fun r => Jbb f r (Jbc k)) (JoZ f k n))
def JeT (f : Nat) : List PV -> List (Nat × Ent) -> Kont -> OR
 | [.ptr 608 [], .ptr 609 [],
 PV.ro 5 false false
  v0], [(608, .box false 37 (PV.ar 37 v1)),
 (609,
  Ent.box false 143
   (PV.ar 143
    v2))], k => Vl f (Jbc k) f v0 v1 v2
 | _, _, _ => none
theorem JCW (f : Nat) : Jg JoX Js2 = [] := by kernel_rfl
theorem JIp (f : Nat) : (Item.l JoX JeR N36 (JeT f)).Ok tau Try.prog 0 := Ju Jn JmA Jo (x := Js2) (nm2 := JmB) (Jk _ _ (by rw [JCW f]; intro q hq; cases hq)) fun vs hp k res hr => by
 unfold JeT at hr
 split at hr
 · exact ⟨f, 0, (JoZ f _ f _ _ _ ).trans hr⟩
 · cases hr
abbrev Js5 := Int -> List PV -> List PV -> List PV -> OR
def Jbd (f : Nat) (rc : Js5) (k0 : List PV -> List PV -> OR) (v0 : Int) (v1 v2 v3 : List PV) : OR := bif decide (v0 < 32) then bif decide (0 <= IntKind.i64.wrap (v0.tdiv 4)) && decide (IntKind.i64.wrap (v0.tdiv 4) < zi 8) && true then bif PV.isInt IntKind.u32 (Jr (PV.ar 143 v2) [(IntKind.i64.wrap (v0.tdiv 4)).toNat]) && true then bif decide (0 <= IntKind.i64.wrap (24 - IntKind.i64.wrap (8 * v0.tmod 4))) && true then bif decide (0 <= v0) && decide (v0 < zi 32) && true then rc (IntKind.i64.wrap (v0 + 1)) v1 v2 (v3.set v0.toNat (.sc (.int .u8 (IntKind.u8.wrap (JV IntKind.u32 (Jr (PV.ar 143 v2) [(IntKind.i64.wrap (v0.tdiv 4)).toNat]).int (IntKind.i64.wrap (24 - IntKind.i64.wrap (8 * v0.tmod 4)))))))) else none else none else none else none else k0 v1 v3
def Vm (f : Nat) (k0 : List PV -> List PV -> OR) : Nat -> Js5
 | 0 => fun _ _ _ _ => none
 | n + 1 => Jbd f (Vm f k0 n) k0
def Jbe (k : Kont) := fun x0 x1 => k (Ex.exit 2) (Jj JmC N36 [.ptr 608 [], .ptr 609 []] [(608, .box false 37 (PV.ar 37 x0)), (609, .box false 37 (PV.ar 37 x1))])
def JmE (f : Nat) (k : Kont) (n : Nat) (v0 : Int) (v1 v2 v3 : List PV) : OR := Jy tau 0 JeS (fun s k => ev tau F36 0 0 JoY (Js3 ) s k) n (Jj JeS N36 [.ptr 608 [], .ptr 609 [], .ptr 610 [], .sc (.int .i64 v0)] [(608, .box false 37 (PV.ar 37 v1)), (609, .box false 143 (PV.ar 143 v2)), (610, .box false 37 (PV.ar 37 v3))]) (JG tau 0 JmC k)
theorem Jw6 (f : Nat) (k : Kont) (n : Nat) : JmE f k (n + 1) = Jbd f (JmE f k n) (Jbe k) := by kernel_rfl
theorem Jo0 (f : Nat) (k : Kont) : ∀ n, JmE f k n = Vm f (Jbe k) n
 | 0 => rfl
 | n + 1 => (Jw6 f k n).trans (congrArg (fun r => Jbd f r (Jbe k)) (Jo0 f k n))
def JeU (f : Nat) : List PV -> List (Nat × Ent) -> Kont -> OR
 | [.ptr 608 [], .ptr 609 [], .ptr 610 [],
 PV.sc
  (Value.int IntKind.i64
   v0)], [(608, .box false 37 (PV.ar 37 v1)), (609, .box false 143 (PV.ar 143 v2)),
 (610,
  Ent.box false 37
   (PV.ar 37
    v3))], k => Vm f (Jbe k) f v0 v1 v2 v3
 | _, _, _ => none
theorem JCX (f : Nat) : Jg JoY Js3 = [] := by kernel_rfl
theorem JIq (f : Nat) : (Item.l JoY JeS N36 (JeU f)).Ok tau Try.prog 0 := Ju Jn JmA Jo (x := Js3) (nm2 := JmC) (Jk _ _ (by rw [JCX f]; intro q hq; cases hq)) fun vs hp k res hr => by
 unfold JeU at hr
 split at hr
 · exact ⟨f, 0, (Jo0 f _ f _ _ _ _ ).trans hr⟩
 · cases hr
abbrev Js6 := (Jch)
def g36 (f : Nat) (nl fl : Bool) (l : List PV) (k : KR) : OR := bif l.all (PV.isRo 5) && (decide ((JH l).length <= 140737488355328) && decide (l.length <= 140737488355328)) then bif Jl IntKind.u8 (JH l) && (decide ((JH l).length = (JH l).length) && decide ((JH l).length <= 140737488355000)) then Vl f (fun x0_0 x1_0 => Vm f (fun _ x1_1 => k (Res.mk (.ar 37 x1_1) [] [])) f (0) x0_0 x1_0 Js6) f (List.take (Q4 (JD (JH l))).length (pu IntKind.u8 (Q4 (JD (JH l))))) Js6 ([.sc (.int .u32 1779033703), .sc (.int .u32 3144134277), .sc (.int .u32 1013904242), .sc (.int .u32 2773480762), .sc (.int .u32 1359893119), .sc (.int .u32 2600822924), .sc (.int .u32 528734635), .sc (.int .u32 1541459225)]) else none else none
theorem e36 (f : Nat) (nl fl : Bool) (l : List PV) (k : KR) : JJ tau F36 Try.f36 (Try.f36.body.get!) (Jw4 (JeT f) (JeU f)) [] 0 [.ro 29 nl fl l] [] k = g36 f nl fl l k := by kernel_rfl
theorem JNv (f : Nat) : Jg (Try.f36.body.get!) (Jw4 (JeT f) (JeU f)) = [.l JoX JeR N36 (JeT f), .l JoY JeS N36 (JeU f)] := by kernel_rfl
theorem JNw (f : Nat) : ∀ q ∈ Jg (Try.f36.body.get!) (Jw4 (JeT f) (JeU f)), q.Ok tau Try.prog 0 := by rw [JNv f]; exact JL (JIp f) (JL (JIq f) (fun _ h => nomatch h))
theorem JIr : Try.prog.funcs[36]? = some Try.f36 := by kernel_rfl
theorem JIs : Try.f36.body = some (Try.f36.body.get!) := by kernel_rfl
theorem JIt : Enters Try.prog 36 := enters_of JIr (by kernel_rfl) JIs
theorem JgB : iv.length = 8 := rfl
theorem JzP (P : List Int) (m : Nat) (hP : P.length = 64 * m) (f : Nat) (k0 : List PV -> List PV -> OR) (a : List PV) : ∀ (d i n : Nat), i + d = m -> d < n ->
  Vl f k0 n (pu .u8 (P.drop (64 * i))) a (pu .u32 (XZ iv P i)) = k0 a (pu .u32 (XZ iv P m))
 | 0, i, n + 1, h, hn => by
   obtain rfl : i = m := by omega
   have hl : (P.drop (64 * i)).length = 0 := by rw [List.length_drop]; omega
   simp only [Vl, Jbb, JI, hl]
   exact Jd (by decide)
 | d + 1, i, n + 1, h, hn => by
   have hl : 64 <= (P.drop (64 * i)).length := by rw [List.length_drop]; omega
   have hf := XB iv P JgB i
   simp only [Vl, Jbb, JI, Yh, JP, hf, WF]
   refine (Ja (by simp; omega)).trans ?_
   refine (Ja (by simp at hl ⊢; omega)).trans ?_
   refine (Ja (by simp at hl ⊢; omega)).trans ?_
   refine (Ja (by simp at hl ⊢; omega)).trans ?_
   rw [List.take_of_length_le (Nat.le_refl _), Joj, List.drop_drop]
   have := JzP P m hP f k0 a d (i + 1) n (by omega) (by omega)
   rw [show 64 * i + 64 = 64 * (i + 1) from by omega]
   exact this
theorem JzQ (s : List Int) (hs : s.length = 8) (f : Nat) (k0 : List PV -> List PV -> OR) (a : List PV) (t : List Int) (ht : t.length = 32) : ∀ (d i n : Nat), i + d = 32 -> d < n ->
  Vm f k0 n (i : Int) a (pu .u32 s) (pu .u8 (QQ (ZN s) t i)) = k0 a (pu .u8 (Jsm s))
 | 0, i, n + 1, h, hn => by
   obtain rfl : i = 32 := by omega
   simp only [Vm, Jbd]
   refine (Jd (by decide)).trans ?_
   have := WZ (ZN s) t
   rw [ht] at this; rw [this]; rfl
 | d + 1, i, n + 1, h, hn => by
   have e1 : ((i : Int)).tdiv 4 = ((i / 4 : Nat) : Int) := by rw [Int.tdiv_eq_ediv_of_nonneg (by omega)]; omega
   have e2 : ((i : Int)).tmod 4 = ((i % 4 : Nat) : Int) := by rw [Int.tmod_eq_emod_of_nonneg (by omega)]; omega
   have h1 := wI (i := i) (by omega)
   have h2 : IntKind.i64.wrap ((i / 4 : Nat) : Int) = ((i / 4 : Nat) : Int) := wrap_i64 (by omega) (by omega)
   have h3 : IntKind.i64.wrap (8 * ((i % 4 : Nat) : Int)) = 8 * ((i % 4 : Nat) : Int) := wrap_i64 (by omega) (by omega)
   have h4 : IntKind.i64.wrap (24 - 8 * ((i % 4 : Nat) : Int)) = 24 - 8 * ((i % 4 : Nat) : Int) := wrap_i64 (by omega) (by omega)
   have g1 := tI i
   have g2 : (((i / 4 : Nat) : Int)).toNat = i / 4 := by omega
   have c0 : decide ((i : Int) < 32) = true := by simp; omega
   have c1 : (decide (0 <= ((i / 4 : Nat) : Int)) && decide (((i / 4 : Nat) : Int) < zi 8) && true) = true := by simp; omega
   have c2 : (decide (0 <= 24 - 8 * ((i % 4 : Nat) : Int)) && true) = true := by simp; omega
   have c3 : (decide (0 <= (i : Int)) && decide ((i : Int) < zi 32) && true) = true := by simp; omega
   simp only [Vm, Jbd, e1, e2, h1, h2, h3, h4, g1, g2, Yi, c0, c1, c2, c3, Vi hs (i / 4) (by omega), PV.isInt, PV.int, decide_true, Bool.and_true, cond_true, Xs]
   have := JzQ s hs f k0 a t ht d (i + 1) n (by omega) (by omega)
   rw [← QP (ZN s) t i (by omega)] at this
   exact this
theorem JCY (nl fl : Bool) (l : List PV) (k : KR) (hl : l.all (PV.isRo 5) = true) (hn : l.length <= 140737488355328) (hi : Jl .u8 (JH l) = true) (hs : (JH l).length <= 140737488355000) :
  g36 ((Q4 (JD (JH l))).length / 64 + 100) nl fl l k = k ⟨.ar 37 (pu .u8 (JX (JD (JH l)))), [], []⟩ := by
 refine (Ja (by simp only [hl, Bool.true_and, Bool.and_eq_true, decide_eq_true_eq]; omega)).trans ?_
 refine (Ja (by simp only [hi, Bool.true_and, Bool.and_eq_true, decide_eq_true_eq, true_and]; exact hs)).trans ?_
 rw [Yh, List.take_of_length_le (Nat.le_refl _)]
 generalize hP : Q4 (JD (JH l)) = P
 have hlen : P.length = 64 * (P.length / 64) := by rw [← hP]; exact Jc4 _
 have h0 : ∀ k0 a, Vl (P.length / 64 + 100) k0 (P.length / 64 + 100) (pu .u8 P) a (pu .u32 iv) = k0 a (pu .u32 (XZ iv P (P.length / 64))) := fun k0 a => JzP P (P.length / 64) hlen _ k0 a (P.length / 64) 0 _ (by omega) (by omega)
 have h1 : ∀ k0 a s, s.length = 8 -> Vm (P.length / 64 + 100) k0 (P.length / 64 + 100) 0 a (pu .u32 s) (pu .u8 (List.replicate 32 0)) = k0 a (pu .u8 (Jsm s)) := by
  intro k0 a s hs
  have := JzQ s hs (P.length / 64 + 100) k0 a (List.replicate 32 0) (by simp) 32 0 (P.length / 64 + 100) (by omega) (by omega)
  rw [Wg] at this
  exact this
 refine (h0 _ _).trans ((h1 _ _ _ (XB iv P JgB _)).trans ?_)
 rw [Jdw, JoE, hP]
def JmF : Jz
 | [.ro 29 nl fl l], [], k => bif (l.all (PV.isRo 5) && decide (l.length <= 140737488355328)) && (Jl .u8 (JH l) && decide ((JH l).length <= 140737488355000)) then k ⟨.ar 37 (pu .u8 (JX (JD (JH l)))), [], []⟩ else none
 | _, _, _ => none
def JCZ : Sig := { own := [], run := JmF }
theorem JzR : Jc tau Try.prog 36 JCZ := Jhj Jn JmA Jo JIr JIs (fun n => Jw4 (JeT n) (JeU n)) [] 0 [] JmF (fun n => JNw n) fun xs es k res hr => by
 unfold JmF at hr
 split at hr
 · rename_i nl fl l
   obtain ⟨hc, hr⟩ := Jv hr
   simp only [Bool.and_eq_true, decide_eq_true_eq] at hc
   refine ⟨rfl, (Q4 (JD (JH l))).length / 64 + 100, 0, (e36 _ _ _ _ _).trans ?_⟩
   rw [JCY nl fl l k hc.1.1 hc.1.2 hc.2.1 hc.2.2]; exact hr
 · cases hr
def F13 : Fns := Jt 36 JCZ (Jt 35 JHt (F0))
theorem JC0 : Jq tau Try.prog F13 := ((Js).add Jzw JB5).add JzR JIt
def JC1 : Nm := [(2, .any), (3, .any), (4, .any), (5, .any), (22, .any), (23, .any), (24, .any)]
def Wq : An := (.seq .leaf (.seq (.cond .leaf .leaf) (.seq (.block none (.seq .leaf .leaf)) .leaf)))
def JC2 : An := (.seq .leaf (.seq .leaf (.seq (.seq .leaf (.block none (.loop JC1 Wq))) (.seq .leaf .leaf))))
abbrev Vn (y0 : Int) := (fTo FloatKind.f64 (fOf FloatKind.f64 y0))
abbrev GK (id_N : Int) := (fTo FloatKind.f64 (fOf FloatKind.f64 id_N))
abbrev Jcq (y1 : Int) := (fTo FloatKind.f64 (fOf FloatKind.f64 y1))
abbrev JeV (y2 : Int) := (fTo FloatKind.f64 (fOf FloatKind.f64 y2))
abbrev Jib (y0 : Int) (id_N : Int) (y1 : Int) (y2 : Int) := (JH [PV.ro 5 false false (pu IntKind.u8 (QE ((Vn y0).getD 0)) ++ pu IntKind.u8 (QE ((GK id_N).getD 0)) ++ pu IntKind.u8 (QE ((Jcq y1).getD 0)) ++ pu IntKind.u8 (QE ((JeV y2).getD 0)))])
abbrev JeW := (2 ^ (IntKind.i64.bits - 1) - Nat.succ 0)
def g13 (f : Nat) (y0 id_N y1 y2 : Int) (k : KR) : OR := bif (Vn y0).isSome && decide (Int.negSucc 9223372036854775807 <= (Vn y0).getD 0) && decide ((Vn y0).getD 0 <= Int.ofNat JeW) && true then bif (GK id_N).isSome && decide (Int.negSucc 9223372036854775807 <= (GK id_N).getD 0) && decide ((GK id_N).getD 0 <= Int.ofNat JeW) && true then bif slB false (pu IntKind.u8 (QE ((Vn y0).getD 0))) then bif (Jcq y1).isSome && decide (Int.negSucc 9223372036854775807 <= (Jcq y1).getD 0) && decide ((Jcq y1).getD 0 <= Int.ofNat JeW) && true then bif slB false (pu IntKind.u8 (QE ((Vn y0).getD 0)) ++ pu IntKind.u8 (QE ((GK id_N).getD 0))) then bif (JeV y2).isSome && decide (Int.negSucc 9223372036854775807 <= (JeV y2).getD 0) && decide ((JeV y2).getD 0 <= Int.ofNat JeW) && true then bif slB false (pu IntKind.u8 (QE ((Vn y0).getD 0)) ++ pu IntKind.u8 (QE ((GK id_N).getD 0)) ++ pu IntKind.u8 (QE ((Jcq y1).getD 0))) then bif Jl IntKind.u8 (Jib y0 id_N y1 y2) && decide ((Jib y0 id_N y1 y2).length <= 140737488355000) then k (Res.mk (.st 39 [.st 34 [.sc (.int .i64 y0), .sc (.int .i64 id_N)], .sc (.string (ByteArray.mk #[])), .ro 42 false false [.st 42 [.sc (.int .i64 y1), .sc (.int .i64 y2)]], .sc (.int .i64 0), .ar 37 (pu IntKind.u8 (JX (JD (Jib y0 id_N y1 y2))))]) [] []) else none else none else none else none else none else none else none else none
theorem e13 (f : Nat) (y0 id_N y1 y2 : Int) (k : KR) : JJ tau F13 Try.f13 (Try.f13.body.get!) JC2 [.ro] 4 [.st 34 [.sc (.int .i64 y0), .sc (.int .i64 id_N)], .st 42 [.sc (.int .i64 y1), .sc (.int .i64 y2)]] [] k = g13 f y0 id_N y1 y2 k := by kernel_rfl
theorem JNx (f : Nat) : ∀ q ∈ Jg (Try.f13.body.get!) JC2, q.Ok tau Try.prog 0 := Jw (by kernel_rfl)
theorem JIu : Try.prog.funcs[13]? = some Try.f13 := by kernel_rfl
theorem JIv : Try.f13.body = some (Try.f13.body.get!) := by kernel_rfl
theorem JNy : Enters Try.prog 13 := enters_of JIu (by kernel_rfl) JIv
theorem Jw7 : (List.range 128).all (fun i => fTo .f64 (fOf .f64 (i : Int)) == some (i : Int)) = true := by kernel_rfl
theorem VS {x : Int} (h0 : 0 <= x) (h1 : x < 128) : fTo .f64 (fOf .f64 x) = some x := by
 have := List.all_eq_true.1 Jw7 x.toNat (List.mem_range.2 (by omega))
 rw [show ((x.toNat : Nat) : Int) = x from by omega] at this
 simpa using this
structure Nw4 where
 (a b c d : Int)
def JeX : Nw4 -> Bool := hid fun x => (decide (0 <= x.a) && decide (x.a < 128)) && (decide (0 <= x.b) && decide (x.b < 128)) && (decide (0 <= x.c) && decide (x.c < 128)) && (decide (0 <= x.d) && decide (x.d < 128))
def Js7 (x : Nw4) : List Int := QE x.a ++ QE x.b ++ QE x.c ++ QE x.d
def Jw8 : Nw4 -> List Int := hid fun x => JX (Js7 x)
theorem Jw9 (x : Nw4) : Jw8 x = JX (Js7 x) := by rw [Jw8, hid_eq]
def wnP (h n d u : Int) (s : List Int) : PV := .st 39 [.st 34 [.sc (.int .i64 h), .sc (.int .i64 n)], .sc (.string (ByteArray.mk #[])), .ro 42 false false [.st 42 [.sc (.int .i64 d), .sc (.int .i64 u)]], .sc (.int .i64 0), .ar 37 (pu .u8 s)]
theorem JC3 (h n d u : Int) (hs : JeX ⟨h, n, d, u⟩ = true) (k : KR) : g13 0 h n d u k = k ⟨wnP h n d u (Jw8 ⟨h, n, d, u⟩), [], []⟩ := by
 rw [JeX, hid_eq] at hs
 simp only [Bool.and_eq_true, decide_eq_true_eq] at hs
 have c : ∀ x : Int, 0 <= x -> x < 128 -> (decide (Int.negSucc 9223372036854775807 <= x) && decide (x <= Int.ofNat (2 ^ (IntKind.i64.bits - 1) - Nat.succ 0))) = true := by
   intro x h0 h1
   have e1 : Int.ofNat (2 ^ (IntKind.i64.bits - 1) - Nat.succ 0) = 9223372036854775807 := by decide
   rw [e1]; simp; omega
 have c1 : ∀ x : Int, 0 <= x -> x < 128 -> decide (Int.negSucc 9223372036854775807 <= x) = true := fun x h0 h1 => by have := c x h0 h1; simp only [Bool.and_eq_true] at this; exact this.1
 have c2 : ∀ x : Int, 0 <= x -> x < 128 -> decide (x <= Int.ofNat (2 ^ (IntKind.i64.bits - 1) - Nat.succ 0)) = true := fun x h0 h1 => by have := c x h0 h1; simp only [Bool.and_eq_true] at this; exact this.2
 rw [Jw9]
 unfold g13 JeW Jib JeV Jcq GK Vn
 simp only [VS hs.1.1.1.1 hs.1.1.1.2, VS hs.1.1.2.1 hs.1.1.2.2, VS hs.1.2.1 hs.1.2.2, VS hs.2.1 hs.2.2, Option.isSome_some, Option.getD_some, c1 _ hs.1.1.1.1 hs.1.1.1.2, c1 _ hs.1.1.2.1 hs.1.1.2.2, c1 _ hs.1.2.1 hs.1.2.2, c1 _ hs.2.1 hs.2.2, c2 _ hs.1.1.1.1 hs.1.1.1.2, c2 _ hs.1.1.2.1 hs.1.1.2.2, c2 _ hs.1.2.1 hs.1.2.2, c2 _ hs.2.1 hs.2.2,
   WF, JP, JI, XM, JaU, PV.els, List.append_nil, List.nil_append, List.length_append, Vc, Bool.and_true, Bool.true_and, cond_true, Nat.reduceAdd, Nat.reduceLeDiff, decide_true]
 have sl : ∀ l : List PV, l.length <= 1000 -> slB false l = true := fun l h => XA.2 ⟨fun h => (by cases h), by omega⟩
 refine (Ja (sl _ (by simp))).trans ((Ja (sl _ (by simp))).trans ((Ja (sl _ (by simp))).trans ((Ja ?_).trans ?_)))
 · simp only [Wb, JP]; rfl
 simp only [← Qa, WF]
 rfl
def JmG : Jz
 | [.st 34 [.sc (.int .i64 h), .sc (.int .i64 n)], .st 42 [.sc (.int .i64 d), .sc (.int .i64 u)]], [], k => bif JeX ⟨h, n, d, u⟩ then k ⟨.st 39 [.st 34 [.sc (.int .i64 h), .sc (.int .i64 n)], .sc (.string (ByteArray.mk #[])), .ro 42 false false [.st 42 [.sc (.int .i64 d), .sc (.int .i64 u)]], .sc (.int .i64 0), .ar 37 (pu .u8 (Jw8 ⟨h, n, d, u⟩))], [], []⟩ else none
 | _, _, _ => none
def JIw : Sig := { own := [], run := JmG }
theorem JIx : Jc tau Try.prog 13 JIw := Jc.mk' fun xs es k res hl hr => by
 change JmG xs es k = some res at hr
 unfold JmG at hr
 split at hr
 · rename_i h n d u
   obtain ⟨hc, hr2⟩ := Jv hr
   exact J3 Jn JC0 Jo JIu JIv JC2 [.ro] 0 4 (JNx 0) hl rfl ((e13 0 h n d u k).trans ((JC3 h n d u hc k).trans hr2))
 · cases hr
def F9 : Fns := Jt 13 JIw (F0)
theorem JIy : Jq tau Try.prog F9 := (Js).add JIx JNy
def an9 : An := (.seq .leaf (.seq .leaf (.seq .leaf .leaf)))
def g9 (f : Nat) (k : KR) : OR := bif JeX (Nw4.mk 1 0 1 2) then k (Res.mk (.sc (.bool true)) [] []) else none
theorem e9 (f : Nat) (k : KR) : JJ tau F9 Try.f9 (Try.f9.body.get!) an9 [.ro] 0 [] [] k = g9 f k := by kernel_rfl
theorem ia9 (f : Nat) : ∀ q ∈ Jg (Try.f9.body.get!) an9, q.Ok tau Try.prog 0 := Jw (by kernel_rfl)
theorem fo9 : Try.prog.funcs[9]? = some Try.f9 := by kernel_rfl
theorem bo9 : Try.f9.body = some (Try.f9.body.get!) := by kernel_rfl
theorem en9 : Enters Try.prog 9 := enters_of fo9 (by kernel_rfl) bo9
def JC4 : Jz
 | [], [], k => g9 0  k
 | _, _, _ => none
def s9 : Sig := { own := [], run := JC4 }
theorem ok9 : Jc tau Try.prog 9 s9 := JO Jn JIy Jo fo9 bo9 an9 [.ro] 0 [] JC4 (ia9 0) fun xs es k res hr => by
 unfold JC4 at hr
 split at hr
 · exact ⟨rfl, 0, (e9 0  _).trans hr⟩
 · cases hr
def F65 : Fns := Jt 76 JGj (F0)
theorem JC5 : Jq tau Try.prog F65 := (Js).add JGk JMv
def JC6 : An := (.seq .leaf (.seq .leaf .leaf))
def g65 (f : Nat) (b_z b_f : Bool) (b : List PV) (k : KR) : OR := bif slB b_z b then k (Res.mk (.ptr 16 []) [] [.box false 166 (PV.st 166 [.ro 5 b_z b_z b, .sc (.int .i64 0)])]) else none
theorem e65 (f : Nat) (b_z b_f : Bool) (b : List PV) (k : KR) : JJ tau F65 Try.f65 (Try.f65.body.get!) JC6 [.any] 0 [.ro 5 b_z b_f b] [] k = g65 f b_z b_f b k := by kernel_rfl
theorem JNz (f : Nat) : ∀ q ∈ Jg (Try.f65.body.get!) JC6, q.Ok tau Try.prog 0 := Jw (by kernel_rfl)
theorem JIz : Try.prog.funcs[65]? = some Try.f65 := by kernel_rfl
theorem JIA : Try.f65.body = some (Try.f65.body.get!) := by kernel_rfl
theorem JIB : Enters Try.prog 65 := enters_of JIz (by kernel_rfl) JIA
def Js8 : Jz
 | [.ro 5 b_z b_f b], [], k => g65 0 b_z b_f b k
 | _, _, _ => none
def s65 : Sig := { own := [], run := Js8 }
theorem JIC : Jc tau Try.prog 65 s65 := JO Jn JC5 Jo JIz JIA JC6 [.any] 0 [] Js8 (JNz 0) fun xs es k res hr => by
 unfold Js8 at hr
 split at hr
 · exact ⟨rfl, 0, (e65 0 _ _ _  _).trans hr⟩
 · cases hr
def F67 : Fns := F0
theorem JC7 : Jq tau Try.prog F67 := Js
def JC8 : An := (.seq .leaf (.seq (.seq .leaf (.cond (.seq .leaf .leaf) .leaf)) (.seq .leaf .leaf)))
def g67 (f : Nat) (y0 y1 : Bool) (r_b : List PV) (r_e : Int) (k : KR) : OR := bif r_e == 0 then bif decide (zi r_b.length > 0) then k (Res.mk (.sc (.int .i64 9)) [.box false 166 (PV.st 166 [.ro 5 y0 y1 r_b, .sc (.int .i64 r_e)])] []) else k (Res.mk (.sc (.int .i64 r_e)) [.box false 166 (PV.st 166 [.ro 5 y0 y1 r_b, .sc (.int .i64 r_e)])] []) else k (Res.mk (.sc (.int .i64 r_e)) [.box false 166 (PV.st 166 [.ro 5 y0 y1 r_b, .sc (.int .i64 r_e)])] [])
theorem e67 (f : Nat) (y0 y1 : Bool) (r_b : List PV) (r_e : Int) (k : KR) : JJ tau F67 Try.f67 (Try.f67.body.get!) JC8 [.ro] 0 [.ptr 0 []] [.box false 166 (.st 166 [.ro 5 y0 y1 r_b, .sc (.int .i64 r_e)])] k = g67 f y0 y1 r_b r_e k := by kernel_rfl
theorem JNA (f : Nat) : ∀ q ∈ Jg (Try.f67.body.get!) JC8, q.Ok tau Try.prog 1 := Jw (by kernel_rfl)
theorem JID : Try.prog.funcs[67]? = some Try.f67 := by kernel_rfl
theorem JIE : Try.f67.body = some (Try.f67.body.get!) := by kernel_rfl
theorem JIF : Enters Try.prog 67 := enters_of JID (by kernel_rfl) JIE
def Js9 : Jz
 | [.ptr 0 []], [.box false 166 (.st 166 [.ro 5 y0 y1 r_b, .sc (.int .i64 r_e)])], k => g67 0 y0 y1 r_b r_e k
 | _, _, _ => none
def s67 : Sig := { own := [], run := Js9 }
theorem JIG : Jc tau Try.prog 67 s67 := JO Jn JC7 Jo JID JIE JC8 [.ro] 1 [] Js9 (JNA 0) fun xs es k res hr => by
 unfold Js9 at hr
 split at hr
 · exact ⟨rfl, 0, (e67 0 _ _ _ _  _).trans hr⟩
 · cases hr
def JIH : Fns := F0
theorem Jxa : Jq tau Try.prog JIH := Js
def Jta : An := (.seq .leaf (.seq (.seq .leaf (.cond (.seq .leaf .leaf) .leaf)) (.seq .leaf .leaf)))
def JII (f : Nat) (s_z s_f : Bool) (s : List PV) (k : KR) : OR := bif s_z then k (Res.mk (.ro 113 true true []) [] []) else bif Je (0 + s.length) 32 && true then k (Res.mk (.ro 113 false false (List.take (0 + s.length) s)) [] []) else none
theorem JNB (f : Nat) (s_z s_f : Bool) (s : List PV) (k : KR) : JJ tau JIH Try.f120 (Try.f120.body.get!) Jta [.ro] 0 [.ro 113 s_z s_f s] [] k = JII f s_z s_f s k := by kernel_rfl
theorem JIJ (f : Nat) : ∀ q ∈ Jg (Try.f120.body.get!) Jta, q.Ok tau Try.prog 0 := Jw (by kernel_rfl)
theorem JzS : Try.prog.funcs[120]? = some Try.f120 := by kernel_rfl
theorem JzT : Try.f120.body = some (Try.f120.body.get!) := by kernel_rfl
theorem JIK : Enters Try.prog 120 := enters_of JzS (by kernel_rfl) JzT
def JmH : Jz
 | [.ro 113 s_z s_f s], [], k => JII 0 s_z s_f s k
 | _, _, _ => none
def JIL : Sig := { own := [], run := JmH }
theorem JIM : Jc tau Try.prog 120 JIL := JO Jn Jxa Jo JzS JzT Jta [.ro] 0 [] JmH (JIJ 0) fun xs es k res hr => by
 unfold JmH at hr
 split at hr
 · exact ⟨rfl, 0, (JNB 0 _ _ _  _).trans hr⟩
 · cases hr
def N84 : Nat := 50
def F84 : Fns := Jt 120 JIL (Jt 107 JBk (Jt 88 Jv2 (Jt 83 JBt (Jt 82 s82 (Jt 81 s81 (Jt 67 s67 (Jt 65 s65 (F0))))))))
theorem Jtb : Jq tau Try.prog F84 := ((((((((Js).add JIC JIB).add JIG JIF).add JF9 JF8).add JGd JGc).add Jy5 JGg).add JrB JA5).add JyZ JyY).add JIM JIK
def JgC : Code := Qf (Try.f84.body.get!) [1, 1, 1, 1, 1, 1, 0, 1, 0, 0]
def Zn : Nm := [(4, .any), (5, .any), (6, .any), (7, .any), (9, .own), (25, .any), (26, .any)]
def Vo : Nm := [(4, .any), (9, .any)]
def Jj2 : An := (.seq .leaf (.seq (.cond .leaf .leaf) (.seq (.block none .leaf) .leaf)))
def Jxb (r0 : Qw) : An := (.seq .leaf (.seq .leaf (.seq .leaf (.seq .leaf (.seq (.seq .leaf (.cond (.seq .leaf .leaf) .leaf)) (.seq .leaf (.seq (.seq .leaf (.block none (.sum Zn N84 r0))) (.seq .leaf (.seq (.seq .leaf (.cond .leaf .leaf)) (.seq (.seq .leaf (.cond (.seq .leaf .leaf) .leaf)) (.seq .leaf .leaf)))))))))))
def Jbf (f : Nat) (rc : Nat -> Int -> Int -> Bool -> Bool -> List PV -> Int -> Bool -> List PV -> OR) (k0 : Nat -> Bool -> Bool -> List PV -> Int -> Bool -> List PV -> OR) (v0 : Nat) (v1 v2 : Int) (v3 v4 : Bool) (v5 : List PV) (v6 : Int) (v7 : Bool) (v8 : List PV) : OR := bif decide (v2 < v1) then bif (!v3 || v4) && true && byB v5 then bif (!v3 || v4) && true && byB (Jb 1 (RS.mk v5 v6)).b then bif (!v3 || v4) && byB (Jb 8 (Jb 1 (RS.mk v5 v6))).b then bif Je (v0 + 1) 32 && true then rc (v0 + 1) v1 (IntKind.i64.wrap (v2 + 1)) v3 v4 ((Qd (Jb 8 (Jb 1 (RS.mk v5 v6)))).b) ((Qd (Jb 8 (Jb 1 (RS.mk v5 v6)))).e) (v7 && false) (List.take v0 v8 ++ [.st 113 [.sc (.int .i64 (JA 1 (RS.mk v5 v6))), .sc (.int .i64 (JA 8 (Jb 1 (RS.mk v5 v6)))), .sc (.string (JT (Jb 8 (Jb 1 (RS.mk v5 v6)))))]]) else none else none else none else none else k0 v0 v3 v4 v5 v6 v7 v8
def YD (f : Nat) (k0 : Nat -> Bool -> Bool -> List PV -> Int -> Bool -> List PV -> OR) : Nat -> Nat -> Int -> Int -> Bool -> Bool -> List PV -> Int -> Bool -> List PV -> OR
 | 0, _, _, _, _, _, _, _, _, _ => none
 | n + 1, v0, v1, v2, v3, v4, v5, v6, v7, v8 => Jbf f (YD f k0 n) k0 v0 v1 v2 v3 v4 v5 v6 v7 v8
theorem Jxc (f : Nat) (k : Kont) (n v0 : Nat) (v1 v2 : Int) (v3 v4 : Bool) (v5 : List PV) (v6 : Int) (v7 : Bool) (v8 : List PV) : Jy tau 0 Zn (fun s k => ev tau F84 0 0 JgC (Jj2 ) s k) (n + 1) (Jj Zn N84 [.ptr 816 [], PV.fn (Fn.func 82) [.ptr 816 []] [], PV.fn (Fn.func 81) [.ptr 816 []] [], PV.fn (Fn.func 83) [.ptr 816 []] [], .ow 113 817 [] 0 v0 none, .sc (.int .i64 v1), .sc (.int .i64 v2)] [(816, .box false 166 (PV.st 166 [.ro 5 v3 v4 v5, .sc (.int .i64 v6)])), (817, .vec false 113 v7 v8)]) (JG tau 0 Vo k) = Jbf f (fun v0 v1 v2 v3 v4 v5 v6 v7 v8 => Jy tau 0 Zn (fun s k => ev tau F84 0 0 JgC (Jj2 ) s k) n (Jj Zn N84 [.ptr 816 [], PV.fn (Fn.func 82) [.ptr 816 []] [], PV.fn (Fn.func 81) [.ptr 816 []] [], PV.fn (Fn.func 83) [.ptr 816 []] [], .ow 113 817 [] 0 v0 none, .sc (.int .i64 v1), .sc (.int .i64 v2)] [(816, .box false 166 (PV.st 166 [.ro 5 v3 v4 v5, .sc (.int .i64 v6)])), (817, .vec false 113 v7 v8)]) (JG tau 0 Vo k)) (fun x0 x1 x2 x3 x4 x5 x6 => k (Ex.exit 0) (Jj Vo N84 [.ptr 816 [], .ow 113 817 [] 0 x0 none] [(816, .box false 166 (PV.st 166 [.ro 5 x1 x2 x3, .sc (.int .i64 x4)])), (817, .vec false 113 x5 x6)])) v0 v1 v2 v3 v4 v5 v6 v7 v8 := by kernel_rfl
theorem Jo1 (f : Nat) (k : Kont) : ∀ (n v0 : Nat) (v1 v2 : Int) (v3 v4 : Bool) (v5 : List PV) (v6 : Int) (v7 : Bool) (v8 : List PV), Jy tau 0 Zn (fun s k => ev tau F84 0 0 JgC (Jj2 ) s k) n (Jj Zn N84 [.ptr 816 [], PV.fn (Fn.func 82) [.ptr 816 []] [], PV.fn (Fn.func 81) [.ptr 816 []] [], PV.fn (Fn.func 83) [.ptr 816 []] [], .ow 113 817 [] 0 v0 none, .sc (.int .i64 v1), .sc (.int .i64 v2)] [(816, .box false 166 (PV.st 166 [.ro 5 v3 v4 v5, .sc (.int .i64 v6)])), (817, .vec false 113 v7 v8)]) (JG tau 0 Vo k) = YD f (fun x0 x1 x2 x3 x4 x5 x6 => k (Ex.exit 0) (Jj Vo N84 [.ptr 816 [], .ow 113 817 [] 0 x0 none] [(816, .box false 166 (PV.st 166 [.ro 5 x1 x2 x3, .sc (.int .i64 x4)])), (817, .vec false 113 x5 x6)])) n v0 v1 v2 v3 v4 v5 v6 v7 v8 | 0, _, _, _, _, _, _, _, _, _ => rfl | n + 1, v0, v1, v2, v3, v4, v5, v6, v7, v8 => (Jxc f k n v0 v1 v2 v3 v4 v5 v6 v7 v8).trans (congrArg (fun r => Jbf f r (fun x0 x1 x2 x3 x4 x5 x6 => k (Ex.exit 0) (Jj Vo N84 [.ptr 816 [], .ow 113 817 [] 0 x0 none] [(816, .box false 166 (PV.st 166 [.ro 5 x1 x2 x3, .sc (.int .i64 x4)])), (817, .vec false 113 x5 x6)])) v0 v1 v2 v3 v4 v5 v6 v7 v8) (by funext v0 v1 v2 v3 v4 v5 v6 v7 v8; exact Jo1 f k n v0 v1 v2 v3 v4 v5 v6 v7 v8))
def JeY (f : Nat) : List PV -> List (Nat × Ent) -> Kont -> OR
 | [.ptr 816 [], PV.fn (Fn.func 82) [.ptr 816 []] [], PV.fn (Fn.func 81) [.ptr 816 []] [], PV.fn (Fn.func 83) [.ptr 816 []] [], .ow 113 817 [] 0 v0 none, .sc (.int .i64 v1),
 PV.sc
  (Value.int IntKind.i64
   v2)], [(816, .box false 166 (PV.st 166 [.ro 5 v3 v4 v5, .sc (.int .i64 v6)])),
 (817,
  Ent.vec false 113 v7
   v8)], k => YD f (fun x0 x1 x2 x3 x4 x5 x6 => k (Ex.exit
 0) (Jj Vo N84 [.ptr 816 [],
 PV.ow 113 817 [] 0 x0 none] [(816, .box false 166 (PV.st 166 [.ro 5 x1 x2 x3, .sc (.int .i64 x4)])), (817, .vec false 113 x5 x6)])) f v0 v1 v2 v3 v4 v5 v6 v7 v8
 | _, _, _ => none
theorem JC9 (f : Nat) : Jg JgC Jj2 = [] := by kernel_rfl
theorem JDa (f : Nat) : (Item.l JgC Zn N84 (JeY f)).Ok tau Try.prog 0 := Ju Jn Jtb Jo (x := Jj2) (nm2 := Vo) (Jk _ _ (by rw [JC9 f]; intro q hq; cases hq)) fun vs hp k res hr => by
 unfold JeY at hr
 split at hr
 · exact ⟨f, 0, (Jo1 f _ f _ _ _ _ _ _ _ _ _ ).trans hr⟩
 · cases hr
abbrev W7 := (Res.mk (PV.tup [PV.ro 113 true true [], PV.sc (.int .i64 0)]) [] [])
abbrev Jic := (Res.mk (PV.tup [PV.ro 113 true true [], PV.sc (.int .i64 9)]) [] [])
def g84 (f : Nat) (b_z b_f : Bool) (b : List PV) (k : KR) : OR := bif slB b_z b then bif (!b_z || b_z) && true && byB b then bif decide (JA 1 (RS.mk b 0) > 40) then bif (Jb 1 (RS.mk b 0)).e == 0 then YD f (fun x0_0 _ _ x3_0 x4_0 Q6 x6_0 => bif x4_0 == 0 then bif decide (zi x3_0.length > 0) then k Jic else bif x4_0 == 0 then bif cOk (List.take x0_0 x6_0) then bif ckO (List.take x0_0 x6_0) != 0 then k (Res.mk (.tup [.ro 113 true true [], .sc (.int .i64 (ckO (List.take x0_0 x6_0)))]) [] []) else bif (Ent.vec false 113 Q6 x6_0).nil then k W7 else bif Je (0 + (List.take x0_0 x6_0).length) 32 && true then k (Res.mk (.tup [.ro 113 false false (List.take (0 + (List.take x0_0 x6_0).length) (List.take x0_0 x6_0)), .sc (.int .i64 0)]) [] []) else none else none else bif x4_0 != 0 then k (Res.mk (.tup [.ro 113 true true [], .sc (.int .i64 x4_0)]) [] []) else bif (Ent.vec false 113 Q6 x6_0).nil then k W7 else bif Je (0 + (List.take x0_0 x6_0).length) 32 && true then k (Res.mk (.tup [.ro 113 false false (List.take (0 + (List.take x0_0 x6_0).length) (List.take x0_0 x6_0)), .sc (.int .i64 0)]) [] []) else none else bif x4_0 == 0 then bif cOk (List.take x0_0 x6_0) then bif ckO (List.take x0_0 x6_0) != 0 then k (Res.mk (.tup [.ro 113 true true [], .sc (.int .i64 (ckO (List.take x0_0 x6_0)))]) [] []) else bif (Ent.vec false 113 Q6 x6_0).nil then k W7 else bif Je (0 + (List.take x0_0 x6_0).length) 32 && true then k (Res.mk (.tup [.ro 113 false false (List.take (0 + (List.take x0_0 x6_0).length) (List.take x0_0 x6_0)), .sc (.int .i64 0)]) [] []) else none else none else bif x4_0 != 0 then k (Res.mk (.tup [.ro 113 true true [], .sc (.int .i64 x4_0)]) [] []) else bif (Ent.vec false 113 Q6 x6_0).nil then k W7 else bif Je (0 + (List.take x0_0 x6_0).length) 32 && true then k (Res.mk (.tup [.ro 113 false false (List.take (0 + (List.take x0_0 x6_0).length) (List.take x0_0 x6_0)), .sc (.int .i64 0)]) [] []) else none) f (0) (0) (0) b_z b_z ((Jb 1 (RS.mk b 0)).b) (4) true ([]) else YD f (fun x0_1 _ _ x3_1 x4_1 Yd x6_1 => bif x4_1 == 0 then bif decide (zi x3_1.length > 0) then k Jic else bif x4_1 == 0 then bif cOk (List.take x0_1 x6_1) then bif ckO (List.take x0_1 x6_1) != 0 then k (Res.mk (.tup [.ro 113 true true [], .sc (.int .i64 (ckO (List.take x0_1 x6_1)))]) [] []) else bif (Ent.vec false 113 Yd x6_1).nil then k W7 else bif Je (0 + (List.take x0_1 x6_1).length) 32 && true then k (Res.mk (.tup [.ro 113 false false (List.take (0 + (List.take x0_1 x6_1).length) (List.take x0_1 x6_1)), .sc (.int .i64 0)]) [] []) else none else none else bif x4_1 != 0 then k (Res.mk (.tup [.ro 113 true true [], .sc (.int .i64 x4_1)]) [] []) else bif (Ent.vec false 113 Yd x6_1).nil then k W7 else bif Je (0 + (List.take x0_1 x6_1).length) 32 && true then k (Res.mk (.tup [.ro 113 false false (List.take (0 + (List.take x0_1 x6_1).length) (List.take x0_1 x6_1)), .sc (.int .i64 0)]) [] []) else none else bif x4_1 == 0 then bif cOk (List.take x0_1 x6_1) then bif ckO (List.take x0_1 x6_1) != 0 then k (Res.mk (.tup [.ro 113 true true [], .sc (.int .i64 (ckO (List.take x0_1 x6_1)))]) [] []) else bif (Ent.vec false 113 Yd x6_1).nil then k W7 else bif Je (0 + (List.take x0_1 x6_1).length) 32 && true then k (Res.mk (.tup [.ro 113 false false (List.take (0 + (List.take x0_1 x6_1).length) (List.take x0_1 x6_1)), .sc (.int .i64 0)]) [] []) else none else none else bif x4_1 != 0 then k (Res.mk (.tup [.ro 113 true true [], .sc (.int .i64 x4_1)]) [] []) else bif (Ent.vec false 113 Yd x6_1).nil then k W7 else bif Je (0 + (List.take x0_1 x6_1).length) 32 && true then k (Res.mk (.tup [.ro 113 false false (List.take (0 + (List.take x0_1 x6_1).length) (List.take x0_1 x6_1)), .sc (.int .i64 0)]) [] []) else none) f (0) (0) (0) b_z b_z ((Jb 1 (RS.mk b 0)).b) ((Jb 1 (RS.mk b 0)).e) true ([]) else YD f (fun x0_2 _ _ x3_2 x4_2 x5_2 x6_2 => bif x4_2 == 0 then bif decide (zi x3_2.length > 0) then k Jic else bif x4_2 == 0 then bif cOk (List.take x0_2 x6_2) then bif ckO (List.take x0_2 x6_2) != 0 then k (Res.mk (.tup [.ro 113 true true [], .sc (.int .i64 (ckO (List.take x0_2 x6_2)))]) [] []) else bif (Ent.vec false 113 x5_2 x6_2).nil then k W7 else bif Je (0 + (List.take x0_2 x6_2).length) 32 && true then k (Res.mk (.tup [.ro 113 false false (List.take (0 + (List.take x0_2 x6_2).length) (List.take x0_2 x6_2)), .sc (.int .i64 0)]) [] []) else none else none else bif x4_2 != 0 then k (Res.mk (.tup [.ro 113 true true [], .sc (.int .i64 x4_2)]) [] []) else bif (Ent.vec false 113 x5_2 x6_2).nil then k W7 else bif Je (0 + (List.take x0_2 x6_2).length) 32 && true then k (Res.mk (.tup [.ro 113 false false (List.take (0 + (List.take x0_2 x6_2).length) (List.take x0_2 x6_2)), .sc (.int .i64 0)]) [] []) else none else bif x4_2 == 0 then bif cOk (List.take x0_2 x6_2) then bif ckO (List.take x0_2 x6_2) != 0 then k (Res.mk (.tup [.ro 113 true true [], .sc (.int .i64 (ckO (List.take x0_2 x6_2)))]) [] []) else bif (Ent.vec false 113 x5_2 x6_2).nil then k W7 else bif Je (0 + (List.take x0_2 x6_2).length) 32 && true then k (Res.mk (.tup [.ro 113 false false (List.take (0 + (List.take x0_2 x6_2).length) (List.take x0_2 x6_2)), .sc (.int .i64 0)]) [] []) else none else none else bif x4_2 != 0 then k (Res.mk (.tup [.ro 113 true true [], .sc (.int .i64 x4_2)]) [] []) else bif (Ent.vec false 113 x5_2 x6_2).nil then k W7 else bif Je (0 + (List.take x0_2 x6_2).length) 32 && true then k (Res.mk (.tup [.ro 113 false false (List.take (0 + (List.take x0_2 x6_2).length) (List.take x0_2 x6_2)), .sc (.int .i64 0)]) [] []) else none) f (0) (JA 1 (RS.mk b 0)) (0) b_z b_z ((Jb 1 (RS.mk b 0)).b) ((Jb 1 (RS.mk b 0)).e) true ([]) else none else none
theorem e84 (f : Nat) (b_z b_f : Bool) (b : List PV) (k : KR) : JJ tau F84 Try.f84 (Try.f84.body.get!) (Jxb (JeY f)) [.ro, .ro] 0 [.ro 5 b_z b_f b] [] k = g84 f b_z b_f b k := by kernel_rfl
theorem JNC (f : Nat) : Jg (Try.f84.body.get!) (Jxb (JeY f)) = [.l JgC Zn N84 (JeY f)] := by kernel_rfl
theorem JND (f : Nat) : ∀ q ∈ Jg (Try.f84.body.get!) (Jxb (JeY f)), q.Ok tau Try.prog 0 := by rw [JNC f]; exact JL (JDa f) (fun _ h => nomatch h)
theorem JIN : Try.prog.funcs[84]? = some Try.f84 := by kernel_rfl
theorem JIO : Try.f84.body = some (Try.f84.body.get!) := by kernel_rfl
theorem JNE : Enters Try.prog 84 := enters_of JIN (by kernel_rfl) JIO
def F42 : Fns := F0
theorem JDb : Jq tau Try.prog F42 := Js
def JDc : An := (.seq .leaf (.seq .leaf .leaf))
def g42 (f : Nat) (b_z b_f : Bool) (b : List PV) (k : KR) : OR := k (Res.mk (.ptr 16 []) [] [.box false 135 (PV.st 135 [.ro 5 b_z b_f b, .sc (.int .i64 0), .sc (.int .i64 0)])])
theorem e42 (f : Nat) (b_z b_f : Bool) (b : List PV) (k : KR) : JJ tau F42 Try.f42 (Try.f42.body.get!) JDc [.any] 0 [.ro 5 b_z b_f b] [] k = g42 f b_z b_f b k := by kernel_rfl
theorem JNF (f : Nat) : ∀ q ∈ Jg (Try.f42.body.get!) JDc, q.Ok tau Try.prog 0 := Jw (by kernel_rfl)
theorem JIP : Try.prog.funcs[42]? = some Try.f42 := by kernel_rfl
theorem JIQ : Try.f42.body = some (Try.f42.body.get!) := by kernel_rfl
theorem JIR : Enters Try.prog 42 := enters_of JIP (by kernel_rfl) JIQ
def Jtc : Jz
 | [.ro 5 b_z b_f b], [], k => g42 0 b_z b_f b k
 | _, _, _ => none
def s42 : Sig := { own := [], run := Jtc }
theorem JIS : Jc tau Try.prog 42 s42 := JO Jn JDb Jo JIP JIQ JDc [.any] 0 [] Jtc (JNF 0) fun xs es k res hr => by
 unfold Jtc at hr
 split at hr
 · exact ⟨rfl, 0, (e42 0 _ _ _  _).trans hr⟩
 · cases hr
def F48 : Fns := F0
theorem JDd : Jq tau Try.prog F48 := Js
def JDe : An := (.seq .leaf (.seq (.seq .leaf (.cond (.seq .leaf .leaf) .leaf)) (.seq .leaf .leaf)))
def g48 (f : Nat) (y0 y1 : Bool) (r_B : List PV) (r_P y2 : Int) (k : KR) : OR := bif y2 == 0 then bif decide (r_P < zi r_B.length) then k (Res.mk (.sc (.int .i64 9)) [.box false 135 (PV.st 135 [.ro 5 y0 y1 r_B, .sc (.int .i64 r_P), .sc (.int .i64 y2)])] []) else k (Res.mk (.sc (.int .i64 y2)) [.box false 135 (PV.st 135 [.ro 5 y0 y1 r_B, .sc (.int .i64 r_P), .sc (.int .i64 y2)])] []) else k (Res.mk (.sc (.int .i64 y2)) [.box false 135 (PV.st 135 [.ro 5 y0 y1 r_B, .sc (.int .i64 r_P), .sc (.int .i64 y2)])] [])
theorem e48 (f : Nat) (y0 y1 : Bool) (r_B : List PV) (r_P y2 : Int) (k : KR) : JJ tau F48 Try.f48 (Try.f48.body.get!) JDe [.ro] 0 [.ptr 0 []] [.box false 135 (.st 135 [.ro 5 y0 y1 r_B, .sc (.int .i64 r_P), .sc (.int .i64 y2)])] k = g48 f y0 y1 r_B r_P y2 k := by kernel_rfl
theorem JNG (f : Nat) : ∀ q ∈ Jg (Try.f48.body.get!) JDe, q.Ok tau Try.prog 1 := Jw (by kernel_rfl)
theorem JIT : Try.prog.funcs[48]? = some Try.f48 := by kernel_rfl
theorem JIU : Try.f48.body = some (Try.f48.body.get!) := by kernel_rfl
theorem JIV : Enters Try.prog 48 := enters_of JIT (by kernel_rfl) JIU
def Jtd : Jz
 | [.ptr 0 []], [.box false 135 (.st 135 [.ro 5 y0 y1 r_B, .sc (.int .i64 r_P), .sc (.int .i64 y2)])], k => g48 0 y0 y1 r_B r_P y2 k
 | _, _, _ => none
def s48 : Sig := { own := [], run := Jtd }
theorem JIW : Jc tau Try.prog 48 s48 := JO Jn JDd Jo JIT JIU JDe [.ro] 1 [] Jtd (JNG 0) fun xs es k res hr => by
 unfold Jtd at hr
 split at hr
 · exact ⟨rfl, 0, (e48 0 _ _ _ _ _  _).trans hr⟩
 · cases hr
def F71 : Fns := F0
theorem JDf : Jq tau Try.prog F71 := Js
def JDg : An := (.seq .leaf (.cond .leaf .leaf))
def g71 (f : Nat) (y0 y1 : Bool) (r_B : List PV) (r_P y2 e : Int) (k : KR) : OR := bif y2 == 0 then k (Res.mk (.tup []) [.box false 135 (PV.st 135 [.ro 5 y0 y1 r_B, .sc (.int .i64 r_P), .sc (.int .i64 e)])] []) else k (Res.mk (.tup []) [.box false 135 (PV.st 135 [.ro 5 y0 y1 r_B, .sc (.int .i64 r_P), .sc (.int .i64 y2)])] [])
theorem e71 (f : Nat) (y0 y1 : Bool) (r_B : List PV) (r_P y2 e : Int) (k : KR) : JJ tau F71 Try.f71 (Try.f71.body.get!) JDg [] 0 [.ptr 0 [], .sc (.int .i64 e)] [.box false 135 (.st 135 [.ro 5 y0 y1 r_B, .sc (.int .i64 r_P), .sc (.int .i64 y2)])] k = g71 f y0 y1 r_B r_P y2 e k := by kernel_rfl
theorem JNH (f : Nat) : ∀ q ∈ Jg (Try.f71.body.get!) JDg, q.Ok tau Try.prog 1 := Jw (by kernel_rfl)
theorem JIX : Try.prog.funcs[71]? = some Try.f71 := by kernel_rfl
theorem JIY : Try.f71.body = some (Try.f71.body.get!) := by kernel_rfl
theorem JNI : Enters Try.prog 71 := enters_of JIX (by kernel_rfl) JIY
def Jte : Jz
 | [.ptr 0 [], .sc (.int .i64 e)], [.box false 135 (.st 135 [.ro 5 y0 y1 r_B, .sc (.int .i64 r_P), .sc (.int .i64 y2)])], k => g71 0 y0 y1 r_B r_P y2 e k
 | _, _, _ => none
def s71 : Sig := { own := [], run := Jte }
theorem JNJ : Jc tau Try.prog 71 s71 := JO Jn JDf Jo JIX JIY JDg [] 1 [] Jte (JNH 0) fun xs es k res hr => by
 unfold Jte at hr
 split at hr
 · exact ⟨rfl, 0, (e71 0 _ _ _ _ _ _  _).trans hr⟩
 · cases hr
def N49 : Nat := 53
def F49 : Fns := Jt 71 s71 (Jt 59 Jv3 (Jt 48 s48 (Jt 47 JBI (Jt 46 Jwk (Jt 44 Jwi (Jt 42 s42 (F0)))))))
theorem Jtf : Jq tau Try.prog F49 := (((((((Js).add JIS JIR).add Jr5 JBC).add Jr6 JBF).add Jy7 JGt).add JIW JIV).add JrC JA8).add JNJ JNI
def Jo2 : Code := Qf (Try.f49.body.get!) [1, 1, 1, 1, 1, 0, 1, 0, 0]
def JeZ : Nm := [(4, .any), (5, .any), (6, .own), (7, .any)]
def JmI : Nm := [(4, .any), (6, .any)]
def Jtg : An := (.seq (.seq .leaf (.cond .leaf .leaf)) (.seq (.block none (.seq .leaf (.seq .leaf (.seq .leaf .leaf)))) .leaf))
def Jxd (r0 : Qw) : An := (.seq .leaf (.seq .leaf (.seq .leaf (.seq (.seq .leaf (.cond .leaf .leaf)) (.seq .leaf (.seq (.seq .leaf (.block none (.sum JeZ N49 r0))) (.seq .leaf (.seq (.seq .leaf (.cond .leaf .leaf)) (.seq (.seq .leaf (.cond (.seq .leaf .leaf) .leaf)) (.seq .leaf .leaf))))))))))
abbrev Jth := Int -> Nat -> Int -> Bool -> Bool -> List PV -> Int -> Int -> Bool -> List PV -> OR
def VT (f : Nat) (rc : Jth) (k0 : Nat -> Bool -> Bool -> List PV -> Int -> Int -> Bool -> List PV -> OR) (v0 : Int) (v1 : Nat) (v2 : Int) (v3 v4 : Bool) (v5 : List PV) (v6 v7 : Int) (v8 : Bool) (v9 : List PV) : OR := bif decide (v2 < v0) then bif v7 == 0 then bif okT (RT.mk v5 v6 v7) then bif okT (Jh 1 (RT.mk v5 v6 v7)) then bif okT (Jh 8 (Jh 1 (RT.mk v5 v6 v7))) then bif Je (v1 + 1) 32 && true then rc v0 (v1 + 1) (IntKind.i64.wrap (v2 + 1)) v3 v4 ((QX (Jh 8 (Jh 1 (RT.mk v5 v6 v7)))).B) ((QX (Jh 8 (Jh 1 (RT.mk v5 v6 v7)))).P) ((QX (Jh 8 (Jh 1 (RT.mk v5 v6 v7)))).e) (v8 && false) (List.take v1 v9 ++ [.st 113 [.sc (.int .i64 (Ql 1 (RT.mk v5 v6 v7))), .sc (.int .i64 (Ql 8 (Jh 1 (RT.mk v5 v6 v7)))), .sc (.string (XY (Jh 8 (Jh 1 (RT.mk v5 v6 v7)))))]]) else none else none else none else none else k0 v1 v3 v4 v5 v6 v7 v8 v9 else k0 v1 v3 v4 v5 v6 v7 v8 v9
def X4 (f : Nat) (k0 : Nat -> Bool -> Bool -> List PV -> Int -> Int -> Bool -> List PV -> OR) : Nat -> Jth
 | 0 => fun _ _ _ _ _ _ _ _ _ _ => none
 | n + 1 => VT f (X4 f k0 n) k0
def Jbg (k : Kont) := fun x0 x1 x2 x3 x4 x5 x6 x7 => k (Ex.exit 0) (Jj JmI N49 [.ptr 864 [], .ow 113 865 [] 0 x0 none] [(864, .box false 135 (PV.st 135 [.ro 5 x1 x2 x3, .sc (.int .i64 x4), .sc (.int .i64 x5)])), (865, .vec false 113 x6 x7)])
def JmJ (f : Nat) (k : Kont) (n : Nat) (v0 : Int) (v1 : Nat) (v2 : Int) (v3 v4 : Bool) (v5 : List PV) (v6 v7 : Int) (v8 : Bool) (v9 : List PV) : OR := Jy tau 0 JeZ (fun s k => ev tau F49 0 0 Jo2 (Jtg ) s k) n (Jj JeZ N49 [.ptr 864 [], .sc (.int .i64 v0), .ow 113 865 [] 0 v1 none, .sc (.int .i64 v2)] [(864, .box false 135 (PV.st 135 [.ro 5 v3 v4 v5, .sc (.int .i64 v6), .sc (.int .i64 v7)])), (865, .vec false 113 v8 v9)]) (JG tau 0 JmI k)
theorem Jxe (f : Nat) (k : Kont) (n : Nat) : JmJ f k (n + 1) = VT f (JmJ f k n) (Jbg k) := by kernel_rfl
theorem Jo3 (f : Nat) (k : Kont) : ∀ n, JmJ f k n = X4 f (Jbg k) n
 | 0 => rfl
 | n + 1 => (Jxe f k n).trans (congrArg (fun r => VT f r (Jbg k)) (Jo3 f k n))
def Je0 (f : Nat) : List PV -> List (Nat × Ent) -> Kont -> OR
 | [.ptr 864 [], .sc (.int .i64 v0), .ow 113 865 [] 0 v1 none,
 PV.sc
  (Value.int IntKind.i64
   v2)], [(864, .box false 135 (PV.st 135 [.ro 5 v3 v4 v5, .sc (.int .i64 v6), .sc (.int .i64 v7)])),
 (865,
  Ent.vec false 113 v8
   v9)], k => X4 f (Jbg k) f v0 v1 v2 v3 v4 v5 v6 v7 v8 v9
 | _, _, _ => none
theorem JDh (f : Nat) : Jg Jo2 Jtg = [] := by kernel_rfl
theorem JDi (f : Nat) : (Item.l Jo2 JeZ N49 (Je0 f)).Ok tau Try.prog 0 := Ju Jn Jtf Jo (x := Jtg) (nm2 := JmI) (Jk _ _ (by rw [JDh f]; intro q hq; cases hq)) fun vs hp k res hr => by
 unfold Je0 at hr
 split at hr
 · rw [← Jo3 f] at hr; exact ⟨f, 0, hr⟩
 · cases hr
abbrev Jid := (Res.mk (PV.tup [PV.ro 113 true true [], PV.sc (.int .i64 9)]) [] [])
def g49 (f : Nat) (b_z b_f : Bool) (b : List PV) (k : KR) : OR := bif okT (RT.mk b 0 0) then bif decide (Ql 1 (RT.mk b 0 0) > 40) then bif (Jh 1 (RT.mk b 0 0)).e == 0 then X4 f (fun x0_0 _ _ x3_0 x4_0 Q6 x6_0 x7_0 => bif Q6 == 0 then bif decide (x4_0 < zi x3_0.length) then k Jid else bif Q6 == 0 then bif cOk (List.take x0_0 x7_0) then bif ckO (List.take x0_0 x7_0) != 0 then k (Res.mk (.tup [.ro 113 true true [], .sc (.int .i64 (ckO (List.take x0_0 x7_0)))]) [] []) else k (Res.mk (.tup [.ro 113 (Ent.vec false 113 x6_0 x7_0).nil false (List.take x0_0 x7_0), .sc (.int .i64 0)]) [] []) else none else bif Q6 != 0 then k (Res.mk (.tup [.ro 113 true true [], .sc (.int .i64 Q6)]) [] []) else k (Res.mk (.tup [.ro 113 (Ent.vec false 113 x6_0 x7_0).nil false (List.take x0_0 x7_0), .sc (.int .i64 0)]) [] []) else bif Q6 == 0 then bif cOk (List.take x0_0 x7_0) then bif ckO (List.take x0_0 x7_0) != 0 then k (Res.mk (.tup [.ro 113 true true [], .sc (.int .i64 (ckO (List.take x0_0 x7_0)))]) [] []) else k (Res.mk (.tup [.ro 113 (Ent.vec false 113 x6_0 x7_0).nil false (List.take x0_0 x7_0), .sc (.int .i64 0)]) [] []) else none else bif Q6 != 0 then k (Res.mk (.tup [.ro 113 true true [], .sc (.int .i64 Q6)]) [] []) else k (Res.mk (.tup [.ro 113 (Ent.vec false 113 x6_0 x7_0).nil false (List.take x0_0 x7_0), .sc (.int .i64 0)]) [] [])) f (Ql 1 (RT.mk b 0 0)) (0) (0) b_z b_f ((Jh 1 (RT.mk b 0 0)).B) ((Jh 1 (RT.mk b 0 0)).P) (4) true ([]) else X4 f (fun x0_1 _ _ x3_1 x4_1 Yd x6_1 x7_1 => bif Yd == 0 then bif decide (x4_1 < zi x3_1.length) then k Jid else bif Yd == 0 then bif cOk (List.take x0_1 x7_1) then bif ckO (List.take x0_1 x7_1) != 0 then k (Res.mk (.tup [.ro 113 true true [], .sc (.int .i64 (ckO (List.take x0_1 x7_1)))]) [] []) else k (Res.mk (.tup [.ro 113 (Ent.vec false 113 x6_1 x7_1).nil false (List.take x0_1 x7_1), .sc (.int .i64 0)]) [] []) else none else bif Yd != 0 then k (Res.mk (.tup [.ro 113 true true [], .sc (.int .i64 Yd)]) [] []) else k (Res.mk (.tup [.ro 113 (Ent.vec false 113 x6_1 x7_1).nil false (List.take x0_1 x7_1), .sc (.int .i64 0)]) [] []) else bif Yd == 0 then bif cOk (List.take x0_1 x7_1) then bif ckO (List.take x0_1 x7_1) != 0 then k (Res.mk (.tup [.ro 113 true true [], .sc (.int .i64 (ckO (List.take x0_1 x7_1)))]) [] []) else k (Res.mk (.tup [.ro 113 (Ent.vec false 113 x6_1 x7_1).nil false (List.take x0_1 x7_1), .sc (.int .i64 0)]) [] []) else none else bif Yd != 0 then k (Res.mk (.tup [.ro 113 true true [], .sc (.int .i64 Yd)]) [] []) else k (Res.mk (.tup [.ro 113 (Ent.vec false 113 x6_1 x7_1).nil false (List.take x0_1 x7_1), .sc (.int .i64 0)]) [] [])) f (Ql 1 (RT.mk b 0 0)) (0) (0) b_z b_f ((Jh 1 (RT.mk b 0 0)).B) ((Jh 1 (RT.mk b 0 0)).P) ((Jh 1 (RT.mk b 0 0)).e) true ([]) else X4 f (fun x0_2 _ _ x3_2 x4_2 x5_2 x6_2 x7_2 => bif x5_2 == 0 then bif decide (x4_2 < zi x3_2.length) then k Jid else bif x5_2 == 0 then bif cOk (List.take x0_2 x7_2) then bif ckO (List.take x0_2 x7_2) != 0 then k (Res.mk (.tup [.ro 113 true true [], .sc (.int .i64 (ckO (List.take x0_2 x7_2)))]) [] []) else k (Res.mk (.tup [.ro 113 (Ent.vec false 113 x6_2 x7_2).nil false (List.take x0_2 x7_2), .sc (.int .i64 0)]) [] []) else none else bif x5_2 != 0 then k (Res.mk (.tup [.ro 113 true true [], .sc (.int .i64 x5_2)]) [] []) else k (Res.mk (.tup [.ro 113 (Ent.vec false 113 x6_2 x7_2).nil false (List.take x0_2 x7_2), .sc (.int .i64 0)]) [] []) else bif x5_2 == 0 then bif cOk (List.take x0_2 x7_2) then bif ckO (List.take x0_2 x7_2) != 0 then k (Res.mk (.tup [.ro 113 true true [], .sc (.int .i64 (ckO (List.take x0_2 x7_2)))]) [] []) else k (Res.mk (.tup [.ro 113 (Ent.vec false 113 x6_2 x7_2).nil false (List.take x0_2 x7_2), .sc (.int .i64 0)]) [] []) else none else bif x5_2 != 0 then k (Res.mk (.tup [.ro 113 true true [], .sc (.int .i64 x5_2)]) [] []) else k (Res.mk (.tup [.ro 113 (Ent.vec false 113 x6_2 x7_2).nil false (List.take x0_2 x7_2), .sc (.int .i64 0)]) [] [])) f (Ql 1 (RT.mk b 0 0)) (0) (0) b_z b_f ((Jh 1 (RT.mk b 0 0)).B) ((Jh 1 (RT.mk b 0 0)).P) ((Jh 1 (RT.mk b 0 0)).e) true ([]) else none
theorem e49 (f : Nat) (b_z b_f : Bool) (b : List PV) (k : KR) : JJ tau F49 Try.f49 (Try.f49.body.get!) (Jxd (Je0 f)) [.ro, .ro] 0 [.ro 5 b_z b_f b] [] k = g49 f b_z b_f b k := by kernel_rfl
theorem JNK (f : Nat) : Jg (Try.f49.body.get!) (Jxd (Je0 f)) = [.l Jo2 JeZ N49 (Je0 f)] := by kernel_rfl
theorem JNL (f : Nat) : ∀ q ∈ Jg (Try.f49.body.get!) (Jxd (Je0 f)), q.Ok tau Try.prog 0 := by rw [JNK f]; exact JL (JDi f) (fun _ h => nomatch h)
theorem JIZ : Try.prog.funcs[49]? = some Try.f49 := by kernel_rfl
theorem JI0 : Try.f49.body = some (Try.f49.body.get!) := by kernel_rfl
theorem JNM : Enters Try.prog 49 := enters_of JIZ (by kernel_rfl) JI0
end
end Go.Proofs.Ythpmachmnoljeaa.Rx
