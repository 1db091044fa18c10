/- What the functions of this law compute, and their plain laws. Conditions: none. -/
import Derived.KernelRfl
import Derived.Test.YthpmachmnoljeaaWaveletChainP1
namespace Go.Proofs.Ythpmachmnoljeaa.Rx
noncomputable section
open Go
set_option linter.unusedVariables false
set_option linter.unusedSimpArgs false
set_option maxRecDepth 100000
set_option maxHeartbeats 0
def JyU : Fns := F0
theorem Jsg : Jq tau Try.prog JyU := Jt
def JlK : An := (.seq .leaf (.seq .leaf .leaf))
def Jsh (f : Nat) (nl : Bool) (l : List PV) (m : Nat) (n : Int) (k : KR) : OR := bif Je (m + 1) 1 && true then k (Res.mk (.ow 5 16 [] 0 (m + 1) none) [.dead] [.vec false 5 (nl && false) (List.take m l ++ [.sc (.int .u8 (IntKind.u8.wrap n))])]) else none
theorem JGM (f : Nat) (nl : Bool) (l : List PV) (m : Nat) (n : Int) (k : KR) : JK tau JyU Try.f105 (Try.f105.body.get!) JlK [] 0 [.ow 5 0 [] 0 m none, .sc (.int .i64 n)] [.vec false 5 nl l] k = Jsh f nl l m n k := by kernel_rfl
theorem JBz (f : Nat) : ∀ q ∈ Jg (Try.f105.body.get!) JlK, q.Ok tau Try.prog 1 := Jx (by kernel_rfl)
theorem JBA : Try.prog.funcs[105]? = some Try.f105 := by kernel_rfl
theorem JBB : Try.f105.body = some (Try.f105.body.get!) := by kernel_rfl
def F53 : Fns := F0
theorem JBC : Jq tau Try.prog F53 := Jt
def JBD : Nm := [(0, .own), (1, .any), (5, .any)]
def JGN : An := (.seq (.seq .leaf (.cond .leaf .leaf)) (.seq (.block none .leaf) .leaf))
def JBE : An := (.seq .leaf (.seq (.seq .leaf (.block none (.loop JBD JGN))) (.seq .leaf .leaf)))
abbrev JhC := (IntKind.i64.wrap (IntKind.i64.wrap (IntKind.i64.wrap (0 + 1) + 1) + 1) + 1)
def g53 (f : Nat) (n : Int) (k : KR) : OR := k (Res.mk (.ow 5 16 [] 0 8 none) [] [.vec false 5 false [.sc (.int .u8 (IntKind.u8.wrap (JX IntKind.u64 (IntKind.u64.wrap n) (IntKind.u64.wrap (8 * IntKind.u64.wrap 0))))), .sc (.int .u8 (IntKind.u8.wrap (JX IntKind.u64 (IntKind.u64.wrap n) (IntKind.u64.wrap (8 * IntKind.u64.wrap (IntKind.i64.wrap (0 + 1))))))), .sc (.int .u8 (IntKind.u8.wrap (JX IntKind.u64 (IntKind.u64.wrap n) (IntKind.u64.wrap (8 * IntKind.u64.wrap (IntKind.i64.wrap (IntKind.i64.wrap (0 + 1) + 1))))))), .sc (.int .u8 (IntKind.u8.wrap (JX IntKind.u64 (IntKind.u64.wrap n) (IntKind.u64.wrap (8 * IntKind.u64.wrap (IntKind.i64.wrap (IntKind.i64.wrap (IntKind.i64.wrap (0 + 1) + 1) + 1))))))), .sc (.int .u8 (IntKind.u8.wrap (JX IntKind.u64 (IntKind.u64.wrap n) (IntKind.u64.wrap (8 * IntKind.u64.wrap (IntKind.i64.wrap JhC)))))), .sc (.int .u8 (IntKind.u8.wrap (JX IntKind.u64 (IntKind.u64.wrap n) (IntKind.u64.wrap (8 * IntKind.u64.wrap (IntKind.i64.wrap (IntKind.i64.wrap JhC + 1))))))), .sc (.int .u8 (IntKind.u8.wrap (JX IntKind.u64 (IntKind.u64.wrap n) (IntKind.u64.wrap (8 * IntKind.u64.wrap (IntKind.i64.wrap (IntKind.i64.wrap (IntKind.i64.wrap JhC + 1) + 1))))))), .sc (.int .u8 (IntKind.u8.wrap (JX IntKind.u64 (IntKind.u64.wrap n) (IntKind.u64.wrap (8 * IntKind.u64.wrap (IntKind.i64.wrap (IntKind.i64.wrap (IntKind.i64.wrap (IntKind.i64.wrap JhC + 1) + 1) + 1)))))))]])
theorem e53 (f : Nat) (n : Int) (k : KR) : JK tau F53 Try.f53 (Try.f53.body.get!) JBE [] 12 [.ro 5 true true [], .sc (.int .i64 n)] [] k = g53 f n k := by kernel_rfl
theorem JMl (f : Nat) : ∀ q ∈ Jg (Try.f53.body.get!) JBE, q.Ok tau Try.prog 0 := Jx (by kernel_rfl)
theorem JGO : Try.prog.funcs[53]? = some Try.f53 := by kernel_rfl
theorem JGP : Try.f53.body = some (Try.f53.body.get!) := by kernel_rfl
theorem Jwa : Enters Try.prog 53 := enters_of JGO (by kernel_rfl) JGP
def JGQ : Fns := F0
theorem Jwb : Jq tau Try.prog JGQ := Jt
def Jwc : Nm := [(0, .own), (1, .any), (5, .any)]
def JBF : An := (.seq (.seq .leaf (.cond .leaf .leaf)) (.seq (.block none .leaf) .leaf))
def Jsi : An := (.seq .leaf (.seq (.seq .leaf (.block none (.loop Jwc JBF))) (.seq .leaf .leaf)))
abbrev JaT := (IntKind.i64.wrap (IntKind.i64.wrap (IntKind.i64.wrap (0 + 1) + 1) + 1) + 1)
def JBG (f : Nat) (nl : Bool) (l : List PV) (m : Nat) (n : Int) (k : KR) : OR := bif Je (m + 1) 1 && true then bif Je (m + 1 + 1) 1 && true then bif Je (m + 1 + 1 + 1) 1 && true then bif Je (m + 1 + 1 + 1 + 1) 1 && true then bif Je (m + 1 + 1 + 1 + 1 + 1) 1 && true then bif Je (m + 1 + 1 + 1 + 1 + 1 + 1) 1 && true then bif Je (m + 1 + 1 + 1 + 1 + 1 + 1 + 1) 1 && true then bif Je (m + 1 + 1 + 1 + 1 + 1 + 1 + 1 + 1) 1 && true then k (Res.mk (.ow 5 16 [] 0 (m + 1 + 1 + 1 + 1 + 1 + 1 + 1 + 1) none) [.dead] [.vec false 5 (nl && false && false && false && false && false && false && false && false) (List.take (m + 1 + 1 + 1 + 1 + 1 + 1 + 1) (List.take (m + 1 + 1 + 1 + 1 + 1 + 1) (List.take (m + 1 + 1 + 1 + 1 + 1) (List.take (m + 1 + 1 + 1 + 1) (List.take (m + 1 + 1 + 1) (List.take (m + 1 + 1) (List.take (m + 1) (List.take m l ++ [.sc (.int .u8 (IntKind.u8.wrap (JX IntKind.u64 (IntKind.u64.wrap n) (IntKind.u64.wrap (8 * IntKind.u64.wrap 0)))))]) ++ [.sc (.int .u8 (IntKind.u8.wrap (JX IntKind.u64 (IntKind.u64.wrap n) (IntKind.u64.wrap (8 * IntKind.u64.wrap (IntKind.i64.wrap (0 + 1)))))))]) ++ [.sc (.int .u8 (IntKind.u8.wrap (JX IntKind.u64 (IntKind.u64.wrap n) (IntKind.u64.wrap (8 * IntKind.u64.wrap (IntKind.i64.wrap (IntKind.i64.wrap (0 + 1) + 1)))))))]) ++ [.sc (.int .u8 (IntKind.u8.wrap (JX IntKind.u64 (IntKind.u64.wrap n) (IntKind.u64.wrap (8 * IntKind.u64.wrap (IntKind.i64.wrap (IntKind.i64.wrap (IntKind.i64.wrap (0 + 1) + 1) + 1)))))))]) ++ [.sc (.int .u8 (IntKind.u8.wrap (JX IntKind.u64 (IntKind.u64.wrap n) (IntKind.u64.wrap (8 * IntKind.u64.wrap (IntKind.i64.wrap JaT))))))]) ++ [.sc (.int .u8 (IntKind.u8.wrap (JX IntKind.u64 (IntKind.u64.wrap n) (IntKind.u64.wrap (8 * IntKind.u64.wrap (IntKind.i64.wrap (IntKind.i64.wrap JaT + 1)))))))]) ++ [.sc (.int .u8 (IntKind.u8.wrap (JX IntKind.u64 (IntKind.u64.wrap n) (IntKind.u64.wrap (8 * IntKind.u64.wrap (IntKind.i64.wrap (IntKind.i64.wrap (IntKind.i64.wrap JaT + 1) + 1)))))))]) ++ [.sc (.int .u8 (IntKind.u8.wrap (JX IntKind.u64 (IntKind.u64.wrap n) (IntKind.u64.wrap (8 * IntKind.u64.wrap (IntKind.i64.wrap (IntKind.i64.wrap (IntKind.i64.wrap (IntKind.i64.wrap JaT + 1) + 1) + 1)))))))])]) else none else none else none else none else none else none else none else none
theorem JMm (f : Nat) (nl : Bool) (l : List PV) (m : Nat) (n : Int) (k : KR) : JK tau JGQ Try.f53 (Try.f53.body.get!) Jsi [] 12 [.ow 5 0 [] 0 m none, .sc (.int .i64 n)] [.vec false 5 nl l] k = JBG f nl l m n k := by kernel_rfl
theorem JGR (f : Nat) : ∀ q ∈ Jg (Try.f53.body.get!) Jsi, q.Ok tau Try.prog 1 := Jx (by kernel_rfl)
theorem JGS : Try.prog.funcs[53]? = some Try.f53 := by kernel_rfl
theorem JGT : Try.f53.body = some (Try.f53.body.get!) := by kernel_rfl
def JGU : Fns := F0
theorem Jwd : Jq tau Try.prog JGU := Jt
def Jsj : An := (.seq .leaf (.seq (.seq .leaf (.cond .leaf .leaf)) (.seq .leaf .leaf)))
def JBH (f : Nat) (nl : Bool) (l : List PV) (m : Nat) (s : ByteArray) (k : KR) : OR := bif decide (zi s.size > 65535) then bif decide (65535 <= s.size) && true then bif Je (m + 2) 1 && true then bif Je (m + 2 + (Ji (s.extract 0 65535)).length) 1 && true then k (Res.mk (.ow 5 16 [] 0 (m + 2 + (Ji (s.extract 0 65535)).length) none) [.dead] [.vec false 5 (nl && false && (Ji (s.extract 0 65535)).isEmpty) (List.take (m + 2) (List.take m l ++ [.sc (.int .u8 (IntKind.u8.wrap (zi (s.extract 0 65535).size))), .sc (.int .u8 (IntKind.u8.wrap (JX IntKind.i64 (zi (s.extract 0 65535).size) 8)))]) ++ Ji (s.extract 0 65535))]) else none else none else none else bif Je (m + 2) 1 && true then bif Je (m + 2 + (Ji s).length) 1 && true then k (Res.mk (.ow 5 16 [] 0 (m + 2 + (Ji s).length) none) [.dead] [.vec false 5 (nl && false && (Ji s).isEmpty) (List.take (m + 2) (List.take m l ++ [.sc (.int .u8 (IntKind.u8.wrap (zi s.size))), .sc (.int .u8 (IntKind.u8.wrap (JX IntKind.i64 (zi s.size) 8)))]) ++ Ji s)]) else none else none
theorem JMn (f : Nat) (nl : Bool) (l : List PV) (m : Nat) (s : ByteArray) (k : KR) : JK tau JGU Try.f97 (Try.f97.body.get!) Jsj [] 0 [.ow 5 0 [] 0 m none, .sc (.string s)] [.vec false 5 nl l] k = JBH f nl l m s k := by kernel_rfl
theorem JGV (f : Nat) : ∀ q ∈ Jg (Try.f97.body.get!) Jsj, q.Ok tau Try.prog 1 := Jx (by kernel_rfl)
theorem JyV : Try.prog.funcs[97]? = some Try.f97 := by kernel_rfl
theorem JyW : Try.f97.body = some (Try.f97.body.get!) := by kernel_rfl
theorem JGW : Enters Try.prog 97 := enters_of JyV (by kernel_rfl) JyW
def ib (n i : Int) : Int := IntKind.u8.wrap (JX .u64 (IntKind.u64.wrap n) (8 * i))
def Jsk (n : Int) : List Int := [ib n 0, ib n 1, ib n 2, ib n 3, ib n 4, ib n 5, ib n 6, ib n 7]
def QG : Int -> List Int := hid Jsk
theorem Yo (n : Int) : QG n = Jsk n := by rw [QG, hid_eq]
@[simp] theorem Z8 (n : Int) : (QG n).length = 8 := by rw [Yo]; rfl
def Jwe (s : ByteArray) : List Int := s.data.toList.map fun b => (b.toNat : Int)
def bsI : ByteArray -> List Int := hid Jwe
theorem JlL (s : ByteArray) : bsI s = Jwe s := by rw [bsI, hid_eq]
theorem X0 (s : ByteArray) : Ji s = pu .u8 (bsI s) := by rw [JlL]; simp [Ji, pu, Jwe]
@[simp] theorem JlM (s : ByteArray) : (bsI s).length = s.size := by rw [JlL]; simp [Jwe]
theorem JBI (s : ByteArray) : ∀ x ∈ bsI s, 0 <= x /\ x < 256 := by
 intro x hx
 rw [JlL] at hx
 obtain ⟨b, _, rfl⟩ := List.mem_map.1 hx
 have := b.toNat_lt
 omega
def Gz (s : ByteArray) : List Int := [IntKind.u8.wrap (zi s.size), IntKind.u8.wrap (JX .i64 (zi s.size) 8)] ++ bsI s
def WO : ByteArray -> List Int := hid Gz
theorem YS (s : ByteArray) : WO s = Gz s := by rw [WO, hid_eq]
@[simp] theorem JaU (s : ByteArray) : (WO s).length = s.size + 2 := by rw [YS]; simp [Gz]
theorem Jdr (x : Int) : 0 <= IntKind.u8.wrap x /\ IntKind.u8.wrap x < 256 := by rw [JkT]; omega
theorem VO (n : Int) : ∀ x ∈ QG n, 0 <= x /\ x < 256 := by
 rw [Yo]; intro x hx
 simp only [Jsk, List.mem_cons, List.not_mem_nil, or_false] at hx
 rcases hx with h | h | h | h | h | h | h | h <;> (rw [h]; exact Jdr _)
theorem Jsl (s : ByteArray) : ∀ x ∈ WO s, 0 <= x /\ x < 256 := by
 rw [YS]; intro x hx
 rcases List.mem_append.1 hx with hx | hx
 · simp only [List.mem_cons, List.not_mem_nil, or_false] at hx
   rcases hx with h | h <;> (rw [h]; exact Jdr _)
 · exact JBI s x hx
theorem Jwf (f : Bool) (b : List PV) (n : Int) (k : KR) : g35 0 true f b n k = k ⟨.ro 5 false false (pu .u8 (QG n)), [], []⟩ := by
 rw [Yo]; kernel_rfl
theorem JGX (f : Bool) (b : List PV) (hb : b.length <= 1000000000) (n : Int) (k : KR) : g35 0 false f b n k = k ⟨.ro 5 false false (b ++ pu .u8 (QG n)), [], []⟩ := by
 rw [Yo]
 unfold g35 JhB JlJ JlI JlH JlG Jew JlF JlE JlD
 refine (Jd rfl).trans ?_
 repeat (refine (Ja (by simp [Je]; omega)).trans ?_)
 repeat rw [List.take_of_length_le (by simp <;> omega)]
 simp only [List.nil_append, List.append_assoc]
 rfl
def JhD : JA
 | [.ro 5 z f b, .sc (.int .i64 n)], [], k => bif slB z b then k ⟨.ro 5 false false (b ++ pu .u8 (QG n)), [], []⟩ else none
 | _, _, _ => none
def JGY : Sig := { own := [], run := JhD }
theorem JyX : Jc tau Try.prog 35 JGY := Jc.mk' fun xs es k res hl hr => by
 change JhD xs es k = some res at hr
 unfold JhD at hr
 split at hr
 · rename_i z f b n
   obtain ⟨hc, hr2⟩ := Jw hr
   clear hr
   obtain ⟨h1, h2⟩ := Xy.1 hc
   have hg : g35 0 z f b n k = some res := by
    cases z with
    | true => obtain rfl := h1 rfl; rw [Jwf]; exact hr2
    | false => rw [JGX f b h2]; exact hr2
   exact J6 Jn JBv Jo JGI JGJ JBx [.ro] 0 12 (JMi 0) hl rfl ((e35 0 z f b n k).trans hg)
 · cases hr
theorem JjF (s : ByteArray) : s.extract 0 s.size = s := by
 apply ByteArray.ext
 simp [ByteArray.data_extract]
def JaV : JA
 | [.ro 5 true true [], .sc (.int .i64 n)], [], k => k ⟨.ow 5 16 [] 0 1 none, [], [.vec false 5 false (pu .u8 [IntKind.u8.wrap n])]⟩
 | [.ow 5 0 [] 0 m none, .sc (.int .i64 n)], [.vec false 5 nl l], k => bif Nat.beq m l.length && Nat.ble l.length 1000000000 then k ⟨.ow 5 16 [] 0 (m + 1) none, [.dead], [.vec false 5 false (l ++ pu .u8 [IntKind.u8.wrap n])]⟩ else none
 | _, _, _ => none
def JGZ : Sig := { own := [true], run := JaV }
theorem JBJ : Jc tau Try.prog 105 JGZ := Jc.mk' fun xs es k res hl hr => by
 change JaV xs es k = some res at hr
 unfold JaV at hr
 split at hr
 · rename_i n
   exact J6 Jn Jv9 Jo JyR JyS Jsf [] 0 0 (JGL 0) hl rfl ((JMk 0 n k).trans hr)
 · rename_i m n nl l
   obtain ⟨hc, hr⟩ := Jw hr
   rw [Bool.and_eq_true, Nat.beq_eq, Nat.ble_eq] at hc
   obtain ⟨rfl, hc⟩ := hc
   have hg : Jsh 0 nl l l.length n k = some res := by
    unfold Jsh
    rw [Ja (by simp [Je]; omega), List.take_length, Bool.and_false]
    exact hr
   exact J6 Jn Jsg Jo JBA JBB JlK [] 1 0 (JBz 0) hl rfl ((JGM 0 nl l l.length n k).trans hg)
 · cases hr
def Jex : JA
 | [.ro 5 true true [], .sc (.int .i64 n)], [], k => k ⟨.ow 5 16 [] 0 8 none, [], [.vec false 5 false (pu .u8 (QG n))]⟩
 | [.ow 5 0 [] 0 m none, .sc (.int .i64 n)], [.vec false 5 nl l], k => bif Nat.beq m l.length && Nat.ble l.length 1000000000 then k ⟨.ow 5 16 [] 0 (m + 8) none, [.dead], [.vec false 5 false (l ++ pu .u8 (QG n))]⟩ else none
 | _, _, _ => none
def JMo : Sig := { own := [true], run := Jex }
theorem Jwg (n : Int) (k : KR) : g53 0 n k = k ⟨.ow 5 16 [] 0 8 none, [], [.vec false 5 false (pu .u8 (QG n))]⟩ := by
 rw [Yo]; kernel_rfl
theorem Jwh (nl : Bool) (l : List PV) (hl : l.length <= 1000000000) (n : Int) (k : KR) : JBG 0 nl l l.length n k = k ⟨.ow 5 16 [] 0 (l.length + 8) none, [.dead], [.vec false 5 false (l ++ pu .u8 (QG n))]⟩ := by
 rw [Yo]
 unfold JBG JaT
 repeat (refine (Ja (by simp [Je]; omega)).trans ?_)
 repeat rw [List.take_of_length_le (by simp <;> omega)]
 simp only [Bool.and_false, List.append_assoc]
 rfl
theorem JyY : Jc tau Try.prog 53 JMo := Jc.mk' fun xs es k res hl hr => by
 change Jex xs es k = some res at hr
 unfold Jex at hr
 split at hr
 · rename_i n
   exact J6 Jn JBC Jo JGO JGP JBE [] 0 12 (JMl 0) hl rfl ((e53 0 n k).trans ((Jwg n k).trans hr))
 · rename_i m n nl l
   obtain ⟨hc, hr⟩ := Jw hr
   rw [Bool.and_eq_true, Nat.beq_eq, Nat.ble_eq] at hc
   obtain ⟨rfl, hc⟩ := hc
   exact J6 Jn Jwb Jo JGS JGT Jsi [] 1 12 (JGR 0) hl rfl ((JMm 0 nl l l.length n k).trans ((Jwh nl l hc n k).trans hr))
 · cases hr
def Jey : JA
 | [.ow 5 0 [] 0 m none, .sc (.string s)], [.vec false 5 nl l], k => bif Nat.beq m l.length && Nat.ble l.length 1000000000 && Nat.ble s.size 65535 then k ⟨.ow 5 16 [] 0 (m + (s.size + 2)) none, [.dead], [.vec false 5 false (l ++ pu .u8 (WO s))]⟩ else none
 | _, _, _ => none
def JMp : Sig := { own := [true], run := Jey }
theorem JG0 : Jc tau Try.prog 97 JMp := Jc.mk' fun xs es k res hl hr => by
 change Jey xs es k = some res at hr
 unfold Jey at hr
 split at hr
 · rename_i m s nl l
   obtain ⟨hc, hr⟩ := Jw hr
   rw [Bool.and_eq_true, Bool.and_eq_true, Nat.beq_eq, Nat.ble_eq, Nat.ble_eq] at hc
   obtain ⟨⟨rfl, hc⟩, hs⟩ := hc
   have hg : JBH 0 nl l l.length s k = some res := by
    unfold JBH
    have hob : (Ji s).length = s.size := by rw [X0]; simp
    rw [Jd (by simp only [zi, decide_eq_false_iff_not]; omega), Ja (by simp [Je]; omega), Ja (by simp [Je, hob]; omega), List.take_length, List.take_of_length_le (by simp), hob, Bool.and_false, Bool.false_and]
    rw [YS, Gz] at hr
    rw [X0, show l.length + 2 + s.size = l.length + (s.size + 2) from by omega]
    simpa [pu] using hr
   exact J6 Jn Jwd Jo JyV JyW Jsj [] 1 0 (JGV 0) hl rfl ((JMn 0 nl l l.length s k).trans hg)
 · cases hr
def Jds : JA
 | [.ro 5 z f b, .sc (.int .i64 n)], [], k => bif slB z b then k ⟨.ow 5 16 [] 0 (b.length + 1) none, [], [.vec false 5 false (b ++ pu .u8 [IntKind.u8.wrap n])]⟩ else none
 | _, _, _ => none
def JG1 : Sig := { own := [], run := Jds }
theorem JBK : Jc tau Try.prog 130 JG1 := Jc.mk' fun xs es k res hl hr => by
 change Jds xs es k = some res at hr
 unfold Jds at hr
 split at hr
 · rename_i z f b n
   obtain ⟨hc, hr⟩ := Jw hr
   obtain ⟨h1, h2⟩ := Xy.1 hc
   have hg : Jsc 0 z f b n k = some res := by
    have hf : JH [PV.ro 5 z f b, PV.ro 5 false false [PV.sc (Value.int IntKind.u8 (IntKind.u8.wrap n))]] = b ++ pu .u8 [IntKind.u8.wrap n] := by simp [PV.els, pu]
    have hf2 : JH [PV.ro 5 z f b, PV.ro 5 false true [PV.sc (Value.int IntKind.u8 (IntKind.u8.wrap n))]] = b ++ pu .u8 [IntKind.u8.wrap n] := by simp [PV.els, pu]
    have he : (b ++ pu .u8 [IntKind.u8.wrap n]).isEmpty = false := by simp
    have hlen : (b ++ pu .u8 [IntKind.u8.wrap n]).length = b.length + 1 := by simp
    unfold Jsc
    simp only [hf, hf2, List.take_length, List.drop_zero, List.take_succ_cons, List.take_zero, he, hlen, Ent.nil]
    rw [Ja (by simp; omega)]
    exact hr
   exact J6 Jn Jsb Jo JBr JBs JlB [] 0 0 (JBq 0) hl rfl ((JGv 0 z f b n k).trans hg)
 · cases hr
def JhE : JA
 | [.ro 5 z f b, .sc (.string s)], [], k => bif slB z b && Nat.ble s.size 65535 then k ⟨.ow 5 16 [] 0 (b.length + (s.size + 2)) none, [], [.vec false 5 false (b ++ pu .u8 (WO s))]⟩ else none
 | _, _, _ => none
def JMq : Sig := { own := [], run := JhE }
theorem JG2 : Jc tau Try.prog 92 JMq := Jc.mk' fun xs es k res hl hr => by
 change JhE xs es k = some res at hr
 unfold JhE at hr
 split at hr
 · rename_i z f b s
   obtain ⟨hc, hr⟩ := Jw hr
   rw [Bool.and_eq_true, Nat.ble_eq] at hc
   obtain ⟨h1, h2⟩ := Xy.1 hc.1
   have hg : JBt 0 z f b s k = some res := by
    have hm : Qh (zi s.size) 65535 = (s.size : Int) := by unfold Qh; rw [if_neg (by simp only [zi]; omega)]
    unfold JBt JaS VN
    simp only [hm, Int.toNat_natCast, JjF]
    have hf : ∀ x y : Bool, JH [PV.ro 5 z f b, PV.ro 5 false x [PV.sc (Value.int IntKind.u8 (IntKind.u8.wrap (zi s.size))), PV.sc (Value.int IntKind.u8 (IntKind.u8.wrap (JX IntKind.i64 (zi s.size) 8)))], PV.ro 5 false y (List.take s.size (Ji s))] = b ++ pu .u8 (WO s) := by
     intro x y
     rw [X0, List.take_of_length_le (by simp), YS, Gz]
     simp [PV.els, pu]
    have he : (b ++ pu .u8 (WO s)).isEmpty = false := by
     rw [YS, Gz]; simp
    have hlen : (b ++ pu .u8 (WO s)).length = b.length + (s.size + 2) := by simp
    simp only [hf, List.take_length, List.drop_zero, List.take_succ_cons, List.take_zero, he, hlen, Ent.nil]
    rw [Ja (by simp), Ja (by simp [Je]; omega), Ja (by simp; omega)]
    exact hr
   exact J6 Jn Jv7 Jo JGy JGz Jsd [] 0 0 (JGx 0) hl rfl ((JMe 0 z f b s k).trans hg)
 · cases hr
def apI : List PV -> Int -> List PV := hid fun b n => b ++ pu .u8 (QG n)
def apY : List PV -> Int -> List PV := hid fun b n => b ++ pu .u8 [IntKind.u8.wrap n]
def apT : List PV -> ByteArray -> List PV := hid fun b s => b ++ pu .u8 (WO s)
def okZ : Bool -> List PV -> Bool := hid slB
def okL : Nat -> List PV -> Bool := hid fun m l => Nat.beq m l.length && Nat.ble l.length 1000000000
theorem Yx (b : List PV) (n : Int) : apI b n = b ++ pu .u8 (QG n) := by rw [apI, hid_eq]
theorem GA (b : List PV) (n : Int) : apY b n = b ++ pu .u8 [IntKind.u8.wrap n] := by rw [apY, hid_eq]
theorem Yy (b : List PV) (s : ByteArray) : apT b s = b ++ pu .u8 (WO s) := by rw [apT, hid_eq]
theorem GB (z : Bool) (b : List PV) : okZ z b = slB z b := by rw [okZ, hid_eq]
theorem JhF (m : Nat) (l : List PV) : okL m l = (Nat.beq m l.length && Nat.ble l.length 1000000000) := by rw [okL, hid_eq]
def JlN : JA
 | [.ro 5 z f b, .sc (.int .i64 n)], [], k => bif okZ z b then k ⟨.ro 5 false false (apI b n), [], []⟩ else none
 | _, _, _ => none
def JG3 : Sig := { own := [], run := JlN }
theorem JG4 : Jc tau Try.prog 35 JG3 := fun xs es k res hl hr => JyX xs es k res hl (by
 change JlN xs es k = some res at hr
 show JhD xs es k = some res
 unfold JlN at hr
 split at hr
 · rw [GB, Yx] at hr; exact hr
 · cases hr)
def JhG : JA
 | [.ro 5 z f b, .sc (.int .i64 n)], [], k => bif okZ z b then k ⟨.ow 5 16 [] 0 (apY b n).length none, [], [.vec false 5 false (apY b n)]⟩ else none
 | _, _, _ => none
def JyZ : Sig := { own := [], run := JhG }
theorem JBL : Jc tau Try.prog 130 JyZ := fun xs es k res hl hr => JBK xs es k res hl (by
 change JhG xs es k = some res at hr
 show Jds xs es k = some res
 unfold JhG at hr
 split at hr
 · rename_i z f b n
   rw [GB, GA, show (b ++ pu .u8 [IntKind.u8.wrap n]).length = b.length + 1 by simp] at hr; exact hr
 · cases hr)
def JlO : JA
 | [.ro 5 z f b, .sc (.string s)], [], k => bif okZ z b && Nat.ble s.size 65535 then k ⟨.ow 5 16 [] 0 (apT b s).length none, [], [.vec false 5 false (apT b s)]⟩ else none
 | _, _, _ => none
def JBM : Sig := { own := [], run := JlO }
theorem Jy0 : Jc tau Try.prog 92 JBM := fun xs es k res hl hr => JG2 xs es k res hl (by
 change JlO xs es k = some res at hr
 show JhE xs es k = some res
 unfold JlO at hr
 split at hr
 · rename_i z f b s
   rw [GB, Yy, show (b ++ pu .u8 (WO s)).length = b.length + (s.size + 2) by simp] at hr; exact hr
 · cases hr)
def JhH : JA
 | [.ro 5 true true [], .sc (.int .i64 n)], [], k => k ⟨.ow 5 16 [] 0 (apY [] n).length none, [], [.vec false 5 false (apY [] n)]⟩
 | [.ow 5 0 [] 0 m none, .sc (.int .i64 n)], [.vec false 5 nl l], k => bif okL m l then k ⟨.ow 5 16 [] 0 (apY l n).length none, [.dead], [.vec false 5 false (apY l n)]⟩ else none
 | _, _, _ => none
def Jsm : Sig := { own := [true], run := JhH }
theorem Jsn : Jc tau Try.prog 105 Jsm := fun xs es k res hl hr => JBJ xs es k res hl (by
 change JhH xs es k = some res at hr
 show JaV xs es k = some res
 unfold JhH at hr
 split at hr
 · rw [GA] at hr; exact hr
 · rename_i m n nl l
   rw [JhF, GA] at hr
   obtain ⟨hc, hr⟩ := Jw hr
   have hm : m = l.length := by rw [Bool.and_eq_true, Nat.beq_eq] at hc; exact hc.1
   have h2 : JaV [.ow 5 0 [] 0 m none, .sc (.int .i64 n)] [.vec false 5 nl l] k = k ⟨.ow 5 16 [] 0 (m + 1) none, [.dead], [.vec false 5 false (l ++ pu .u8 [IntKind.u8.wrap n])]⟩ := Ja hc
   rw [h2, ← hr, hm]; simp
 · cases hr)
def JlP : JA
 | [.ow 5 0 [] 0 m none, .sc (.int .i64 n)], [.vec false 5 nl l], k => bif okL m l then k ⟨.ow 5 16 [] 0 (apI l n).length none, [.dead], [.vec false 5 false (apI l n)]⟩ else none
 | _, _, _ => none
def JG5 : Sig := { own := [true], run := JlP }
theorem Jy1 : Jc tau Try.prog 53 JG5 := fun xs es k res hl hr => JyY xs es k res hl (by
 change JlP xs es k = some res at hr
 show Jex xs es k = some res
 unfold JlP at hr
 split at hr
 · rename_i m n nl l
   rw [JhF, Yx] at hr
   obtain ⟨hc, hr⟩ := Jw hr
   have hm : m = l.length := by rw [Bool.and_eq_true, Nat.beq_eq] at hc; exact hc.1
   have h2 : Jex [.ow 5 0 [] 0 m none, .sc (.int .i64 n)] [.vec false 5 nl l] k = k ⟨.ow 5 16 [] 0 (m + 8) none, [.dead], [.vec false 5 false (l ++ pu .u8 (QG n))]⟩ := Ja hc
   rw [h2, ← hr, hm]; simp
 · cases hr)
def JlQ : JA
 | [.ow 5 0 [] 0 m none, .sc (.string s)], [.vec false 5 nl l], k => bif okL m l && Nat.ble s.size 65535 then k ⟨.ow 5 16 [] 0 (apT l s).length none, [.dead], [.vec false 5 false (apT l s)]⟩ else none
 | _, _, _ => none
def JG6 : Sig := { own := [true], run := JlQ }
theorem Jy2 : Jc tau Try.prog 97 JG6 := fun xs es k res hl hr => JG0 xs es k res hl (by
 change JlQ xs es k = some res at hr
 show Jey xs es k = some res
 unfold JlQ at hr
 split at hr
 · rename_i m s nl l
   rw [JhF, Yy] at hr
   obtain ⟨hc, hr⟩ := Jw hr
   have hm : m = l.length := by simp only [Bool.and_eq_true, Nat.beq_eq] at hc; exact hc.1.1
   have h2 : Jey [.ow 5 0 [] 0 m none, .sc (.string s)] [.vec false 5 nl l] k = k ⟨.ow 5 16 [] 0 (m + (s.size + 2)) none, [.dead], [.vec false 5 false (l ++ pu .u8 (WO s))]⟩ := Ja hc
   rw [h2, ← hr, hm]; simp
 · cases hr)
def JG7 : Fns := Js 76 JBu (F0)
theorem Jwi : Jq tau Try.prog JG7 := (Jt).add JyQ JyP
def Jwj : Nm := [(0, .any), (1, .any), (5, .own), (6, .any)]
def JBN : An := (.seq .leaf (.seq .leaf (.seq .leaf (.seq .leaf (.seq (.seq .leaf (.seq .leaf (.cond .leaf .leaf))) (.seq .leaf .leaf))))))
def Jso : An := (.seq .leaf (.scope Jwj JBN))
abbrev JhI (n : Int) := (IntKind.u8.wrap (JX IntKind.u64 (IntKind.u64.wrap n) (IntKind.i64.wrap (8 * IntKind.i64.wrap (0 + 1)))))
abbrev JhJ (n : Int) := (IntKind.u8.wrap (JX IntKind.u64 (IntKind.u64.wrap n) (IntKind.i64.wrap (8 * IntKind.i64.wrap (IntKind.i64.wrap (0 + 1) + 1)))))
abbrev JhK (n : Int) := (IntKind.u8.wrap (JX IntKind.u64 (IntKind.u64.wrap n) (IntKind.i64.wrap (8 * IntKind.i64.wrap (IntKind.i64.wrap (IntKind.i64.wrap (0 + 1) + 1) + 1)))))
abbrev JaW := (IntKind.i64.wrap (IntKind.i64.wrap (IntKind.i64.wrap (0 + 1) + 1) + 1) + 1)
abbrev JhL (n : Int) := (IntKind.u8.wrap (JX IntKind.u64 (IntKind.u64.wrap n) (IntKind.i64.wrap (8 * IntKind.i64.wrap JaW))))
abbrev JhM (n : Int) := (IntKind.u8.wrap (JX IntKind.u64 (IntKind.u64.wrap n) (IntKind.i64.wrap (8 * IntKind.i64.wrap (IntKind.i64.wrap JaW + 1)))))
abbrev JhN (n : Int) := (IntKind.u8.wrap (JX IntKind.u64 (IntKind.u64.wrap n) (IntKind.i64.wrap (8 * IntKind.i64.wrap (IntKind.i64.wrap (IntKind.i64.wrap JaW + 1) + 1)))))
abbrev JhO (n : Int) := (IntKind.u8.wrap (JX IntKind.u64 (IntKind.u64.wrap n) (IntKind.i64.wrap (8 * IntKind.i64.wrap (IntKind.i64.wrap (IntKind.i64.wrap (IntKind.i64.wrap JaW + 1) + 1) + 1)))))
abbrev Jdt (b : List PV) (n : Int) := (List.take (0 + b.length + 1 + 1 + 1 + 1 + 1 + 1 + 1 + 1) (List.take (0 + b.length + 1 + 1 + 1 + 1 + 1 + 1 + 1) (List.take (0 + b.length + 1 + 1 + 1 + 1 + 1 + 1) (List.take (0 + b.length + 1 + 1 + 1 + 1 + 1) (List.take (0 + b.length + 1 + 1 + 1 + 1) (List.take (0 + b.length + 1 + 1 + 1) (List.take (0 + b.length + 1 + 1) (List.take (0 + b.length + 1) (List.take (0 + b.length) b ++ [PV.sc (.int .u8 (IntKind.u8.wrap (JX IntKind.u64 (IntKind.u64.wrap n) (IntKind.i64.wrap (8 * 0)))))]) ++ [PV.sc (.int .u8 (JhI n))]) ++ [PV.sc (.int .u8 (JhJ n))]) ++ [PV.sc (.int .u8 (JhK n))]) ++ [PV.sc (.int .u8 (JhL n))]) ++ [PV.sc (.int .u8 (JhM n))]) ++ [PV.sc (.int .u8 (JhN n))]) ++ [PV.sc (.int .u8 (JhO n))]))
def Jsp (f : Nat) (b_z b_f : Bool) (b : List PV) (n : Int) (k : KR) : OR := bif b_z then k (Res.mk (.ow 5 16 [] 0 8 none) [] [.vec false 5 false [.sc (.int .u8 (IntKind.u8.wrap (JX IntKind.u64 (IntKind.u64.wrap n) (IntKind.i64.wrap (8 * 0))))), .sc (.int .u8 (JhI n)), .sc (.int .u8 (JhJ n)), .sc (.int .u8 (JhK n)), .sc (.int .u8 (JhL n)), .sc (.int .u8 (JhM n)), .sc (.int .u8 (JhN n)), .sc (.int .u8 (JhO n))]]) else bif Je (0 + b.length) 1 && true then bif Je (0 + b.length + 1) 1 && true then bif Je (0 + b.length + 1 + 1) 1 && true then bif Je (0 + b.length + 1 + 1 + 1) 1 && true then bif Je (0 + b.length + 1 + 1 + 1 + 1) 1 && true then bif Je (0 + b.length + 1 + 1 + 1 + 1 + 1) 1 && true then bif Je (0 + b.length + 1 + 1 + 1 + 1 + 1 + 1) 1 && true then bif Je (0 + b.length + 1 + 1 + 1 + 1 + 1 + 1 + 1) 1 && true then bif Je (0 + b.length + 1 + 1 + 1 + 1 + 1 + 1 + 1 + 1) 1 && true then bif Je (0 + (Jdt b n).length) 1 && true then k (Res.mk (.ow 5 16 [] 0 (0 + (Jdt b n).length) none) [] [.vec false 5 false (Jdt b n)]) else none else none else none else none else none else none else none else none else none else none
theorem JMr (f : Nat) (b_z b_f : Bool) (b : List PV) (n : Int) (k : KR) : JK tau JG7 Try.f35 (Try.f35.body.get!) Jso [] 12 [.ro 5 b_z b_f b, .sc (.int .i64 n)] [] k = Jsp f b_z b_f b n k := by kernel_rfl
theorem JG8 (f : Nat) : ∀ q ∈ Jg (Try.f35.body.get!) Jso, q.Ok tau Try.prog 0 := Jx (by kernel_rfl)
theorem JG9 : Try.prog.funcs[35]? = some Try.f35 := by kernel_rfl
theorem JHa : Try.f35.body = some (Try.f35.body.get!) := by kernel_rfl
def F97 : Fns := F0
theorem JBO : Jq tau Try.prog F97 := Jt
def JBP : An := (.seq .leaf (.seq (.seq .leaf (.cond .leaf .leaf)) (.seq .leaf .leaf)))
def g97 (f : Nat) (s : ByteArray) (k : KR) : OR := bif decide (zi s.size > 65535) then bif decide (65535 <= s.size) && true then bif Je (2 + (Ji (s.extract 0 65535)).length) 1 && true then k (Res.mk (.ow 5 16 [] 0 (2 + (Ji (s.extract 0 65535)).length) none) [] [.vec false 5 false (.sc (.int .u8 (IntKind.u8.wrap (zi (s.extract 0 65535).size))) :: .sc (.int .u8 (IntKind.u8.wrap (JX IntKind.i64 (zi (s.extract 0 65535).size) 8))) :: id (Ji (s.extract 0 65535)))]) else none else none else bif Je (2 + (Ji s).length) 1 && true then k (Res.mk (.ow 5 16 [] 0 (2 + (Ji s).length) none) [] [.vec false 5 false (.sc (.int .u8 (IntKind.u8.wrap (zi s.size))) :: .sc (.int .u8 (IntKind.u8.wrap (JX IntKind.i64 (zi s.size) 8))) :: id (Ji s))]) else none
theorem e97 (f : Nat) (s : ByteArray) (k : KR) : JK tau F97 Try.f97 (Try.f97.body.get!) JBP [] 0 [.ro 5 true true [], .sc (.string s)] [] k = g97 f s k := by kernel_rfl
theorem JMs (f : Nat) : ∀ q ∈ Jg (Try.f97.body.get!) JBP, q.Ok tau Try.prog 0 := Jx (by kernel_rfl)
theorem JHb : Try.prog.funcs[97]? = some Try.f97 := by kernel_rfl
theorem JHc : Try.f97.body = some (Try.f97.body.get!) := by kernel_rfl
theorem JHd : Enters Try.prog 97 := enters_of JHb (by kernel_rfl) JHc
def JlR : JA
 | [.ro 5 z f b, .sc (.int .i64 n)], [], k => bif okZ z b then k ⟨.ow 5 16 [] 0 (apI b n).length none, [], [.vec false 5 false (apI b n)]⟩ else none
 | _, _, _ => none
def JHe : Sig := { own := [], run := JlR }
theorem Jsq (f : Bool) (n : Int) (k : KR) : Jsp 0 true f [] n k = k ⟨.ow 5 16 [] 0 8 none, [], [.vec false 5 false (pu .u8 (QG n))]⟩ := by
 rw [Yo]; kernel_rfl
theorem JBQ (f : Bool) (b : List PV) (hb : b.length <= 1000000000) (n : Int) (k : KR) : Jsp 0 false f b n k = k ⟨.ow 5 16 [] 0 (b.length + 8) none, [], [.vec false 5 false (b ++ pu .u8 (QG n))]⟩ := by
 rw [Yo]
 unfold Jsp Jdt JhO JhN JhM JhL JaW JhK JhJ JhI
 refine (Jd rfl).trans ?_
 repeat rw [List.take_of_length_le (by simp <;> omega)]
 repeat (refine (Ja (by simp [Je]; omega)).trans ?_)
 simp only [List.nil_append, List.append_assoc, List.length_append, List.length_cons, List.length_nil, Nat.zero_add]
 rfl
theorem JHf : Jc tau Try.prog 35 JHe := Jc.mk' fun xs es k res hl hr => by
 change JlR xs es k = some res at hr
 unfold JlR at hr
 split at hr
 · rename_i z f b n
   obtain ⟨hc, hr2⟩ := Jw hr
   clear hr
   rw [GB] at hc
   obtain ⟨h1, h2⟩ := Xy.1 hc
   rw [Yx] at hr2
   have hg : Jsp 0 z f b n k = some res := by
    cases z with
    | true => obtain rfl := h1 rfl; rw [Jsq]; simpa using hr2
    | false => rw [JBQ f b h2]; simpa using hr2
   exact J6 Jn Jwi Jo JG9 JHa Jso [] 0 12 (JG8 0) hl rfl ((JMr 0 z f b n k).trans hg)
 · cases hr
def JlS : JA
 | [.ro 5 true true [], .sc (.int .i64 n)], [], k => k ⟨.ow 5 16 [] 0 (apI [] n).length none, [], [.vec false 5 false (apI [] n)]⟩
 | [.ow 5 0 [] 0 m none, .sc (.int .i64 n)], [.vec false 5 nl l], k => bif okL m l then k ⟨.ow 5 16 [] 0 (apI l n).length none, [.dead], [.vec false 5 false (apI l n)]⟩ else none
 | _, _, _ => none
def Jwk : Sig := { own := [true], run := JlS }
theorem Jsr : Jc tau Try.prog 53 Jwk := fun xs es k res hl hr => by
 change JlS xs es k = some res at hr
 unfold JlS at hr
 split at hr
 · rename_i n
   refine JyY _ _ k res hl ?_
   rw [Yx] at hr
   show k ⟨.ow 5 16 [] 0 8 none, [], [.vec false 5 false (pu .u8 (QG n))]⟩ = some res
   simpa using hr
 · rename_i m n nl l
   exact Jy1 _ _ k res hl hr
 · cases hr
def JlT : JA
 | [.ro 5 true true [], .sc (.string s)], [], k => bif Nat.ble s.size 65535 then k ⟨.ow 5 16 [] 0 (apT [] s).length none, [], [.vec false 5 false (apT [] s)]⟩ else none
 | [.ow 5 0 [] 0 m none, .sc (.string s)], [.vec false 5 nl l], k => bif okL m l && Nat.ble s.size 65535 then k ⟨.ow 5 16 [] 0 (apT l s).length none, [.dead], [.vec false 5 false (apT l s)]⟩ else none
 | _, _, _ => none
def JBR : Sig := { own := [true], run := JlT }
theorem Jy3 : Jc tau Try.prog 97 JBR := Jc.mk' fun xs es k res hl hr => by
 change JlT xs es k = some res at hr
 unfold JlT at hr
 split at hr
 · rename_i s
   obtain ⟨hc, hr⟩ := Jw hr
   rw [Nat.ble_eq] at hc
   have hob : (Ji s).length = s.size := by rw [X0]; simp
   have hg : g97 0 s k = some res := by
    unfold g97
    rw [Jd (by simp only [zi, decide_eq_false_iff_not]; omega), Ja (by simp [Je, hob]; omega), hob]
    rw [Yy, YS, Gz] at hr
    simp only [List.nil_append, Qa, List.length_append, JG, JlM, List.length_cons, List.length_nil, ← X0] at hr
    rw [← hr, hob]
    simp only [id, Jdn, JkS, List.cons_append, List.nil_append, Nat.zero_add, Nat.reduceAdd]
   exact J6 Jn JBO Jo JHb JHc JBP [] 0 0 (JMs 0) hl rfl ((e97 0 s k).trans hg)
 · rename_i m s nl l
   exact Jy2 _ _ k res hl hr
 · cases hr
def N93 : Nat := 34
def F93 : Fns := Js 130 JyZ (Js 92 JBM (Js 35 JG3 (F0)))
theorem Jss : Jq tau Try.prog F93 := (((Jt).add JG4 JBy).add Jy0 JGD).add JBL JGC
def JjG : Code := Qj (Try.f93.body.get!) [1, 0]
def Jez : Nm := [(0, .any), (3, .own), (4, .any)]
def JlU : Nm := [(2, .any)]
def Jot : An := (.seq .leaf (.seq .leaf (.seq .leaf (.seq (.seq .leaf (.cond (.seq .leaf (.seq .leaf .leaf)) .leaf)) (.seq .leaf .leaf)))))
def Jwl (r0 : Jq3) : An := (.seq .leaf (.ssum Jez N93 (Jot) r0))
abbrev JBS := List PV -> OR) : Nat -> Bool -> Bool -> List PV -> Nat -> Int -> List PV -> OR
abbrev W0 (v2 : List PV) (v4 : Int) := (PV.child (0 + 1 + 1) (v2.getD v4.toNat PV.top))
abbrev X1 (v2 : List PV) (v4 : Int) := (PV.isSt 113 #[Field.mk "Kind" 3 0 false "" "" 0, Field.mk "N" 3 1 false "" "" 8, Field.mk "S" 9 2 false "" "" 16].size (v2.getD v4.toNat PV.top) && (PV.isInt IntKind.i64 (PV.child 0 (v2.getD v4.toNat PV.top)) && (PV.isInt IntKind.i64 (PV.child (0 + 1) (v2.getD v4.toNat PV.top)) && ((W0 v2 v4).isStr && true))))
abbrev W1 (v2 : List PV) (v3 : Nat) (v4 : Int) (v5 : List PV) := (List.take (apY (List.take v3 v5) (PV.child 0 (v2.getD v4.toNat PV.top)).int).length (apY (List.take v3 v5) (PV.child 0 (v2.getD v4.toNat PV.top)).int))
def JaX (f : Nat) (rc : Bool -> Bool -> List PV -> Nat -> Int -> List PV -> OR) (k0 : Nat -> List PV -> OR) (v0 v1 : Bool) (v2 : List PV) (v3 : Nat) (v4 : Int) (v5 : List PV) : OR := bif decide (v4 < zi v2.length) then bif decide (0 <= v4) && decide (v4 < zi v2.length) && (X1 v2 v4) && true then bif okZ false (List.take v3 v5) then bif decide (0 <= v4) && decide (v4 < zi v2.length) && (X1 v2 v4) && true then bif okZ false (W1 v2 v3 v4 v5) then bif decide (0 <= v4) && decide (v4 < zi v2.length) && (X1 v2 v4) && true then bif okZ false (apI (W1 v2 v3 v4 v5) (PV.child (0 + 1) (v2.getD v4.toNat PV.top)).int) && (W0 v2 v4).str.size.ble 65535 then rc v0 v1 v2 ((apT (apI (W1 v2 v3 v4 v5) (PV.child (0 + 1) (v2.getD v4.toNat PV.top)).int) (W0 v2 v4).str).length) (IntKind.i64.wrap (v4 + 1)) (apT (apI (W1 v2 v3 v4 v5) (PV.child (0 + 1) (v2.getD v4.toNat PV.top)).int) (W0 v2 v4).str) else none else none else none else none else none else none else k0 v3 v5
def GC (f : Nat) (k0 : Nat -> JBS
 | 0 => fun _ _ _ _ _ _ => none
 | n + 1 => JaX f (GC f k0 n) k0
def JaY (k : Kont) := fun x0 x1 => k Ex.ret (Jj JlU N93 [.ow 5 560 [] 0 x0 none] [(560, .vec false 5 false x1)])
def JlV (f : Nat) (k : Kont) (n : Nat) (v0 v1 : Bool) (v2 : List PV) (v3 : Nat) (v4 : Int) (v5 : List PV) : OR := Q4 tau 0 Jez (hasLabel JjG) (fun l s k => Qi tau F93 0 0 JjG (Jot ) l s k) n 0 (Jj Jez N93 [.ro 113 v0 v1 v2, .ow 5 560 [] 0 v3 none, .sc (.int .i64 v4)] [(560, .vec false 5 false v5)]) (JI tau 0 JlU k)
theorem Jwm (f : Nat) (k : Kont) (n : Nat) : JlV f k (n + 1) = JaX f (JlV f k n) (JaY k) := by kernel_rfl
theorem Jou (f : Nat) (k : Kont) : ∀ n, JlV f k n = GC f (JaY k) n
 | 0 => rfl
 | n + 1 => (Jwm f k n).trans (congrArg (fun r => JaX f r (JaY k)) (Jou f k n))
def JeA (f : Nat) : Nat -> List PV -> List (Nat × Ent) -> Kont -> OR
 | 0, [.ro 113 v0 v1 v2, .ow 5 560 [] 0 v3 none,
 PV.sc
  (Value.int IntKind.i64
   v4)], [(560, .vec false 5 false v5)], k => GC f (JaY k) f v0 v1 v2 v3 v4 v5
 | _, _, _, _ => none
theorem JBT (f : Nat) : Jg JjG Jot = [] := by kernel_rfl
theorem JBU (f : Nat) : (Item.s JjG Jez N93 (JeA f)).Ok tau Try.prog 0 := XU Jn Jss Jo (x := Jot) (nm2 := JlU) (Jk _ _ (by rw [JBT f]; intro q hq; cases hq)) fun l vs hp k res hr => by
 unfold JeA at hr
 split at hr
 · rw [← Jou f] at hr; exact ⟨f, 0, hr⟩
 · cases hr
abbrev JhP (o : List PV) := (List.take (apY [] (zi o.length)).length (apY [] (zi o.length)))
abbrev JeB (o : List PV) := (apY (JhP o) (PV.child 0 (o.getD 0 PV.top)).int)
abbrev JeC (o : List PV) := (PV.child (0 + 1 + 1) (o.getD 0 PV.top))
abbrev JhQ (o : List PV) := (PV.isSt 113 #[Field.mk "Kind" 3 0 false "" "" 0, Field.mk "N" 3 1 false "" "" 8, Field.mk "S" 9 2 false "" "" 16].size (o.getD (Int.toNat 0) PV.top) && (PV.isInt IntKind.i64 (PV.child 0 (o.getD 0 PV.top)) && (PV.isInt IntKind.i64 (PV.child (0 + 1) (o.getD 0 PV.top)) && ((JeC o).isStr && true))))
abbrev JhR (o : List PV) := (apI (List.take (JeB o).length (JeB o)) (PV.child (0 + 1) (o.getD 0 PV.top)).int)
def g93 (f : Nat) (o_z o_f : Bool) (o : List PV) (k : KR) : OR := bif okZ true [] then bif decide (0 < zi o.length) then bif decide (0 < zi o.length) && (JhQ o) && true then bif okZ false (JhP o) then bif decide (0 < zi o.length) && (JhQ o) && true then bif okZ false (List.take (JeB o).length (JeB o)) then bif decide (0 < zi o.length) && (JhQ o) && true then bif okZ false (JhR o) && (JeC o).str.size.ble 65535 then GC f (fun x0_0 x1_0 => k (Res.mk (.ro 5 false false (List.take x0_0 x1_0)) [] [])) f o_z o_f o ((apT (JhR o) (JeC o).str).length) (IntKind.i64.wrap (0 + 1)) (apT (JhR o) (JeC o).str) else none else none else none else none else none else none else k (Res.mk (.ro 5 false false (JhP o)) [] []) else none
theorem e93 (f : Nat) (o_z o_f : Bool) (o : List PV) (k : KR) : JK tau F93 Try.f93 (Try.f93.body.get!) (Jwl (JeA f)) [.ro] 0 [.ro 113 o_z o_f o] [] k = g93 f o_z o_f o k := by kernel_rfl
theorem JMt (f : Nat) : Jg (Try.f93.body.get!) (Jwl (JeA f)) = [.s JjG Jez N93 (JeA f)] := by kernel_rfl
theorem JMu (f : Nat) : ∀ q ∈ Jg (Try.f93.body.get!) (Jwl (JeA f)), q.Ok tau Try.prog 0 := by rw [JMt f]; exact JL (JBU f) (fun _ h => nomatch h)
theorem JHg : Try.prog.funcs[93]? = some Try.f93 := by kernel_rfl
theorem JHh : Try.f93.body = some (Try.f93.body.get!) := by kernel_rfl
theorem JMv : Enters Try.prog 93 := enters_of JHg (by kernel_rfl) JHh
def N98 : Nat := 34
def F98 : Fns := Js 105 Jsm (Js 97 JG6 (Js 53 JG5 (F0)))
theorem Jst : Jq tau Try.prog F98 := (((Jt).add Jy1 Jwa).add Jy2 JGW).add Jsn JyT
def Jov : Code := Qj (Try.f98.body.get!) [1, 1, 0, 1, 0, 0]
def JeD : Nm := [(0, .any), (3, .own), (4, .any)]
def JlW : Nm := [(3, .any)]
def Jsu : An := (.seq (.seq .leaf (.cond .leaf .leaf)) (.seq (.block none .leaf) .leaf))
def Jwn (r0 : Qz) : An := (.seq .leaf (.seq .leaf (.seq (.seq .leaf (.block none (.sum JeD N98 r0))) (.seq .leaf .leaf))))
abbrev JBV := List PV -> OR) : Nat -> Bool -> Bool -> List PV -> Nat -> Int -> List PV -> OR
abbrev W2 (v2 : List PV) (v4 : Int) := (PV.child (0 + 1 + 1) (v2.getD v4.toNat PV.top))
abbrev X2 (v2 : List PV) (v4 : Int) := (PV.isSt 113 #[Field.mk "Kind" 3 0 false "" "" 0, Field.mk "N" 3 1 false "" "" 8, Field.mk "S" 9 2 false "" "" 16].size (v2.getD v4.toNat PV.top) && (PV.isInt IntKind.i64 (PV.child 0 (v2.getD v4.toNat PV.top)) && (PV.isInt IntKind.i64 (PV.child (0 + 1) (v2.getD v4.toNat PV.top)) && ((W2 v2 v4).isStr && true))))
abbrev W3 (v2 : List PV) (v4 : Int) (v5 : List PV) := (apI (apY v5 (PV.child 0 (v2.getD v4.toNat PV.top)).int) (PV.child (0 + 1) (v2.getD v4.toNat PV.top)).int)
def JaZ (f : Nat) (rc : Bool -> Bool -> List PV -> Nat -> Int -> List PV -> OR) (k0 : Nat -> List PV -> OR) (v0 v1 : Bool) (v2 : List PV) (v3 : Nat) (v4 : Int) (v5 : List PV) : OR := bif decide (v4 < zi v2.length) then bif decide (0 <= v4) && decide (v4 < zi v2.length) && (X2 v2 v4) && true then bif okL v3 v5 then bif decide (0 <= v4) && decide (v4 < zi v2.length) && (X2 v2 v4) && true then bif okL (apY v5 (PV.child 0 (v2.getD v4.toNat PV.top)).int).length (apY v5 (PV.child 0 (v2.getD v4.toNat PV.top)).int) then bif decide (0 <= v4) && decide (v4 < zi v2.length) && (X2 v2 v4) && true then bif okL (W3 v2 v4 v5).length (W3 v2 v4 v5) && (W2 v2 v4).str.size.ble 65535 then rc v0 v1 v2 ((apT (W3 v2 v4 v5) (W2 v2 v4).str).length) (IntKind.i64.wrap (v4 + 1)) (apT (W3 v2 v4 v5) (W2 v2 v4).str) else none else none else none else none else none else none else k0 v3 v5
def GD (f : Nat) (k0 : Nat -> JBV
 | 0 => fun _ _ _ _ _ _ => none
 | n + 1 => JaZ f (GD f k0 n) k0
def Ja0 (k : Kont) := fun x0 x1 => k (Ex.exit 0) (Jj JlW N98 [.ow 5 560 [] 0 x0 none] [(560, .vec false 5 false x1)])
def JlX (f : Nat) (k : Kont) (n : Nat) (v0 v1 : Bool) (v2 : List PV) (v3 : Nat) (v4 : Int) (v5 : List PV) : OR := Jy tau 0 JeD (fun s k => ev tau F98 0 0 Jov (Jsu ) s k) n (Jj JeD N98 [.ro 113 v0 v1 v2, .ow 5 560 [] 0 v3 none, .sc (.int .i64 v4)] [(560, .vec false 5 false v5)]) (JI tau 0 JlW k)
theorem Jwo (f : Nat) (k : Kont) (n : Nat) : JlX f k (n + 1) = JaZ f (JlX f k n) (Ja0 k) := by kernel_rfl
theorem Jow (f : Nat) (k : Kont) : ∀ n, JlX f k n = GD f (Ja0 k) n
 | 0 => rfl
 | n + 1 => (Jwo f k n).trans (congrArg (fun r => JaZ f r (Ja0 k)) (Jow f k n))
def JeE (f : Nat) : List PV -> List (Nat × Ent) -> Kont -> OR
 | [.ro 113 v0 v1 v2, .ow 5 560 [] 0 v3 none,
 PV.sc
  (Value.int IntKind.i64
   v4)], [(560, .vec false 5 false v5)], k => GD f (Ja0 k) f v0 v1 v2 v3 v4 v5
 | _, _, _ => none
theorem JBW (f : Nat) : Jg Jov Jsu = [] := by kernel_rfl
theorem JBX (f : Nat) : (Item.l Jov JeD N98 (JeE f)).Ok tau Try.prog 0 := Ju Jn Jst Jo (x := Jsu) (nm2 := JlW) (Jk _ _ (by rw [JBW f]; intro q hq; cases hq)) fun vs hp k res hr => by
 unfold JeE at hr
 split at hr
 · rw [← Jow f] at hr; exact ⟨f, 0, hr⟩
 · cases hr
def g98 (f : Nat) (o_z o_f : Bool) (o : List PV) (k : KR) : OR := GD f (fun x0_0 x1_0 => k (Res.mk (.ow 5 16 [] 0 x0_0 none) [] [.vec false 5 false x1_0])) f o_z o_f o ((apY [] (zi o.length)).length) (0) (apY [] (zi o.length))
theorem e98 (f : Nat) (o_z o_f : Bool) (o : List PV) (k : KR) : JK tau F98 Try.f98 (Try.f98.body.get!) (Jwn (JeE f)) [] 0 [.ro 113 o_z o_f o] [] k = g98 f o_z o_f o k := by kernel_rfl
theorem JMw (f : Nat) : Jg (Try.f98.body.get!) (Jwn (JeE f)) = [.l Jov JeD N98 (JeE f)] := by kernel_rfl
theorem JMx (f : Nat) : ∀ q ∈ Jg (Try.f98.body.get!) (Jwn (JeE f)), q.Ok tau Try.prog 0 := by rw [JMw f]; exact JL (JBX f) (fun _ h => nomatch h)
theorem JHi : Try.prog.funcs[98]? = some Try.f98 := by kernel_rfl
theorem JHj : Try.f98.body = some (Try.f98.body.get!) := by kernel_rfl
theorem JHk : Enters Try.prog 98 := enters_of JHi (by kernel_rfl) JHj
def Jox (c : CV) : List Int := [IntKind.u8.wrap c.kd] ++ (QG c.n ++ WO c.s)
def WG (l : List PV) : List Int := l.flatMap fun p => Jox (cv p)
def Jsv (l : List PV) : List Int := [IntKind.u8.wrap (zi l.length)] ++ WG l
def opB : List PV -> List Int := hid Jsv
theorem JlY (l : List PV) : opB l = Jsv l := by rw [opB, hid_eq]
theorem XB (c : CV) : (Jox c).length = c.s.size + 11 := by simp [Jox]; omega
def cBy : List PV -> Bool := hid fun l => l.all isCp && (l.all (fun p => decide ((cv p).s.size <= 65535)) && decide (l.length <= 1000))
theorem Jdu {l : List PV} : cBy l = true ↔ l.all isCp = true /\ (∀ p ∈ l, (cv p).s.size <= 65535) /\ l.length <= 1000 := by
 rw [cBy, hid_eq]; simp only [Bool.and_eq_true, List.all_eq_true, decide_eq_true_eq]
theorem JeF (m : Nat) : ∀ l : List PV, (∀ p ∈ l, (cv p).s.size <= m) -> (WG l).length <= l.length * (m + 11)
 | [], _ => by simp [WG]
 | p :: l, h => by
  have h1 := h p List.mem_cons_self
  have h2 := JeF m l fun x hx => h x (List.mem_cons_of_mem _ hx)
  simp only [WG, List.flatMap_cons, List.length_append, XB, List.length_cons, Nat.add_mul] at h2 ⊢
  omega
theorem JhS (L : List PV) (p : PV) : apT (apI (apY L (PV.child 0 p).int) (PV.child (0 + 1) p).int) (PV.child (0 + 1 + 1) p).str = L ++ pu .u8 (Jox (cv p)) := by
 rw [Yy, Yx, GA]
 show _ = L ++ pu .u8 ([IntKind.u8.wrap (PV.child 0 p).int] ++ (QG (PV.child (0 + 1) p).int ++ WO (PV.child (0 + 1 + 1) p).str))
 simp only [Qa, List.append_assoc]
theorem XC (L : List PV) (n : Int) : (apY L n).length = L.length + 1 := by rw [GA]; simp
theorem Xe (L : List PV) (n : Int) : (apI L n).length = L.length + 8 := by rw [Yx]; simp
theorem W4 {l : List PV} (h : l.length <= 1000000000) : okL l.length l = true := by
 rw [JhF, Bool.and_eq_true, Nat.beq_eq, Nat.ble_eq]; exact ⟨rfl, h⟩
theorem Z9 {l : List PV} (h : l.length <= 1000000000) : okZ false l = true := by rw [GB]; exact Xy.2 ⟨fun h => (by cases h), h⟩
theorem Jy4 (l : List PV) (h1 : l.all isCp = true) (h3 : ∀ p ∈ l, (cv p).s.size <= 65535) (h2 : l.length <= 1000) (f : Nat) (k0 : Nat -> List PV -> OR) (z fl : Bool) : ∀ (d i n : Nat) (L : List PV), i + d = l.length -> d < n -> L.length <= 1 + i * 65546 ->
  GC f k0 n z fl l L.length (i : Int) L = k0 (L ++ pu .u8 (WG (l.drop i))).length (L ++ pu .u8 (WG (l.drop i)))
 | 0, i, n + 1, L, hi, hn, hL => by
   rw [List.drop_of_length_le (by omega)]
   simp only [GC, JaX, W1, X1, W0, WG, List.flatMap_nil, JkS, List.append_nil]
   exact Jd (by simp [zi]; omega)
 | d + 1, i, n + 1, L, hi, hn, hL => by
   have g1 := tI i
   have w1 := wI (i := i) (by omega)
   have hro : (decide (0 <= (i : Int)) && decide ((i : Int) < zi l.length) && (PV.isSt 113 #[Field.mk "Kind" 3 0 false "" "" 0, Field.mk "N" 3 1 false "" "" 8, Field.mk "S" 9 2 false "" "" 16].size (l.getD i PV.top) && (PV.isInt IntKind.i64 (PV.child 0 (l.getD i PV.top)) && (PV.isInt IntKind.i64 (PV.child (0 + 1) (l.getD i PV.top)) && ((PV.child (0 + 1 + 1) (l.getD i PV.top)).isStr && true)))) && true) = true := by
    have hq : (PV.isSt 113 #[Field.mk "Kind" 3 0 false "" "" 0, Field.mk "N" 3 1 false "" "" 8, Field.mk "S" 9 2 false "" "" 16].size (l.getD i PV.top) && (PV.isInt IntKind.i64 (PV.child 0 (l.getD i PV.top)) && (PV.isInt IntKind.i64 (PV.child (0 + 1) (l.getD i PV.top)) && ((PV.child (0 + 1 + 1) (l.getD i PV.top)).isStr && true)))) = true := XJ (WW h1 (by omega))
    rw [hq]; simp [zi]; omega
   have hd := Qb (l := l) (i := i) (by omega)
   have hmem : l.getD i .top ∈ l := by rw [List.getD_eq_getElem?_getD, List.getElem?_eq_getElem (by omega)]; exact List.getElem_mem (by omega)
   have hsz := h3 _ hmem
   have hs2 : (PV.child (0 + 1 + 1) (l.getD i PV.top)).str.size.ble 65535 = true := Nat.ble_eq.symm ▸ hsz
   have hi2 : i * 65546 <= 999 * 65546 := Nat.mul_le_mul_right _ (by omega)
   simp only [GC, JaX, W1, X1, W0, g1, w1, List.take_length]
   refine (Ja (by simp [zi]; omega)).trans ((Ja hro).trans ((Ja (Z9 (by omega))).trans ((Ja hro).trans ((Ja (Z9 (by rw [XC]; omega))).trans ((Ja hro).trans ((Ja (by rw [Z9 (by rw [Xe, XC]; omega), hs2]; rfl)).trans ?_))))))
   rw [JhS]
   refine (Jy4 l h1 h3 h2 f k0 z fl d (i + 1) n _ (by omega) (by omega) (by rw [List.length_append, JG, XB]; omega)).trans ?_
   rw [hd]
   simp only [WG, List.flatMap_cons, Qa, List.append_assoc]
theorem Jy5 (l : List PV) (h1 : l.all isCp = true) (h3 : ∀ p ∈ l, (cv p).s.size <= 65535) (h2 : l.length <= 1000) (f : Nat) (k0 : Nat -> List PV -> OR) (z fl : Bool) : ∀ (d i n : Nat) (L : List PV), i + d = l.length -> d < n -> L.length <= 1 + i * 65546 ->
  GD f k0 n z fl l L.length (i : Int) L = k0 (L ++ pu .u8 (WG (l.drop i))).length (L ++ pu .u8 (WG (l.drop i)))
 | 0, i, n + 1, L, hi, hn, hL => by
   rw [List.drop_of_length_le (by omega)]
   simp only [GD, JaZ, W3, X2, W2, WG, List.flatMap_nil, JkS, List.append_nil]
   exact Jd (by simp [zi]; omega)
 | d + 1, i, n + 1, L, hi, hn, hL => by
   have g1 := tI i
   have w1 := wI (i := i) (by omega)
   have hro : (decide (0 <= (i : Int)) && decide ((i : Int) < zi l.length) && (PV.isSt 113 #[Field.mk "Kind" 3 0 false "" "" 0, Field.mk "N" 3 1 false "" "" 8, Field.mk "S" 9 2 false "" "" 16].size (l.getD i PV.top) && (PV.isInt IntKind.i64 (PV.child 0 (l.getD i PV.top)) && (PV.isInt IntKind.i64 (PV.child (0 + 1) (l.getD i PV.top)) && ((PV.child (0 + 1 + 1) (l.getD i PV.top)).isStr && true)))) && true) = true := by
    have hq : (PV.isSt 113 #[Field.mk "Kind" 3 0 false "" "" 0, Field.mk "N" 3 1 false "" "" 8, Field.mk "S" 9 2 false "" "" 16].size (l.getD i PV.top) && (PV.isInt IntKind.i64 (PV.child 0 (l.getD i PV.top)) && (PV.isInt IntKind.i64 (PV.child (0 + 1) (l.getD i PV.top)) && ((PV.child (0 + 1 + 1) (l.getD i PV.top)).isStr && true)))) = true := XJ (WW h1 (by omega))
    rw [hq]; simp [zi]; omega
   have hd := Qb (l := l) (i := i) (by omega)
   have hmem : l.getD i .top ∈ l := by rw [List.getD_eq_getElem?_getD, List.getElem?_eq_getElem (by omega)]; exact List.getElem_mem (by omega)
   have hsz := h3 _ hmem
   have hs2 : (PV.child (0 + 1 + 1) (l.getD i PV.top)).str.size.ble 65535 = true := Nat.ble_eq.symm ▸ hsz
   have hi2 : i * 65546 <= 999 * 65546 := Nat.mul_le_mul_right _ (by omega)
   simp only [GD, JaZ, W3, X2, W2, g1, w1, List.take_length]
   refine (Ja (by simp [zi]; omega)).trans ((Ja hro).trans ((Ja (W4 (by omega))).trans ((Ja hro).trans ((Ja (W4 (by rw [XC]; omega))).trans ((Ja hro).trans ((Ja (by rw [W4 (by rw [Xe, XC]; omega), hs2]; rfl)).trans ?_))))))
   rw [JhS]
   refine (Jy5 l h1 h3 h2 f k0 z fl d (i + 1) n _ (by omega) (by omega) (by rw [List.length_append, JG, XB]; omega)).trans ?_
   rw [hd]
   simp only [WG, List.flatMap_cons, Qa, List.append_assoc]
theorem JjH {l : List PV} : apY [] (zi l.length) = pu .u8 [IntKind.u8.wrap (zi l.length)] := by rw [GA]; rfl
def JlZ : JA
 | [.ro 113 z f l], [], k => bif cBy l then k ⟨.ro 5 false false (pu .u8 (opB l)), [], []⟩ else none
 | _, _, _ => none
def JHl : Sig := { own := [], run := JlZ }
theorem JBY (z f : Bool) (l : List PV) (h : cBy l = true) (k : KR) : g93 1010 z f l k = k ⟨.ro 5 false false (pu .u8 (opB l)), [], []⟩ := by
 obtain ⟨h1, h3, h2⟩ := Jdu.1 h
 have hY := JjH (l := l)
 rw [JlY]
 unfold g93 JhR JhQ JeC JeB JhP
 simp only [List.take_length]
 refine (Ja (by rw [GB]; rfl)).trans ?_
 cases l with
 | nil => exact (Jd (by simp [zi])).trans (by rw [hY]; rfl)
 | cons p r =>
  have hq : (PV.isSt 113 #[Field.mk "Kind" 3 0 false "" "" 0, Field.mk "N" 3 1 false "" "" 8, Field.mk "S" 9 2 false "" "" 16].size ((p :: r).getD 0 PV.top) && (PV.isInt IntKind.i64 (PV.child 0 ((p :: r).getD 0 PV.top)) && (PV.isInt IntKind.i64 (PV.child (0 + 1) ((p :: r).getD 0 PV.top)) && ((PV.child (0 + 1 + 1) ((p :: r).getD 0 PV.top)).isStr && true)))) = true := by
   have := XJ (WW h1 (i := 0) (by simp))
   exact this
  have hro : (decide (0 < zi (p :: r).length) && (PV.isSt 113 #[Field.mk "Kind" 3 0 false "" "" 0, Field.mk "N" 3 1 false "" "" 8, Field.mk "S" 9 2 false "" "" 16].size ((p :: r).getD 0 PV.top) && (PV.isInt IntKind.i64 (PV.child 0 ((p :: r).getD 0 PV.top)) && (PV.isInt IntKind.i64 (PV.child (0 + 1) ((p :: r).getD 0 PV.top)) && ((PV.child (0 + 1 + 1) ((p :: r).getD 0 PV.top)).isStr && true)))) && true) = true := by
   rw [hq]; simp [zi]
  have hsz := h3 p List.mem_cons_self
  have hs2 : (PV.child (0 + 1 + 1) ((p :: r).getD 0 PV.top)).str.size.ble 65535 = true := Nat.ble_eq.symm ▸ hsz
  have l1 : (apY [] (zi (p :: r).length)).length = 1 := by rw [XC]; rfl
  refine (Ja (by simp [zi])).trans ((Ja hro).trans ((Ja (Z9 (by rw [l1]; decide))).trans ((Ja hro).trans ((Ja (Z9 (by rw [XC, l1]; decide))).trans ((Ja hro).trans ((Ja (by rw [Z9 (by rw [Xe, XC, l1]; decide), hs2]; rfl)).trans ?_))))))
  rw [JhS]
  have w1 : IntKind.i64.wrap (0 + 1) = ((1 : Nat) : Int) := by decide
  rw [w1]
  refine (Jy4 (p :: r) h1 h3 h2 1010 _ z f r.length 1 1010 _ (by simp; omega) (by simp at h2; omega) (by rw [List.length_append, JG, XB, l1]; have : (cv ((p :: r).getD 0 PV.top)).s.size <= 65535 := hsz; omega)).trans ?_
  rw [List.take_length, hY]
  simp only [Jsv, WG, List.flatMap_cons, Qa, List.append_assoc, List.drop_succ_cons, List.drop_zero, List.getD_cons_zero]
theorem JHm : Jc tau Try.prog 93 JHl := Jc.mk' fun xs es k res hl hr => by
 change JlZ xs es k = some res at hr
 unfold JlZ at hr
 split at hr
 · rename_i z f l
   obtain ⟨hc, hr⟩ := Jw hr
   exact J6 Jn Jss Jo JHg JHh (Jwl (JeA 1010)) [.ro] 0 0 (JMu 1010) hl rfl ((e93 1010 z f l k).trans ((JBY z f l hc k).trans hr))
 · cases hr
def Jl0 : JA
 | [.ro 113 z f l], [], k => bif cBy l then k ⟨.ow 5 16 [] 0 (opB l).length none, [], [.vec false 5 false (pu .u8 (opB l))]⟩ else none
 | _, _, _ => none
def JBZ : Sig := { own := [], run := Jl0 }
theorem JB0 (z f : Bool) (l : List PV) (h : cBy l = true) (k : KR) : g98 1010 z f l k = k ⟨.ow 5 16 [] 0 (opB l).length none, [], [.vec false 5 false (pu .u8 (opB l))]⟩ := by
 obtain ⟨h1, h3, h2⟩ := Jdu.1 h
 have hY := JjH (l := l)
 rw [JlY]
 unfold g98
 refine (Jy5 l h1 h3 h2 1010 _ z f l.length 0 1010 _ (by omega) (by omega) (by rw [XC]; simp)).trans ?_
 rw [List.drop_zero, hY, ← Qa]
 rw [show [IntKind.u8.wrap (zi l.length)] ++ WG l = Jsv l from rfl, JG]
theorem Jy6 : Jc tau Try.prog 98 JBZ := Jc.mk' fun xs es k res hl hr => by
 change Jl0 xs es k = some res at hr
 unfold Jl0 at hr
 split at hr
 · rename_i z f l
   obtain ⟨hc, hr⟩ := Jw hr
   exact J6 Jn Jst Jo JHi JHj (Jwn (JeE 1010)) [] 0 0 (JMx 1010) hl rfl ((e98 1010 z f l k).trans ((JB0 z f l hc k).trans hr))
 · cases hr
def F99 : Fns := Js 105 Jsm (Js 98 JBZ (Js 97 JBR (Js 53 Jwk (F0))))
theorem JB1 : Jq tau Try.prog F99 := ((((Jt).add Jsr Jwa).add Jy3 JHd).add Jy6 JHk).add Jsn JyT
def JB2 : An := (.seq .leaf (.seq .leaf (.seq .leaf (.seq .leaf (.seq .leaf (.seq .leaf .leaf))))))
abbrev JeG (y0 : Int) (y1 : Int) (d_Id : Int) (y2 : Int) (y3 : List PV) := (List.take (apI (apI (apI (apI [] y0) y1) d_Id) y2).length (apI (apI (apI (apI [] y0) y1) d_Id) y2) ++ List.take 32 y3)
abbrev Jl1 (d_Op : List PV) := (ByteArray.mk (Array.mk (JY ((Ent.vec false 5 false (pu IntKind.u8 (opB d_Op))).nil, List.take (opB d_Op).length (List.drop 0 (pu IntKind.u8 (opB d_Op)))).snd)))
abbrev GE (y0 : Int) (y1 : Int) (d_Id : Int) (y2 : Int) (y3 : List PV) (y4 : Int) (d_Op : List PV) := (apT (apY (JeG y0 y1 d_Id y2 y3) y4) (Jl1 d_Op))
def g99 (f : Nat) (y0 y1 d_Id y2 : Int) (y3 : List PV) (y4 : Int) (y5 y6 : Bool) (d_Op : List PV) (y7 y8 : Int) (k : KR) : OR := bif okL (apI [] y0).length (apI [] y0) then bif okL (apI (apI [] y0) y1).length (apI (apI [] y0) y1) then bif okL (apI (apI (apI [] y0) y1) d_Id).length (apI (apI (apI [] y0) y1) d_Id) then bif Je ((apI (apI (apI (apI [] y0) y1) d_Id) y2).length + (List.take 32 y3).length) 1 && true then bif okL ((apI (apI (apI (apI [] y0) y1) d_Id) y2).length + (List.take 32 y3).length) (JeG y0 y1 d_Id y2 y3) then bif cBy d_Op then bif Jl IntKind.u8 (List.take (opB d_Op).length (pu IntKind.u8 (opB d_Op))) && true then bif okL (apY (JeG y0 y1 d_Id y2 y3) y4).length (apY (JeG y0 y1 d_Id y2 y3) y4) && (Jl1 d_Op).size.ble 65535 then bif okL (GE y0 y1 d_Id y2 y3 y4 d_Op).length (GE y0 y1 d_Id y2 y3 y4 d_Op) then bif okL (apI (GE y0 y1 d_Id y2 y3 y4 d_Op) y7).length (apI (GE y0 y1 d_Id y2 y3 y4 d_Op) y7) then k (Res.mk (.ow 5 16 [] 0 (apI (apI (GE y0 y1 d_Id y2 y3 y4 d_Op) y7) y8).length none) [] [.vec false 5 false (apI (apI (GE y0 y1 d_Id y2 y3 y4 d_Op) y7) y8)]) else none else none else none else none else none else none else none else none else none else none
theorem e99 (f : Nat) (y0 y1 d_Id y2 : Int) (y3 : List PV) (y4 : Int) (y5 y6 : Bool) (d_Op : List PV) (y7 y8 : Int) (k : KR) : JK tau F99 Try.f99 (Try.f99.body.get!) JB2 [] 0 [.st 53 [.st 42 [.sc (.int .i64 y0), .sc (.int .i64 y1)], .sc (.int .i64 d_Id), .sc (.int .i64 y2), .ar 37 y3, .sc (.int .i64 y4), .ro 113 y5 y6 d_Op, .st 42 [.sc (.int .i64 y7), .sc (.int .i64 y8)]]] [] k = g99 f y0 y1 d_Id y2 y3 y4 y5 y6 d_Op y7 y8 k := by kernel_rfl
theorem JMy (f : Nat) : ∀ q ∈ Jg (Try.f99.body.get!) JB2, q.Ok tau Try.prog 0 := Jx (by kernel_rfl)
theorem JHn : Try.prog.funcs[99]? = some Try.f99 := by kernel_rfl
theorem JHo : Try.f99.body = some (Try.f99.body.get!) := by kernel_rfl
theorem JMz : Enters Try.prog 99 := enters_of JHn (by kernel_rfl) JHo
def F41 : Fns := Js 93 JHl (Js 92 JBM (Js 35 JHe (F0)))
theorem JB3 : Jq tau Try.prog F41 := (((Jt).add JHf JBy).add Jy0 JGD).add JHm JMv
def JB4 : An := (.seq .leaf (.seq .leaf (.seq .leaf .leaf)))
abbrev Jcg (y0 : Bool) (y2 : List PV) := (ByteArray.mk (Array.mk (JY (y0, y2).snd)))
abbrev Va (y0 : Bool) (y2 : List PV) (y3 : List PV) := (List.take ((apT [] (Jcg y0 y2)).length + (List.take 32 y3).length) (List.take (apT [] (Jcg y0 y2)).length (apT [] (Jcg y0 y2)) ++ List.take 32 y3))
abbrev JhT (e_Op : List PV) := (ByteArray.mk (Array.mk (JY (false, pu IntKind.u8 (opB e_Op)).snd)))
def g41 (f : Nat) (y0 y1 : Bool) (y2 y3 : List PV) (e_At : Int) (y4 y5 : Bool) (e_Op y6 y7 : List PV) (k : KR) : OR := bif Jl IntKind.u8 y2 && true then bif okZ true [] && (Jcg y0 y2).size.ble 65535 then bif Je ((apT [] (Jcg y0 y2)).length + (List.take 32 y3).length) 1 && true then bif okZ false (Va y0 y2 y3) then bif cBy e_Op then bif Jl IntKind.u8 (pu IntKind.u8 (opB e_Op)) && true then bif okZ false (List.take (apI (Va y0 y2 y3) e_At).length (apI (Va y0 y2 y3) e_At)) && (JhT e_Op).size.ble 65535 then k (Res.mk (.ro 5 false false (List.take (apT (List.take (apI (Va y0 y2 y3) e_At).length (apI (Va y0 y2 y3) e_At)) (JhT e_Op)).length (apT (List.take (apI (Va y0 y2 y3) e_At).length (apI (Va y0 y2 y3) e_At)) (JhT e_Op)))) [] []) else none else none else none else none else none else none else none
theorem e41 (f : Nat) (y0 y1 : Bool) (y2 y3 : List PV) (e_At : Int) (y4 y5 : Bool) (e_Op y6 y7 : List PV) (k : KR) : JK tau F41 Try.f41 (Try.f41.body.get!) JB4 [.ro] 0 [.st 51 [.st 47 [.ro 5 y0 y1 y2, .ar 37 y3], .sc (.int .i64 e_At), .ro 113 y4 y5 e_Op, .ar 37 y6, .ar 37 y7]] [] k = g41 f y0 y1 y2 y3 e_At y4 y5 e_Op y6 y7 k := by kernel_rfl
theorem JMA (f : Nat) : ∀ q ∈ Jg (Try.f41.body.get!) JB4, q.Ok tau Try.prog 0 := Jx (by kernel_rfl)
theorem JHp : Try.prog.funcs[41]? = some Try.f41 := by kernel_rfl
theorem JHq : Try.f41.body = some (Try.f41.body.get!) := by kernel_rfl
theorem JMB : Enters Try.prog 41 := enters_of JHp (by kernel_rfl) JHq
def F52 : Fns := Js 98 JBZ (Js 97 JBR (Js 53 Jwk (F0)))
theorem JB5 : Jq tau Try.prog F52 := (((Jt).add Jsr Jwa).add Jy3 JHd).add Jy6 JHk
def JB6 : An := (.seq .leaf (.seq .leaf (.seq .leaf .leaf)))
abbrev Jch (y0 : Bool) (y2 : List PV) := (ByteArray.mk (Array.mk (JY (y0, y2).snd)))
abbrev Jci (y0 : Bool) (y2 : List PV) (y3 : List PV) := (List.take (apT [] (Jch y0 y2)).length (apT [] (Jch y0 y2)) ++ List.take 32 y3)
abbrev JhU (e_Op : List PV) := (ByteArray.mk (Array.mk (JY ((Ent.vec false 5 false (pu IntKind.u8 (opB e_Op))).nil, List.take (opB e_Op).length (List.drop 0 (pu IntKind.u8 (opB e_Op)))).snd)))
def g52 (f : Nat) (y0 y1 : Bool) (y2 y3 : List PV) (e_At : Int) (y4 y5 : Bool) (e_Op y6 y7 : List PV) (k : KR) : OR := bif Jl IntKind.u8 y2 && true then bif (Jch y0 y2).size.ble 65535 then bif Je ((apT [] (Jch y0 y2)).length + (List.take 32 y3).length) 1 && true then bif okL ((apT [] (Jch y0 y2)).length + (List.take 32 y3).length) (Jci y0 y2 y3) then bif cBy e_Op then bif Jl IntKind.u8 (List.take (opB e_Op).length (pu IntKind.u8 (opB e_Op))) && true then bif okL (apI (Jci y0 y2 y3) e_At).length (apI (Jci y0 y2 y3) e_At) && (JhU e_Op).size.ble 65535 then k (Res.mk (.ow 5 16 [] 0 (apT (apI (Jci y0 y2 y3) e_At) (JhU e_Op)).length none) [] [.vec false 5 false (apT (apI (Jci y0 y2 y3) e_At) (JhU e_Op))]) else none else none else none else none else none else none else none
theorem e52 (f : Nat) (y0 y1 : Bool) (y2 y3 : List PV) (e_At : Int) (y4 y5 : Bool) (e_Op y6 y7 : List PV) (k : KR) : JK tau F52 Try.f52 (Try.f52.body.get!) JB6 [] 0 [.st 51 [.st 47 [.ro 5 y0 y1 y2, .ar 37 y3], .sc (.int .i64 e_At), .ro 113 y4 y5 e_Op, .ar 37 y6, .ar 37 y7]] [] k = g52 f y0 y1 y2 y3 e_At y4 y5 e_Op y6 y7 k := by kernel_rfl
theorem JMC (f : Nat) : ∀ q ∈ Jg (Try.f52.body.get!) JB6, q.Ok tau Try.prog 0 := Jx (by kernel_rfl)
theorem JHr : Try.prog.funcs[52]? = some Try.f52 := by kernel_rfl
theorem JHs : Try.f52.body = some (Try.f52.body.get!) := by kernel_rfl
theorem JHt : Enters Try.prog 52 := enters_of JHr (by kernel_rfl) JHs
def tx (l : List PV) : ByteArray := ByteArray.mk (Array.mk (JY l))
theorem Yp (l : List PV) : (tx l).size = l.length := Z6 l
structure EV where
 (b m : List PV) (at1 : Int) (o : List PV)
def JhV (e : EV) : List Int := WO (tx e.b) ++ (JD e.m ++ (QG e.at1 ++ WO (tx (pu .u8 (opB e.o)))))
def J0 : EV -> List Int := hid JhV
theorem JjI (e : EV) : J0 e = JhV e := by rw [J0, hid_eq]
def eOk : EV -> Bool := hid fun e => Jl .u8 e.b && (decide (e.b.length <= 65535) && (Jl .u8 e.m && (decide (e.m.length = 32) && (cBy e.o && decide ((opB e.o).length <= 65535)))))
theorem WH {e : EV} : eOk e = true ↔ Jl .u8 e.b = true /\ e.b.length <= 65535 /\ Jl .u8 e.m = true /\ e.m.length = 32 /\ cBy e.o = true /\ (opB e.o).length <= 65535 := by
 rw [eOk, hid_eq]; simp only [Bool.and_eq_true, decide_eq_true_eq]
theorem XD {e : EV} (h : eOk e = true) : (J0 e).length = e.b.length + (opB e.o).length + 44 := by
 obtain ⟨h1, h2, h3, h4, h5, h6⟩ := WH.1 h
 rw [JjI]
 simp only [JhV, List.length_append, JaU, QW, Z8, Yp, JG, h4]; omega
theorem JeH {e : EV} (h : eOk e = true) : apT (apI (apT [] (tx e.b) ++ List.take 32 e.m) e.at1) (tx (pu .u8 (opB e.o))) = pu .u8 (J0 e) := by
 obtain ⟨h1, h2, h3, h4, h5, h6⟩ := WH.1 h
 rw [JjI, Yy, Yx, Yy, List.take_of_length_le (by omega)]
 simp only [JhV, Qa, List.nil_append, List.append_assoc, ← QC h3]
def Jl2 : JA
 | [.st 51 [.st 47 [.ro 5 bz bf b, .ar 37 m], .sc (.int .i64 at1), .ro 113 oz of o, .ar 37 h, .ar 37 mc]], [], k => bif eOk ⟨b, m, at1, o⟩ then k ⟨.ro 5 false false (pu .u8 (J0 ⟨b, m, at1, o⟩)), [], []⟩ else none
 | _, _, _ => none
def JHu : Sig := { own := [], run := Jl2 }
theorem JB7 (bz bf : Bool) (b m : List PV) (at1 : Int) (oz of : Bool) (o h mc : List PV) (he : eOk ⟨b, m, at1, o⟩ = true) (k : KR) : g41 0 bz bf b m at1 oz of o h mc k = k ⟨.ro 5 false false (pu .u8 (J0 ⟨b, m, at1, o⟩)), [], []⟩ := by
 have hl := XD he
 have hp := JeH he
 obtain ⟨h1, h2, h3, h4, h5, h6⟩ := WH.1 he
 simp only at hl hp h1 h2 h3 h4 h5 h6
 have ht : ∀ l : List PV, ByteArray.mk (Array.mk (JY l)) = tx l := fun l => rfl
 have hm : List.take 32 m = m := List.take_of_length_le (by omega)
 have l1 : (apT [] (tx b)).length = b.length + 2 := by rw [Yy]; simp [Yp]
 have l2 : ∀ (L : List PV) (n : Int), (apI L n).length = L.length + 8 := Xe
 have htp : ∀ l : List Int, List.take l.length (pu .u8 l) = pu .u8 l := fun l => List.take_of_length_le (by simp)
 have hcat : ∀ n, n = (apT [] (tx b)).length + m.length -> List.take n (apT [] (tx b) ++ m) = apT [] (tx b) ++ m := fun n hn => List.take_of_length_le (by simp; omega)
 rw [hm] at hp
 unfold g41 JhT Va Jcg
 simp only [ht, hm, List.take_length, htp, List.drop_zero, hcat _ rfl, Yp, JG]
 refine (Ja (by rw [h1]; rfl)).trans ((Ja (by rw [GB]; show (true && _) = true; rw [Bool.true_and, Nat.ble_eq]; exact h2)).trans ((Ja (by simp only [Je, Nat.mul_one, Bool.and_true, decide_eq_true_eq, l1]; omega)).trans ((Ja (by rw [Z9 (by rw [List.length_append, l1]; omega)])).trans ((Ja h5).trans ((Ja (by rw [JO]; rfl)).trans ((Ja (by rw [Z9 (by rw [l2, List.length_append, l1]; omega), Bool.true_and, Nat.ble_eq]; exact h6)).trans ?_))))))
 rw [hp]
 try rfl
theorem JHv : Jc tau Try.prog 41 JHu := Jc.mk' fun xs es k res hl hr => by
 change Jl2 xs es k = some res at hr
 unfold Jl2 at hr
 split at hr
 · rename_i bz bf b m at1 oz of o h mc
   obtain ⟨hc, hr⟩ := Jw hr
   exact J6 Jn JB3 Jo JHp JHq JB4 [.ro] 0 0 (JMA 0) hl rfl ((e41 0 bz bf b m at1 oz of o h mc k).trans ((JB7 bz bf b m at1 oz of o h mc hc k).trans hr))
 · cases hr
def Jl3 : JA
 | [.st 51 [.st 47 [.ro 5 bz bf b, .ar 37 m], .sc (.int .i64 at1), .ro 113 oz of o, .ar 37 h, .ar 37 mc]], [], k => bif eOk ⟨b, m, at1, o⟩ then k ⟨.ow 5 16 [] 0 (J0 ⟨b, m, at1, o⟩).length none, [], [.vec false 5 false (pu .u8 (J0 ⟨b, m, at1, o⟩))]⟩ else none
 | _, _, _ => none
def JB8 : Sig := { own := [], run := Jl3 }
theorem JB9 (bz bf : Bool) (b m : List PV) (at1 : Int) (oz of : Bool) (o h mc : List PV) (he : eOk ⟨b, m, at1, o⟩ = true) (k : KR) : g52 0 bz bf b m at1 oz of o h mc k = k ⟨.ow 5 16 [] 0 (J0 ⟨b, m, at1, o⟩).length none, [], [.vec false 5 false (pu .u8 (J0 ⟨b, m, at1, o⟩))]⟩ := by
 have hl := XD he
 have hp := JeH he
 obtain ⟨h1, h2, h3, h4, h5, h6⟩ := WH.1 he
 simp only at hl hp h1 h2 h3 h4 h5 h6
 have ht : ∀ l : List PV, ByteArray.mk (Array.mk (JY l)) = tx l := fun l => rfl
 have hm : List.take 32 m = m := List.take_of_length_le (by omega)
 have l1 : (apT [] (tx b)).length = b.length + 2 := by rw [Yy]; simp [Yp]
 have l2 : ∀ (L : List PV) (n : Int), (apI L n).length = L.length + 8 := Xe
 have htp : ∀ l : List Int, List.take l.length (pu .u8 l) = pu .u8 l := fun l => List.take_of_length_le (by simp)
 have hcat : ∀ n, n = (apT [] (tx b)).length + m.length -> List.take n (apT [] (tx b) ++ m) = apT [] (tx b) ++ m := fun n hn => List.take_of_length_le (by simp; omega)
 rw [hm] at hp
 unfold g52 JhU Jci Jch
 simp only [ht, hm, List.take_length, htp, List.drop_zero, hcat _ rfl, Yp, JG]
 refine (Ja (by rw [h1]; rfl)).trans ((Ja (by rw [Nat.ble_eq]; exact h2)).trans ((Ja (by simp only [Je, Nat.mul_one, Bool.and_true, decide_eq_true_eq, l1]; omega)).trans ((Ja (by rw [show (apT [] (tx b)).length + m.length = (apT [] (tx b) ++ m).length from (List.length_append).symm, W4 (by rw [List.length_append, l1]; omega)])).trans ((Ja h5).trans ((Ja (by rw [JO]; rfl)).trans ((Ja (by rw [W4 (by rw [l2, List.length_append, l1]; omega), Bool.true_and, Nat.ble_eq]; exact h6)).trans ?_))))))
 rw [hp]
 rw [JG]
theorem Jy7 : Jc tau Try.prog 52 JB8 := Jc.mk' fun xs es k res hl hr => by
 change Jl3 xs es k = some res at hr
 unfold Jl3 at hr
 split at hr
 · rename_i bz bf b m at1 oz of o h mc
   obtain ⟨hc, hr⟩ := Jw hr
   exact J6 Jn JB5 Jo JHr JHs JB6 [] 0 0 (JMC 0) hl rfl ((e52 0 bz bf b m at1 oz of o h mc k).trans ((JB9 bz bf b m at1 oz of o h mc hc k).trans hr))
 · cases hr
structure DV where
 (ad au id ve : Int) (h : List PV) (kd : Int) (o : List PV) (wd wu : Int)
def Jsw (d : DV) : List Int := QG d.ad ++ (QG d.au ++ (QG d.id ++ (QG d.ve ++ (JD d.h ++ ([IntKind.u8.wrap d.kd] ++ (WO (tx (pu .u8 (opB d.o))) ++ (QG d.wd ++ QG d.wu)))))))
def dlB : DV -> List Int := hid Jsw
theorem Jl4 (d : DV) : dlB d = Jsw d := by rw [dlB, hid_eq]
def dOk : DV -> Bool := hid fun d => Jl .u8 d.h && (decide (d.h.length = 32) && (cBy d.o && decide ((opB d.o).length <= 65535)))
theorem Zh {d : DV} : dOk d = true ↔ Jl .u8 d.h = true /\ d.h.length = 32 /\ cBy d.o = true /\ (opB d.o).length <= 65535 := by
 rw [dOk, hid_eq]; simp only [Bool.and_eq_true, decide_eq_true_eq]
theorem GF {d : DV} (h : dOk d = true) : (dlB d).length = (opB d.o).length + 83 := by
 obtain ⟨h1, h2, h3, h4⟩ := Zh.1 h
 rw [Jl4]
 simp only [Jsw, List.length_append, JaU, QW, Z8, Yp, JG, h2, List.length_cons, List.length_nil]; omega
theorem Jsx {d : DV} (h : dOk d = true) : apI (apI (apT (apY (apI (apI (apI (apI [] d.ad) d.au) d.id) d.ve ++ List.take 32 d.h) d.kd) (tx (pu .u8 (opB d.o)))) d.wd) d.wu = pu .u8 (dlB d) := by
 obtain ⟨h1, h2, h3, h4⟩ := Zh.1 h
 rw [Jl4, List.take_of_length_le (by omega)]
 simp only [Yy, Yx, GA, Jsw, Qa, List.nil_append, List.append_assoc, ← QC h1]
def Jl5 : JA
 | [.st 53 [.st 42 [.sc (.int .i64 ad), .sc (.int .i64 au)], .sc (.int .i64 id1), .sc (.int .i64 ve), .ar 37 h, .sc (.int .i64 kd), .ro 113 oz of o, .st 42 [.sc (.int .i64 wd), .sc (.int .i64 wu)]]], [], k => bif dOk ⟨ad, au, id1, ve, h, kd, o, wd, wu⟩ then k ⟨.ow 5 16 [] 0 (dlB ⟨ad, au, id1, ve, h, kd, o, wd, wu⟩).length none, [], [.vec false 5 false (pu .u8 (dlB ⟨ad, au, id1, ve, h, kd, o, wd, wu⟩))]⟩ else none
 | _, _, _ => none
def JHw : Sig := { own := [], run := Jl5 }
theorem JCa (ad au id1 ve : Int) (h : List PV) (kd : Int) (oz of : Bool) (o : List PV) (wd wu : Int) (he : dOk ⟨ad, au, id1, ve, h, kd, o, wd, wu⟩ = true) (k : KR) : g99 0 ad au id1 ve h kd oz of o wd wu k = k ⟨.ow 5 16 [] 0 (dlB ⟨ad, au, id1, ve, h, kd, o, wd, wu⟩).length none, [], [.vec false 5 false (pu .u8 (dlB ⟨ad, au, id1, ve, h, kd, o, wd, wu⟩))]⟩ := by
 have hl := GF he
 have hp := Jsx he
 obtain ⟨h1, h2, h3, h4⟩ := Zh.1 he
 simp only at hl hp h1 h2 h3 h4
 have ht : ∀ l : List PV, ByteArray.mk (Array.mk (JY l)) = tx l := fun l => rfl
 have hm : List.take 32 h = h := List.take_of_length_le (by omega)
 have l1 : ∀ (L : List PV) (n : Int), (apY L n).length = L.length + 1 := XC
 have l2 : ∀ (L : List PV) (n : Int), (apI L n).length = L.length + 8 := Xe
 have l3 : ∀ (L : List PV), (apT L (tx (pu .u8 (opB o)))).length = L.length + ((opB o).length + 2) := fun L => by rw [Yy]; simp [Yp]
 have htp : ∀ l : List Int, List.take l.length (pu .u8 l) = pu .u8 l := fun l => List.take_of_length_le (by simp)
 have hcat : ∀ L : List PV, List.take (L.length + h.length) (L ++ h) = L ++ h := fun L => List.take_of_length_le (by simp)
 rw [hm] at hp
 unfold g99 GE Jl1 JeG
 simp only [ht, hm, List.take_length, htp, List.drop_zero, hcat, Yp, JG]
 refine (Ja (W4 (by simp only [l2, List.length_nil]; omega))).trans ((Ja (W4 (by simp only [l2, List.length_nil]; omega))).trans ((Ja (W4 (by simp only [l2, List.length_nil]; omega))).trans ?_))
 refine (Ja (by simp only [Je, Nat.mul_one, Bool.and_true, decide_eq_true_eq, l2, List.length_nil]; omega)).trans ?_
 refine (Ja (by rw [show ∀ L : List PV, L.length + h.length = (L ++ h).length from fun L => (List.length_append).symm, W4 (by simp only [List.length_append, l2, List.length_nil]; omega)])).trans ((Ja h3).trans ((Ja (by rw [JO]; rfl)).trans ?_))
 refine (Ja (by rw [W4 (by simp only [l1, List.length_append, l2, List.length_nil]; omega), Bool.true_and, Nat.ble_eq]; exact h4)).trans ?_
 refine (Ja (W4 (by rw [l3]; simp only [l1, List.length_append, l2, List.length_nil]; omega))).trans ?_
 refine (Ja (W4 (by rw [l2, l3]; simp only [l1, List.length_append, l2, List.length_nil]; omega))).trans ?_
 rw [hp]
 rw [JG]
theorem JHx : Jc tau Try.prog 99 JHw := Jc.mk' fun xs es k res hl hr => by
 change Jl5 xs es k = some res at hr
 unfold Jl5 at hr
 split at hr
 · rename_i ad au id1 ve h kd oz of o wd wu
   obtain ⟨hc, hr⟩ := Jw hr
   exact J6 Jn JB1 Jo JHn JHo JB2 [] 0 0 (JMy 0) hl rfl ((e99 0 ad au id1 ve h kd oz of o wd wu k).trans ((JCa ad au id1 ve h kd oz of o wd wu hc k).trans hr))
 · cases hr
def Jwp (d : DV) : Int :=
 bif inZ d.ad 2 && (inZ d.au 7 && (inZ d.id 1073741824 && inZ d.ve 1048576)) then
  (bif d.kd == 1 then (bif ckO d.o == 0 then (bif d.wd == 0 && d.wu == 0 then 0 else 1) else ckO d.o)
  else bif d.kd == 2 || d.kd == 3 then (bif d.o.isEmpty && (inZ d.wd 2 && inZ d.wu 7) then 0 else 1)
  else 3)
 else 1
def dCk : DV -> Int := hid Jwp
theorem Jsy (d : DV) : dCk d = Jwp d := by rw [dCk, hid_eq]
theorem JhW (x m : Int) : inZ x m = (decide (x >= 0) && decide (x <= m)) := rfl
theorem JMD (x : Int) : decide (x < 0) = !decide (x >= 0) := by rw [← decide_not]; apply decide_eq_decide.2; omega
theorem JME (x m : Int) : decide (x > m) = !decide (x <= m) := by rw [← decide_not]; apply decide_eq_decide.2; omega
theorem JjJ (l : List PV) : decide (zi l.length > 0) = !l.isEmpty := by
 cases l with
 | nil => rfl
 | cons p ps => exact decide_eq_true (by simp only [zi, List.length_cons]; omega)
theorem JCb (ad au id1 ve : Int) (h : List PV) (kd : Int) (oz of : Bool) (o : List PV) (wd wu : Int) (hc : cOk o = true) (k : KR) : g85 0 ad au id1 ve h kd oz of o wd wu k = k ⟨.sc (.int .i64 (dCk ⟨ad, au, id1, ve, h, kd, o, wd, wu⟩)), [], []⟩ := by
 rw [Jsy]
 unfold g85 Jwp
 simp only [hc, JhW, JjJ, cond_true, bne]
 have h2 : (kd == 2) = true -> (kd == 1) = false := fun h => by
     have : kd = 2 := by simpa using h
     rw [this]; decide
 generalize o.isEmpty = e0
 generalize (kd == 1) = d1 at *
 generalize (kd == 2) = d2 at *
 generalize (kd == 3) = d3
 generalize (wd == 0) = w0
 generalize (wu == 0) = w1
 generalize hck : ckO o = ck
 cases decide (ad >= 0)
 · rfl
 cases decide (ad <= 2)
 · rfl
 cases decide (au >= 0)
 · rfl
 cases decide (au <= 7)
 · rfl
 cases decide (id1 >= 0)
 · rfl
 cases decide (id1 <= 1073741824)
 · rfl
 cases decide (ve >= 0)
 · rfl
 cases decide (ve <= 1048576)
 · rfl
 cases d1
 · cases d2
   · cases d3
     · rfl
     · cases e0 <;> cases decide (wd >= 0) <;> cases decide (wd <= 2) <;> cases decide (wu >= 0) <;> cases decide (wu <= 7) <;> rfl
   · cases e0 <;> cases decide (wd >= 0) <;> cases decide (wd <= 2) <;> cases decide (wu >= 0) <;> cases decide (wu <= 7) <;> rfl
 · cases ck == 0 <;> cases w0 <;> cases w1 <;> rfl
def Jl6 : JA
 | [.st 53 [.st 42 [.sc (.int .i64 ad), .sc (.int .i64 au)], .sc (.int .i64 id1), .sc (.int .i64 ve), .ar 37 h, .sc (.int .i64 kd), .ro 113 oz of o, .st 42 [.sc (.int .i64 wd), .sc (.int .i64 wu)]]], [], k => bif cOk o then k ⟨.sc (.int .i64 (dCk ⟨ad, au, id1, ve, h, kd, o, wd, wu⟩)), [], []⟩ else none
 | _, _, _ => none
def JHy : Sig := { own := [], run := Jl6 }
theorem JHz : Jc tau Try.prog 85 JHy := JLC.of fun xs es k res hr => by
 change Jl6 xs es k = some res at hr
 unfold Jl6 at hr
 split at hr
 · rename_i ad au id1 ve h kd oz of o wd wu
   obtain ⟨hc, hr⟩ := Jw hr
   exact (JCb ad au id1 ve h kd oz of o wd wu hc k).trans hr
 · cases hr
theorem JCc (ad au id1 ve : Int) (h : List PV) (kd : Int) (oz of : Bool) (o : List PV) (wd wu : Int) (hc : cOk o = true) (k : KR) : g50 0 ad au id1 ve h kd oz of o wd wu k = k ⟨.sc (.int .i64 (dCk ⟨ad, au, id1, ve, h, kd, o, wd, wu⟩)), [], []⟩ := by
 rw [Jsy]
 unfold g50 Jwp
 simp only [hc, JjJ, cond_true, bne]
 simp only [JhW, Jjs, JMD, JME]
 have h2 : (kd == 2) = true -> (kd == 1) = false := fun h => by
     have : kd = 2 := by simpa using h
     rw [this]; decide
 generalize o.isEmpty = e0
 generalize (kd == 1) = d1 at *
 generalize (kd == 2) = d2 at *
 generalize (kd == 3) = d3
 generalize (wd == 0) = w0
 generalize (wu == 0) = w1
 generalize hck : ckO o = ck
 cases decide (ad >= 0)
 · rfl
 cases decide (ad <= 2)
 · rfl
 cases decide (au >= 0)
 · rfl
 cases decide (au <= 7)
 · rfl
 cases decide (id1 >= 0)
 · rfl
 cases decide (id1 <= 1073741824)
 · rfl
 cases decide (ve >= 0)
 · rfl
 cases decide (ve <= 1048576)
 · rfl
 cases d1
 · cases d2
   · cases d3
     · rfl
     · cases e0 <;> cases decide (wd >= 0) <;> cases decide (wd <= 2) <;> cases decide (wu >= 0) <;> cases decide (wu <= 7) <;> rfl
   · cases e0 <;> cases decide (wd >= 0) <;> cases decide (wd <= 2) <;> cases decide (wu >= 0) <;> cases decide (wu <= 7) <;> rfl
 · cases ck == 0 <;> cases w0 <;> cases w1 <;> rfl
def Jl7 : JA
 | [.st 53 [.st 42 [.sc (.int .i64 ad), .sc (.int .i64 au)], .sc (.int .i64 id1), .sc (.int .i64 ve), .ar 37 h, .sc (.int .i64 kd), .ro 113 oz of o, .st 42 [.sc (.int .i64 wd), .sc (.int .i64 wu)]]], [], k => bif cOk o then k ⟨.sc (.int .i64 (dCk ⟨ad, au, id1, ve, h, kd, o, wd, wu⟩)), [], []⟩ else none
 | _, _, _ => none
def JHA : Sig := { own := [], run := Jl7 }
theorem JHB : Jc tau Try.prog 50 JHA := JLF.of fun xs es k res hr => by
 change Jl7 xs es k = some res at hr
 unfold Jl7 at hr
 split at hr
 · rename_i ad au id1 ve h kd oz of o wd wu
   obtain ⟨hc, hr⟩ := Jw hr
   exact (JCc ad au id1 ve h kd oz of o wd wu hc k).trans hr
 · cases hr
structure AV where
 (d u : Int)
def V9 : PV -> Bool
 | .st t [.sc (.int .i64 _), .sc (.int .i64 _)] => t == 42
 | _ => false
def adP (a : AV) : PV := .st 42 [.sc (.int .i64 a.d), .sc (.int .i64 a.u)]
def av (p : PV) : AV := ⟨(p.child 0).int, (p.child 1).int⟩
theorem JjK {p : PV} : V9 p = true ↔ ∃ a, p = adP a := by
 constructor
 · intro h
   unfold V9 at h
   split at h
   · rename_i t d u
     obtain rfl : t = 42 := by simpa using h
     exact ⟨⟨d, u⟩, rfl⟩
   · cases h
 · rintro ⟨a, rfl⟩; rfl
theorem Jwq {p : PV} (h : V9 p = true) : adP (av p) = p := by obtain ⟨a, rfl⟩ := JjK.1 h; rfl
def GG (p : PV) : Bool := PV.isSt 42 #[Field.mk "D" 3 0 false "" "" 0, Field.mk "U" 3 1 false "" "" 8].size p && (PV.isInt IntKind.i64 (PV.child 0 p) && (PV.isInt IntKind.i64 (PV.child (0 + 1) p) && true))
theorem XM {p : PV} (h : V9 p = true) : GG p = true := by
 obtain ⟨a, rfl⟩ := JjK.1 h
 rfl
theorem XN {l : List PV} (h : l.all V9 = true) {i : Nat} (hi : i < l.length) : V9 (l.getD i .top) = true := by
 rw [List.getD_eq_getElem?_getD, List.getElem?_eq_getElem hi]
 exact List.all_eq_true.1 h _ (List.getElem_mem hi)
def eqA (x y : AV) : Bool := x.d == y.d && (x.u == y.u && true)
theorem QS {x y : AV} : eqA x y = true ↔ x = y := by
 obtain ⟨a, b⟩ := x; obtain ⟨c, d⟩ := y
 simp [eqA]
def ltA (x y : AV) : Bool := decide (x.d < y.d) || (x.d == y.d && decide (x.u < y.u))
theorem Yq {x y : AV} : ltA x y = true ↔ x.d < y.d ∨ (x.d = y.d /\ x.u < y.u) := by simp [ltA]
def srt : List PV -> Bool
 | [] => true
 | p :: ps => ps.all (fun q => ltA (av p) (av q)) && srt ps
def pOk : List PV -> Bool := hid fun l => l.all V9 && (srt l && decide (l.length <= 8))
theorem QD {l : List PV} : pOk l = true ↔ l.all V9 = true /\ srt l = true /\ l.length <= 8 := by
 rw [pOk, hid_eq]; simp only [Bool.and_eq_true, decide_eq_true_eq]
structure PH where
 (l : List PV) (a : AV)
def hasL (l : List PV) (a : AV) : Bool := l.any fun p => eqA (av p) a
def hasP : PH -> Bool := hid fun x => hasL x.l x.a
theorem hasP_eq (x : PH) : hasP x = hasL x.l x.a := by rw [hasP, hid_eq]
def Jwr : AV -> AV -> Bool := hid ltA
theorem Joy (x y : AV) : Jwr x y = ltA x y := by rw [Jwr, hid_eq]
theorem Jy8 (l : List PV) (d u : Int) (h1 : l.all V9 = true) (h2 : l.length <= 1000) (f : Nat) (k0 : Bool -> OR) (k1 : OR) (z fl : Bool) : ∀ (e i n : Nat), i + e = l.length -> e < n ->
  Gr f k0 k1 n z fl l (i : Int) d u = bif hasL (l.drop i) ⟨d, u⟩ then k0 true else k1
 | 0, i, n + 1, hi, hn => by
   rw [List.drop_of_length_le (by omega)]
   simp only [Gr, Jat]
   exact Jd (by simp [zi]; omega)
 | e + 1, i, n + 1, hi, hn => by
   have g1 := tI i
   have w1 := wI (i := i) (by omega)
   have hd := Qb (l := l) (i := i) (by omega)
   have hc := XM (XN h1 (i := i) (by omega))
   unfold GG at hc
   rw [hd]
   simp only [Gr, Jat, g1, w1]
   refine (Ja (by simp [zi]; omega)).trans ((Ja (by rw [hc]; simp [zi]; omega)).trans ?_)
   have he : ((PV.child 0 (l.getD i PV.top)).int == d && ((PV.child (0 + 1) (l.getD i PV.top)).int == u && true)) = eqA (av (l.getD i .top)) ⟨d, u⟩ := rfl
   rw [he]
   have hh : hasL (l.getD i .top :: l.drop (i + 1)) ⟨d, u⟩ = (eqA (av (l.getD i .top)) ⟨d, u⟩ || hasL (l.drop (i + 1)) ⟨d, u⟩) := rfl
   rw [hh]
   cases eqA (av (l.getD i .top)) ⟨d, u⟩ with
   | true => rfl
   | false => exact (Jd rfl).trans (Jy8 l d u h1 h2 f k0 k1 z fl e (i + 1) n (by omega) (by omega))
def Jl8 : JA
 | [.ro 42 z f l, .st 42 [.sc (.int .i64 d), .sc (.int .i64 u)]], [], k => bif pOk l then k ⟨.sc (.bool (hasP ⟨l, ⟨d, u⟩⟩)), [], []⟩ else none
 | _, _, _ => none
def Jws : Sig := { own := [], run := Jl8 }
theorem JCd (z f : Bool) (l : List PV) (d u : Int) (h : pOk l = true) (k : KR) : g58 20 z f l d u k = k ⟨.sc (.bool (hasP ⟨l, ⟨d, u⟩⟩)), [], []⟩ := by
 obtain ⟨h1, _, h3⟩ := QD.1 h
 unfold g58
 rw [hasP_eq]
 refine (Jy8 l d u h1 (by omega) 20 _ _ z f l.length 0 20 (by omega) (by omega)).trans ?_
 rw [List.drop_zero]
 cases hasL l ⟨d, u⟩ <;> rfl
theorem Jsz : Jc tau Try.prog 58 Jws := Jc.mk' fun xs es k res hl hr => by
 change Jl8 xs es k = some res at hr
 unfold Jl8 at hr
 split at hr
 · rename_i z f l d u
   obtain ⟨hc, hr⟩ := Jw hr
   exact J6 Jn Jq8 Jo JEZ JE0 (Jvk (Jec 20)) [.ro] 0 0 (JLn 20) hl rfl ((e58 20 z f l d u k).trans ((JCd z f l d u hc k).trans hr))
 · cases hr
def JhX : JA
 | [.st 42 [.sc (.int .i64 d), .sc (.int .i64 u)], .st 42 [.sc (.int .i64 d2), .sc (.int .i64 u2)]], [], k => k ⟨.sc (.bool (Jwr ⟨d, u⟩ ⟨d2, u2⟩)), [], []⟩
 | _, _, _ => none
def Jy9 : Sig := { own := [], run := JhX }
theorem JCe : Jc tau Try.prog 104 Jy9 := JEY.of fun xs es k res hr => by
 change JhX xs es k = some res at hr
 unfold JhX at hr
 split at hr
 · rename_i d u d2 u2
   refine Eq.trans ?_ hr
   show Jvj 0 d u d2 u2 k = _
   unfold Jvj
   rw [Joy]
   show _ = k ⟨.sc (.bool (decide (d < d2) || (d == d2 && decide (u < u2)))), [], []⟩
   cases decide (d < d2) <;> cases (d == d2) <;> rfl
 · cases hr
structure AA where
 (a b : List PV)
def Jcj : List PV -> Bool := hid fun l => l.all V9 && decide (l.length <= 1000)
theorem Ja1 {l : List PV} : Jcj l = true ↔ l.all V9 = true /\ l.length <= 1000 := by
 rw [Jcj, hid_eq, Bool.and_eq_true, decide_eq_true_eq]

def JHC : Fns := F0
theorem Jwt : Jq tau Try.prog JHC := Jt
def JsA : An := (.seq .leaf (.seq .leaf .leaf))
def JHD (f : Nat) (k : KR) : OR := k (Res.mk (.ar 159 [.sc (.int .u32 1116352408), .sc (.int .u32 1899447441), .sc (.int .u32 3049323471), .sc (.int .u32 3921009573), .sc (.int .u32 961987163), .sc (.int .u32 1508970993), .sc (.int .u32 2453635748), .sc (.int .u32 2870763221), .sc (.int .u32 3624381080), .sc (.int .u32 310598401), .sc (.int .u32 607225278), .sc (.int .u32 1426881987), .sc (.int .u32 1925078388), .sc (.int .u32 2162078206), .sc (.int .u32 2614888103), .sc (.int .u32 3248222580), .sc (.int .u32 3835390401), .sc (.int .u32 4022224774), .sc (.int .u32 264347078), .sc (.int .u32 604807628), .sc (.int .u32 770255983), .sc (.int .u32 1249150122), .sc (.int .u32 1555081692), .sc (.int .u32 1996064986), .sc (.int .u32 2554220882), .sc (.int .u32 2821834349), .sc (.int .u32 2952996808), .sc (.int .u32 3210313671), .sc (.int .u32 3336571891), .sc (.int .u32 3584528711), .sc (.int .u32 113926993), .sc (.int .u32 338241895), .sc (.int .u32 666307205), .sc (.int .u32 773529912), .sc (.int .u32 1294757372), .sc (.int .u32 1396182291), .sc (.int .u32 1695183700), .sc (.int .u32 1986661051), .sc (.int .u32 2177026350), .sc (.int .u32 2456956037), .sc (.int .u32 2730485921), .sc (.int .u32 2820302411), .sc (.int .u32 3259730800), .sc (.int .u32 3345764771), .sc (.int .u32 3516065817), .sc (.int .u32 3600352804), .sc (.int .u32 4094571909), .sc (.int .u32 275423344), .sc (.int .u32 430227734), .sc (.int .u32 506948616), .sc (.int .u32 659060556), .sc (.int .u32 883997877), .sc (.int .u32 958139571), .sc (.int .u32 1322822218), .sc (.int .u32 1537002063), .sc (.int .u32 1747873779), .sc (.int .u32 1955562222), .sc (.int .u32 2024104815), .sc (.int .u32 2227730452), .sc (.int .u32 2361852424), .sc (.int .u32 2428436474), .sc (.int .u32 2756734187), .sc (.int .u32 3204031479), .sc (.int .u32 3329325298)]) [] [])
theorem JMF (f : Nat) (k : KR) : JK tau JHC Try.f116 (Try.f116.body.get!) JsA [.ro] 0 [] [] k = JHD f k := by kernel_rfl
theorem JHE (f : Nat) : ∀ q ∈ Jg (Try.f116.body.get!) JsA, q.Ok tau Try.prog 0 := Jx (by kernel_rfl)
theorem Jza : Try.prog.funcs[116]? = some Try.f116 := by kernel_rfl
theorem Jzb : Try.f116.body = some (Try.f116.body.get!) := by kernel_rfl
theorem JHF : Enters Try.prog 116 := enters_of Jza (by kernel_rfl) Jzb
def Jl9 : JA
 | [], [], k => JHD 0  k
 | _, _, _ => none
def JHG : Sig := { own := [], run := Jl9 }
theorem JHH : Jc tau Try.prog 116 JHG := JP Jn Jwt Jo Jza Jzb JsA [.ro] 0 [] Jl9 (JHE 0) fun xs es k res hr => by
 unfold Jl9 at hr
 split at hr
 · exact ⟨rfl, 0, (JMF 0  _).trans hr⟩
 · cases hr
def N80 : Nat := 113
def F80 : Fns := Js 116 JHG (Js 115 JyG (Js 117 JrX F0))
theorem Jma : Jq tau Try.prog F80 := ((Jt.add JrY JyD).add JBh JGh).add JHH JHF
def Joz : Code := Qj (Try.f80.body.get!) [1, 1, 1, 0, 1, 0, 0]
def JeI : Nm := [(2, .any), (4, .any), (5, .any), (6, .any), (7, .any), (18, .any)]
def Jmb : Nm := [(2, .any), (4, .any), (7, .any)]
def JsB : An := (.seq .leaf (.seq (.cond .leaf .leaf) (.seq (.block none (.seq .leaf (.seq .leaf (.seq .leaf (.seq .leaf .leaf))))) .leaf)))
def JoA : Code := Qj (Try.f80.body.get!) [1, 1, 1, 1, 0, 1, 0, 0]
def JeJ : Nm := [(2, .any), (4, .any), (7, .any), (100, .any)]
def Jmc : Nm := [(4, .any), (7, .any)]
def JsC : An := (.seq .leaf (.seq (.cond .leaf .leaf) (.seq (.block none (.seq .leaf .leaf)) .leaf)))
def JCf (r0 : Qz) (r1 : Qz) : An := (.seq .leaf (.seq .leaf (.seq .leaf (.seq (.seq .leaf (.block none (.sum JeI N80 r0))) (.seq (.seq .leaf (.block none (.sum JeJ N80 r1))) (.seq .leaf .leaf))))))
abbrev JsD := Int -> List PV -> List PV -> List PV -> List PV -> List PV -> OR
abbrev Zi (v0 : Int) (v3 : List PV) (v4 : List PV) (v5 : List PV) := (IntKind.u32.wrap (IntKind.u32.wrap (IntKind.u32.wrap ((Jr (PV.ar 143 v5) [7]).int + JM BinOp.xor IntKind.u32 (JM BinOp.xor IntKind.u32 (rr (Jr (PV.ar 143 v5) [4]).int 6) (rr (Jr (PV.ar 143 v5) [4]).int 11)) (rr (Jr (PV.ar 143 v5) [4]).int 25)) + JM BinOp.xor IntKind.u32 (JM BinOp.and IntKind.u32 (Jr (PV.ar 143 v5) [4]).int (Jr (PV.ar 143 v5) [5]).int) (JM BinOp.and IntKind.u32 (JM BinOp.xor IntKind.u32 (Int.ofNat (2 ^ IntKind.u32.bits - Nat.succ 0)) (Jr (PV.ar 143 v5) [4]).int) (Jr (PV.ar 143 v5) [6]).int)) + (Jr (PV.ar 159 v4) [v0.toNat]).int) + (Jr (PV.ar 159 v3) [v0.toNat]).int)
def Ja2 (f : Nat) (rc : JsD) (k0 : List PV -> List PV -> List PV -> OR) (v0 : Int) (v1 v2 v3 v4 v5 : List PV) : OR := bif decide (v0 < 64) then bif PV.isInt IntKind.u32 (Jr (PV.ar 143 v5) [4]) && true then bif PV.isInt IntKind.u32 (Jr (PV.ar 143 v5) [0]) && true then bif PV.isInt IntKind.u32 (Jr (PV.ar 143 v5) [7]) && true then bif PV.isInt IntKind.u32 (Jr (PV.ar 143 v5) [5]) && true then bif PV.isInt IntKind.u32 (Jr (PV.ar 143 v5) [6]) && true then bif decide (0 <= v0) && decide (v0 < zi 64) && true then bif PV.isInt IntKind.u32 (Jr (PV.ar 159 v4) [v0.toNat]) && true then bif decide (0 <= v0) && decide (v0 < zi 64) && true then bif PV.isInt IntKind.u32 (Jr (PV.ar 159 v3) [v0.toNat]) && true then bif PV.isInt IntKind.u32 (Jr (PV.ar 143 v5) [1]) && true then bif PV.isInt IntKind.u32 (Jr (PV.ar 143 v5) [2]) && true then bif PV.isInt IntKind.u32 (Jr (PV.ar 143 v5) [1]) && true then bif PV.isInt IntKind.u32 (Jr (PV.ar 143 v5) [2]) && true then bif PV.isInt IntKind.u32 (Jr (PV.ar 143 v5) [0]) && true then bif PV.isInt IntKind.u32 (Jr (PV.ar 143 v5) [1]) && true then bif PV.isInt IntKind.u32 (Jr (PV.ar 143 v5) [2]) && true then bif PV.isInt IntKind.u32 (Jr (PV.ar 143 v5) [3]) && true then bif PV.isInt IntKind.u32 (Jr (PV.ar 143 v5) [4]) && true then bif PV.isInt IntKind.u32 (Jr (PV.ar 143 v5) [5]) && true then bif PV.isInt IntKind.u32 (Jr (PV.ar 143 v5) [6]) && true then rc (IntKind.i64.wrap (v0 + 1)) v1 v2 v3 v4 ([.sc (.int .u32 (IntKind.u32.wrap (IntKind.u32.wrap (Zi v0 v3 v4 v5) + IntKind.u32.wrap (JM BinOp.xor IntKind.u32 (JM BinOp.xor IntKind.u32 (rr (Jr (PV.ar 143 v5) [0]).int 2) (rr (Jr (PV.ar 143 v5) [0]).int 13)) (rr (Jr (PV.ar 143 v5) [0]).int 22) + JM BinOp.xor IntKind.u32 (JM BinOp.xor IntKind.u32 (JM BinOp.and IntKind.u32 (Jr (PV.ar 143 v5) [0]).int (Jr (PV.ar 143 v5) [1]).int) (JM BinOp.and IntKind.u32 (Jr (PV.ar 143 v5) [0]).int (Jr (PV.ar 143 v5) [2]).int)) (JM BinOp.and IntKind.u32 (Jr (PV.ar 143 v5) [1]).int (Jr (PV.ar 143 v5) [2]).int))))), .sc (.int .u32 (Jr (PV.ar 143 v5) [0]).int), .sc (.int .u32 (Jr (PV.ar 143 v5) [1]).int), .sc (.int .u32 (Jr (PV.ar 143 v5) [2]).int), .sc (.int .u32 (IntKind.u32.wrap ((Jr (PV.ar 143 v5) [3]).int + IntKind.u32.wrap (Zi v0 v3 v4 v5)))), .sc (.int .u32 (Jr (PV.ar 143 v5) [4]).int), .sc (.int .u32 (Jr (PV.ar 143 v5) [5]).int), .sc (.int .u32 (Jr (PV.ar 143 v5) [6]).int)]) else none else none else none else none else none else none else none else none else none else none else none else none else none else none else none else none else none else none else none else none else k0 v1 v2 v5
def Vb (f : Nat) (k0 : List PV -> List PV -> List PV -> OR) : Nat -> JsD
 | 0 => fun _ _ _ _ _ _ => none
 | n + 1 => Ja2 f (Vb f k0 n) k0
def Ja3 (k : Kont) := fun x0 x1 x2 => k (Ex.exit 0) (Jj Jmb N80 [.ptr 1824 [], .ptr 1825 [], .ptr 1826 []] [(1824, .box false 143 (PV.ar 143 x0)), (1825, .box false 143 (PV.ar 143 x1)), (1826, .box false 143 (PV.ar 143 x2))])
def Jmd (f : Nat) (k : Kont) (n : Nat) (v0 : Int) (v1 v2 v3 v4 v5 : List PV) : OR := Jy tau 0 JeI (fun s k => ev tau F80 0 0 Joz (JsB ) s k) n (Jj JeI N80 [.ptr 1824 [], .ptr 1825 [], .ptr 1826 [], .ptr 1827 [], .ptr 1828 [], .sc (.int .i64 v0)] [(1824, .box false 143 (PV.ar 143 v1)), (1825, .box false 143 (PV.ar 143 v2)), (1826, .box false 159 (PV.ar 159 v3)), (1827, .box false 159 (PV.ar 159 v4)), (1828, .box false 143 (PV.ar 143 v5))]) (JI tau 0 Jmb k)
theorem Jwu (f : Nat) (k : Kont) (n : Nat) : Jmd f k (n + 1) = Ja2 f (Jmd f k n) (Ja3 k) := by kernel_rfl
theorem JoB (f : Nat) (k : Kont) : ∀ n, Jmd f k n = Vb f (Ja3 k) n
 | 0 => rfl
 | n + 1 => (Jwu f k n).trans (congrArg (fun r => Ja2 f r (Ja3 k)) (JoB f k n))
def Jgm (f : Nat) : List PV -> List (Nat × Ent) -> Kont -> OR
 | [.ptr 1824 [], .ptr 1825 [], .ptr 1826 [], .ptr 1827 [], .ptr 1828 [],
 PV.sc
  (Value.int IntKind.i64
   v0)], [(1824, .box false 143 (PV.ar 143 v1)), (1825, .box false 143 (PV.ar 143 v2)), (1826, .box false 159 (PV.ar 159 v3)), (1827, .box false 159 (PV.ar 159 v4)),
 (1828,
  Ent.box false 143
   (PV.ar 143
    v5))], k => Vb f (Ja3 k) f v0 v1 v2 v3 v4 v5
 | _, _, _ => none
theorem JCg (f : Nat) : Jg Joz JsB = [] := by kernel_rfl
theorem JHI (f : Nat) : (Item.l Joz JeI N80 (Jgm f)).Ok tau Try.prog 0 := Ju Jn Jma Jo (x := JsB) (nm2 := Jmb) (Jk _ _ (by rw [JCg f]; intro q hq; cases hq)) fun vs hp k res hr => by
 unfold Jgm at hr
 split at hr
 · exact ⟨f, 0, (JoB f _ f _ _ _ _ _ _ ).trans hr⟩
 · cases hr
abbrev JsE := Int -> List PV -> List PV -> List PV -> OR
def Ja4 (f : Nat) (rc : JsE) (k0 : List PV -> List PV -> OR) (v0 : Int) (v1 v2 v3 : List PV) : OR := bif decide (v0 < 8) then bif decide (0 <= v0) && decide (v0 < zi 8) && true then bif PV.isInt IntKind.u32 (Jr (PV.ar 143 v3) [v0.toNat]) && true then bif decide (0 <= v0) && decide (v0 < zi 8) && true then bif PV.isInt IntKind.u32 (Jr (PV.ar 143 v1) [v0.toNat]) && true then bif decide (0 <= v0) && decide (v0 < zi 8) && true then rc (IntKind.i64.wrap (v0 + 1)) v1 v2 (v3.set v0.toNat (.sc (.int .u32 (IntKind.u32.wrap ((Jr (PV.ar 143 v3) [v0.toNat]).int + (Jr (PV.ar 143 v1) [v0.toNat]).int))))) else none else none else none else none else none else k0 v2 v3
def Vc (f : Nat) (k0 : List PV -> List PV -> OR) : Nat -> JsE
 | 0 => fun _ _ _ _ => none
 | n + 1 => Ja4 f (Vc f k0 n) k0
def Ja5 (k : Kont) := fun x0 x1 => k (Ex.exit 2) (Jj Jmc N80 [.ptr 1824 [], .ptr 1825 []] [(1824, .box false 143 (PV.ar 143 x0)), (1825, .box false 143 (PV.ar 143 x1))])
def Jme (f : Nat) (k : Kont) (n : Nat) (v0 : Int) (v1 v2 v3 : List PV) : OR := Jy tau 0 JeJ (fun s k => ev tau F80 0 0 JoA (JsC ) s k) n (Jj JeJ N80 [.ptr 1824 [], .ptr 1825 [], .ptr 1826 [], .sc (.int .i64 v0)] [(1824, .box false 143 (PV.ar 143 v1)), (1825, .box false 143 (PV.ar 143 v2)), (1826, .box false 143 (PV.ar 143 v3))]) (JI tau 0 Jmc k)
theorem Jwv (f : Nat) (k : Kont) (n : Nat) : Jme f k (n + 1) = Ja4 f (Jme f k n) (Ja5 k) := by kernel_rfl
theorem JoC (f : Nat) (k : Kont) : ∀ n, Jme f k n = Vc f (Ja5 k) n
 | 0 => rfl
 | n + 1 => (Jwv f k n).trans (congrArg (fun r => Ja4 f r (Ja5 k)) (JoC f k n))
def Jgn (f : Nat) : List PV -> List (Nat × Ent) -> Kont -> OR
 | [.ptr 1824 [], .ptr 1825 [], .ptr 1826 [],
 PV.sc
  (Value.int IntKind.i64
   v0)], [(1824, .box false 143 (PV.ar 143 v1)), (1825, .box false 143 (PV.ar 143 v2)),
 (1826,
  Ent.box false 143
   (PV.ar 143
    v3))], k => Vc f (Ja5 k) f v0 v1 v2 v3
 | _, _, _ => none
theorem JCh (f : Nat) : Jg JoA JsC = [] := by kernel_rfl
theorem JHJ (f : Nat) : (Item.l JoA JeJ N80 (Jgn f)).Ok tau Try.prog 0 := Ju Jn Jma Jo (x := JsC) (nm2 := Jmc) (Jk _ _ (by rw [JCh f]; intro q hq; cases hq)) fun vs hp k res hr => by
 unfold Jgn at hr
 split at hr
 · exact ⟨f, 0, (JoC f _ f _ _ _ _ ).trans hr⟩
 · cases hr
def g80 (f : Nat) (s : List PV) (nl fl : Bool) (b : List PV) (k : KR) : OR := bif Jl IntKind.u8 b && decide (b.length = 64) then Vb f (fun x0_0 x1_0 x2_0 => Vc f (fun _ x1_1 => k (Res.mk (.ar 143 x1_1) [] [])) f (0) x0_0 x1_0 x2_0) f (0) s ([.sc (.int .u32 0), .sc (.int .u32 0), .sc (.int .u32 0), .sc (.int .u32 0), .sc (.int .u32 0), .sc (.int .u32 0), .sc (.int .u32 0), .sc (.int .u32 0)]) (pu IntKind.u32 (Qt (JD b))) ([.sc (.int .u32 1116352408), .sc (.int .u32 1899447441), .sc (.int .u32 3049323471), .sc (.int .u32 3921009573), .sc (.int .u32 961987163), .sc (.int .u32 1508970993), .sc (.int .u32 2453635748), .sc (.int .u32 2870763221), .sc (.int .u32 3624381080), .sc (.int .u32 310598401), .sc (.int .u32 607225278), .sc (.int .u32 1426881987), .sc (.int .u32 1925078388), .sc (.int .u32 2162078206), .sc (.int .u32 2614888103), .sc (.int .u32 3248222580), .sc (.int .u32 3835390401), .sc (.int .u32 4022224774), .sc (.int .u32 264347078), .sc (.int .u32 604807628), .sc (.int .u32 770255983), .sc (.int .u32 1249150122), .sc (.int .u32 1555081692), .sc (.int .u32 1996064986), .sc (.int .u32 2554220882), .sc (.int .u32 2821834349), .sc (.int .u32 2952996808), .sc (.int .u32 3210313671), .sc (.int .u32 3336571891), .sc (.int .u32 3584528711), .sc (.int .u32 113926993), .sc (.int .u32 338241895), .sc (.int .u32 666307205), .sc (.int .u32 773529912), .sc (.int .u32 1294757372), .sc (.int .u32 1396182291), .sc (.int .u32 1695183700), .sc (.int .u32 1986661051), .sc (.int .u32 2177026350), .sc (.int .u32 2456956037), .sc (.int .u32 2730485921), .sc (.int .u32 2820302411), .sc (.int .u32 3259730800), .sc (.int .u32 3345764771), .sc (.int .u32 3516065817), .sc (.int .u32 3600352804), .sc (.int .u32 4094571909), .sc (.int .u32 275423344), .sc (.int .u32 430227734), .sc (.int .u32 506948616), .sc (.int .u32 659060556), .sc (.int .u32 883997877), .sc (.int .u32 958139571), .sc (.int .u32 1322822218), .sc (.int .u32 1537002063), .sc (.int .u32 1747873779), .sc (.int .u32 1955562222), .sc (.int .u32 2024104815), .sc (.int .u32 2227730452), .sc (.int .u32 2361852424), .sc (.int .u32 2428436474), .sc (.int .u32 2756734187), .sc (.int .u32 3204031479), .sc (.int .u32 3329325298)]) s else none
theorem e80 (f : Nat) (s : List PV) (nl fl : Bool) (b : List PV) (k : KR) : JK tau F80 Try.f80 (Try.f80.body.get!) (JCf (Jgm f) (Jgn f)) [] 0 [.ar 143 s, .ro 5 nl fl b] [] k = g80 f s nl fl b k := by kernel_rfl
theorem JMG (f : Nat) : Jg (Try.f80.body.get!) (JCf (Jgm f) (Jgn f)) = [.l Joz JeI N80 (Jgm f), .l JoA JeJ N80 (Jgn f)] := by kernel_rfl
theorem JMH (f : Nat) : ∀ q ∈ Jg (Try.f80.body.get!) (JCf (Jgm f) (Jgn f)), q.Ok tau Try.prog 0 := by rw [JMG f]; exact JL (JHI f) (JL (JHJ f) (fun _ h => nomatch h))
theorem JHK : Try.prog.funcs[80]? = some Try.f80 := by kernel_rfl
theorem JHL : Try.f80.body = some (Try.f80.body.get!) := by kernel_rfl
theorem JMI : Enters Try.prog 80 := enters_of JHK (by kernel_rfl) JHL
theorem Vd {R : List Int} (h : R.length = 8) (j : Nat) (hj : j < 8) : (pu .u32 R).getD j .top = .sc (.int .u32 (R.getD j 0)) := ZX (by omega)
theorem Jzc (W s : List Int) (hW : W.length = 64) (hs : s.length = 8) (f : Nat) (k0 : List PV -> List PV -> List PV -> OR) (a b : List PV) : ∀ (d i n : Nat), i + d = 64 -> d < n ->
  Vb f k0 n (i : Int) a b (pu .u32 W) (pu .u32 kks) (pu .u32 (Jcf W s i)) = k0 a b (pu .u32 (Jcf W s 64))
 | 0, i, n + 1, h, hn => by
   obtain rfl : i = 64 := by omega
   simp only [Vb, Ja2, Zi]
   exact Jd (by decide)
 | d + 1, i, n + 1, h, hn => by
   have hl := Ym W s hs i
   have h1 := wI (i := i) (by omega)
   have hk : (pu .u32 kks).getD i .top = .sc (.int .u32 (kks.getD i 0)) := ZX (by show i < 64; omega)
   have hw : (pu .u32 W).getD i .top = .sc (.int .u32 (W.getD i 0)) := ZX (by omega)
   have c1 : decide ((i : Int) < 64) = true := by simp; omega
   have c2 : decide (0 <= (i : Int)) = true := by simp
   have c3 : decide ((i : Int) < zi 64) = true := by simp; omega
   simp only [Vb, Ja2, Zi, Yh, Int.toNat_natCast, h1, hk, hw, c1, c2, c3, Vd hl 0 (by omega), Vd hl 1 (by omega), Vd hl 2 (by omega), Vd hl 3 (by omega), Vd hl 4 (by omega), Vd hl 5 (by omega), Vd hl 6 (by omega), Vd hl 7 (by omega), PV.isInt, PV.int, decide_true, Bool.and_true, cond_true]
   exact Jzc W s hW hs f k0 a b d (i + 1) n (by omega) (by omega)
theorem Jzd (t s : List Int) (ht : t.length = 8) (hs : s.length = 8) (f : Nat) (k0 : List PV -> List PV -> OR) (a : List PV) : ∀ (d i n : Nat), i + d = 8 -> d < n ->
  Vc f k0 n (i : Int) (pu .u32 s) a (pu .u32 (QR (fun j => ww (t.getD j 0 + s.getD j 0)) t i)) = k0 a (pu .u32 (QR (fun j => ww (t.getD j 0 + s.getD j 0)) t 8))
 | 0, i, n + 1, h, hn => by
   obtain rfl : i = 8 := by omega
   simp only [Vc, Ja4]
   exact Jd (by decide)
 | d + 1, i, n + 1, h, hn => by
   have hl : (QR (fun j => ww (t.getD j 0 + s.getD j 0)) t i).length = 8 := by rw [JaM _ _ _ (by omega), ht]
   have h1 := wI (i := i) (by omega)
   have c1 : decide ((i : Int) < 8) = true := by simp; omega
   have c2 : decide (0 <= (i : Int)) = true := by simp
   have c3 : decide ((i : Int) < zi 8) = true := by simp; omega
   have g1 := tI i
   simp only [Vc, Ja4, Yh, g1, h1, c1, c2, c3, Vd hl i (by omega), Vd hs i (by omega), Jgh _ t i (by omega), PV.isInt, PV.int, decide_true, Bool.and_true, cond_true, Xq]
   have := Jzd t s ht hs f k0 a d (i + 1) n (by omega) (by omega)
   rw [← QP _ t i (by omega)] at this
   exact this
theorem JCi (s bs : List Int) (hs : s.length = 8) (hb : bs.length = 64) (nl fl : Bool) (k : KR) : g80 100 (pu .u32 s) nl fl (pu .u8 bs) k = k ⟨.ar 143 (pu .u32 (Jlu s bs)), [], []⟩ := by
 have hW : (Qt bs).length = 64 := Qg bs 48
 have hc : (Jl .u8 (pu .u8 bs) && decide ((pu .u8 bs).length = 64)) = true := by simp [hb]
 refine (Ja hc).trans ?_
 rw [We]
 have h0 : ∀ k0 a b, Vb 100 k0 100 0 a b (pu .u32 (Qt bs)) (pu .u32 kks) (pu .u32 s) = k0 a b (pu .u32 (Jcf (Qt bs) s 64)) := fun k0 a b => Jzc (Qt bs) s hW hs 100 k0 a b 64 0 100 (by omega) (by omega)
 have ht := Ym (Qt bs) s hs 64
 have h1 : ∀ k0 a, Vc 100 k0 100 0 (pu .u32 s) a (pu .u32 (Jcf (Qt bs) s 64)) = k0 a (pu .u32 (Jlu s bs)) := by
  intro k0 a
  have := Jzd (Jcf (Qt bs) s 64) s ht hs 100 k0 a 8 0 100 (by omega) (by omega)
  rw [Wh] at this
  refine this.trans ?_
  have h2 := WZ (fun j => ww ((Jcf (Qt bs) s 64).getD j 0 + s.getD j 0)) (Jcf (Qt bs) s 64)
  rw [ht] at h2; rw [h2]; rfl
 exact (h0 _ _ _).trans (h1 _ _)
def Jmf : JA
 | [.ar 143 s, .ro 5 nl fl b], [], k => bif (Jl .u32 s && decide (s.length = 8)) && (Jl .u8 b && decide (b.length = 64)) then k ⟨.ar 143 (pu .u32 (Jlu (JD s) (JD b))), [], []⟩ else none
 | _, _, _ => none
def JHM : Sig := { own := [], run := Jmf }
theorem JHN : Jc tau Try.prog 80 JHM := JP Jn Jma Jo JHK JHL _ [] 0 [] Jmf (JMH 100) fun xs es k res hr => by
 unfold Jmf at hr
 split at hr
 · obtain ⟨hc, hr⟩ := Jw hr
   simp only [Bool.and_eq_true, decide_eq_true_eq] at hc
   refine ⟨rfl, 0, (e80 100 _ _ _ _ _).trans ?_⟩
   rw [QC hc.2.1, QC hc.1.1, JCi _ _ (by simpa using hc.1.2) (by simpa using hc.2.2)]
   exact hr
 · cases hr
def N78 : Nat := 33
def F78 : Fns := F0
theorem Jmg : Jq tau Try.prog F78 := Jt
def JeK : Code := Qj (Try.f78.body.get!) [1, 0, 1, 1, 1, 1, 0, 1, 0, 0]
def Yz : Nm := [(0, .any), (3, .any), (19, .any)]
def Ve : Nm := [(0, .any)]
def JjL : An := (.seq .leaf (.seq (.cond .leaf .leaf) (.seq (.block none (.seq .leaf .leaf)) .leaf)))
def Ja6 : Code := Qj (Try.f78.body.get!) [1, 0]
def Zj : Nm := [(0, .any), (3, .any)]
def Vf : Nm := [(2, .any)]
def Jgo (r1 : Qz) : An := (.seq .leaf (.seq .leaf (.seq .leaf (.seq (.seq .leaf (.cond (.seq .leaf .leaf) .leaf)) (.seq (.seq .leaf (.block none (.sum Yz N78 r1))) (.seq .leaf .leaf))))))
def JCj (r0 : Jq3) (r1 : Qz) : An := (.seq .leaf (.ssum Zj N78 (Jgo r1) r0))
def Ja7 (f : Nat) (rc : Nat -> Int -> Int -> Bool -> List PV -> OR) (k0 : Nat -> Bool -> List PV -> OR) (v0 : Nat) (v1 v2 : Int) (v3 : Bool) (v4 : List PV) : OR := bif decide (v2 < 8) then bif decide (0 <= IntKind.i64.wrap (56 - IntKind.i64.wrap (8 * v2))) && true then bif Je (v0 + 1) 1 && true then rc (v0 + 1) v1 (IntKind.i64.wrap (v2 + 1)) (v3 && false) (List.take v0 v4 ++ [.sc (.int .u8 (IntKind.u8.wrap (JX IntKind.u64 v1 (IntKind.i64.wrap (56 - IntKind.i64.wrap (8 * v2))))))]) else none else none else k0 v0 v3 v4
def YA (f : Nat) (k0 : Nat -> Bool -> List PV -> OR) : Nat -> Nat -> Int -> Int -> Bool -> List PV -> OR
 | 0, _, _, _, _, _ => none
 | n + 1, v0, v1, v2, v3, v4 => Ja7 f (YA f k0 n) k0 v0 v1 v2 v3 v4
theorem Jww (f : Nat) (k : Kont) (n v0 : Nat) (v1 v2 : Int) (v3 : Bool) (v4 : List PV) : Jy tau 1 Yz (fun s k => ev tau F78 1 0 JeK (JjL ) s k) (n + 1) (Jj Yz N78 [.ow 5 545 [] 0 v0 none, .sc (.int .u64 v1), .sc (.int .i64 v2)] [(0, .dead), (545, .vec false 5 v3 v4)]) (JI tau 1 Ve k) = Ja7 f (fun v0 v1 v2 v3 v4 => Jy tau 1 Yz (fun s k => ev tau F78 1 0 JeK (JjL ) s k) n (Jj Yz N78 [.ow 5 545 [] 0 v0 none, .sc (.int .u64 v1), .sc (.int .i64 v2)] [(0, .dead), (545, .vec false 5 v3 v4)]) (JI tau 1 Ve k)) (fun x0 x1 x2 => k (Ex.exit 0) (Jj Ve N78 [.ow 5 545 [] 0 x0 none] [(0, .dead), (545, .vec false 5 x1 x2)])) v0 v1 v2 v3 v4 := by kernel_rfl
theorem JoD (f : Nat) (k : Kont) : ∀ (n v0 : Nat) (v1 v2 : Int) (v3 : Bool) (v4 : List PV), Jy tau 1 Yz (fun s k => ev tau F78 1 0 JeK (JjL ) s k) n (Jj Yz N78 [.ow 5 545 [] 0 v0 none, .sc (.int .u64 v1), .sc (.int .i64 v2)] [(0, .dead), (545, .vec false 5 v3 v4)]) (JI tau 1 Ve k) = YA f (fun x0 x1 x2 => k (Ex.exit 0) (Jj Ve N78 [.ow 5 545 [] 0 x0 none] [(0, .dead), (545, .vec false 5 x1 x2)])) n v0 v1 v2 v3 v4 | 0, _, _, _, _, _ => rfl | n + 1, v0, v1, v2, v3, v4 => (Jww f k n v0 v1 v2 v3 v4).trans (congrArg (fun r => Ja7 f r (fun x0 x1 x2 => k (Ex.exit 0) (Jj Ve N78 [.ow 5 545 [] 0 x0 none] [(0, .dead), (545, .vec false 5 x1 x2)])) v0 v1 v2 v3 v4) (by funext v0 v1 v2 v3 v4; exact JoD f k n v0 v1 v2 v3 v4))
def ZI (f : Nat) : List PV -> List (Nat × Ent) -> Kont -> OR
 | [.ow 5 545 [] 0 v0 none, .sc (.int .u64 v1),
 PV.sc
  (Value.int IntKind.i64
   v2)], [(0, .dead),
 (545, .vec false 5 v3 v4)], k => YA f (fun x0 x1 x2 => k (Ex.exit 0) (Jj Ve N78 [.ow 5 545 [] 0 x0 none] [(0, .dead), (545, .vec false 5 x1 x2)])) f v0 v1 v2 v3 v4
 | _, _, _ => none
theorem JCk (f : Nat) : Jg JeK JjL = [] := by kernel_rfl
theorem JsF (f : Nat) : (Item.l JeK Yz N78 (ZI f)).Ok tau Try.prog 1 := Ju Jn Jmg Jo (x := JjL) (nm2 := Ve) (Jk _ _ (by rw [JCk f]; intro q hq; cases hq)) fun vs hp k res hr => by
 unfold ZI at hr
 split at hr
 · exact ⟨f, 0, (JoD f _ f _ _ _ _ _ ).trans hr⟩
 · cases hr
def Ja8 (f : Nat) (rc : Nat -> Int -> Bool -> List PV -> OR) (k0 : Nat -> Bool -> List PV -> OR) (v0 : Nat) (v1 : Int) (v2 : Bool) (v3 : List PV) : OR := bif (zi v0).tmod 64 != 56 then bif Je (v0 + 1) 1 && true then rc (v0 + 1) v1 (v2 && false) (List.take v0 v3 ++ [.sc (.int .u8 0)]) else none else YA f k0 f v0 v1 (0) v2 v3
def GH (f : Nat) (k0 : Nat -> Bool -> List PV -> OR) : Nat -> Nat -> Int -> Bool -> List PV -> OR
 | 0, _, _, _, _ => none
 | n + 1, v0, v1, v2, v3 => Ja8 f (GH f k0 n) k0 v0 v1 v2 v3
theorem Jwx (f : Nat) (k : Kont) (n v0 : Nat) (v1 : Int) (v2 : Bool) (v3 : List PV) : Q4 tau 1 Zj (hasLabel Ja6) (fun l s k => Qi tau F78 1 0 Ja6 (Jgo (ZI f)) l s k) (n + 1) 0 (Jj Zj N78 [.ow 5 545 [] 0 v0 none, .sc (.int .u64 v1)] [(0, .dead), (545, .vec false 5 v2 v3)]) (JI tau 1 Vf k) = Ja8 f (fun v0 v1 v2 v3 => Q4 tau 1 Zj (hasLabel Ja6) (fun l s k => Qi tau F78 1 0 Ja6 (Jgo (ZI f)) l s k) n 0 (Jj Zj N78 [.ow 5 545 [] 0 v0 none, .sc (.int .u64 v1)] [(0, .dead), (545, .vec false 5 v2 v3)]) (JI tau 1 Vf k)) (fun x0 x1 x2 => k Ex.ret (Jj Vf N78 [.ow 5 545 [] 0 x0 none] [(0, .dead), (545, .vec false 5 x1 x2)])) v0 v1 v2 v3 := by kernel_rfl
theorem JoE (f : Nat) (k : Kont) : ∀ (n v0 : Nat) (v1 : Int) (v2 : Bool) (v3 : List PV), Q4 tau 1 Zj (hasLabel Ja6) (fun l s k => Qi tau F78 1 0 Ja6 (Jgo (ZI f)) l s k) n 0 (Jj Zj N78 [.ow 5 545 [] 0 v0 none, .sc (.int .u64 v1)] [(0, .dead), (545, .vec false 5 v2 v3)]) (JI tau 1 Vf k) = GH f (fun x0 x1 x2 => k Ex.ret (Jj Vf N78 [.ow 5 545 [] 0 x0 none] [(0, .dead), (545, .vec false 5 x1 x2)])) n v0 v1 v2 v3 | 0, _, _, _, _ => rfl | n + 1, v0, v1, v2, v3 => (Jwx f k n v0 v1 v2 v3).trans (congrArg (fun r => Ja8 f r (fun x0 x1 x2 => k Ex.ret (Jj Vf N78 [.ow 5 545 [] 0 x0 none] [(0, .dead), (545, .vec false 5 x1 x2)])) v0 v1 v2 v3) (by funext v0 v1 v2 v3; exact JoE f k n v0 v1 v2 v3))
def Jgp (f : Nat) : Nat -> List PV -> List (Nat × Ent) -> Kont -> OR
 | 0, [.ow 5 545 [] 0 v0 none,
 PV.sc
  (Value.int IntKind.u64
   v1)], [(0, .dead),
 (545, .vec false 5 v2 v3)], k => GH f (fun x0 x1 x2 => k Ex.ret (Jj Vf N78 [.ow 5 545 [] 0 x0 none] [(0, .dead), (545, .vec false 5 x1 x2)])) f v0 v1 v2 v3
 | _, _, _, _ => none
theorem JCl (f : Nat) : Jg Ja6 (Jgo (ZI f)) = [.l JeK Yz N78 (ZI f)] := by kernel_rfl
theorem JCm (f : Nat) : (Item.s Ja6 Zj N78 (Jgp f)).Ok tau Try.prog 1 := XU Jn Jmg Jo (x := (Jgo (ZI f))) (nm2 := Vf) (Jk _ _ (by rw [JCl f]; simp only [List.forall_mem_cons, List.not_mem_nil, false_implies, implies_true, and_true]; exact JsF f)) fun l vs hp k res hr => by
 unfold Jgp at hr
 split at hr
 · exact ⟨f, 0, (JoE f _ f _ _ _ _ ).trans hr⟩
 · cases hr
def g78 (f : Nat) (nl : Bool) (l : List PV) (n : Nat) (k : KR) : OR := bif Je (n + 1) 1 && true then bif (zi (n + 1)).tmod 64 != 56 then bif Je (n + 1 + 1) 1 && true then GH f (fun x0_1 x1_1 x2_1 => k (Res.mk (.ow 5 16 [] 0 x0_1 none) [.dead] [.vec false 5 x1_1 x2_1])) f (n + 1 + 1) (IntKind.u64.wrap (IntKind.u64.wrap (zi n) * 8)) (nl && false && false) (List.take (n + 1) (List.take n l ++ [.sc (.int .u8 128)]) ++ [.sc (.int .u8 0)]) else none else YA f (fun x0_2 x1_2 x2_2 => k (Res.mk (.ow 5 16 [] 0 x0_2 none) [.dead] [.vec false 5 x1_2 x2_2])) f (n + 1) (IntKind.u64.wrap (IntKind.u64.wrap (zi n) * 8)) (0) (nl && false) (List.take n l ++ [.sc (.int .u8 128)]) else none
theorem e78 (f : Nat) (nl : Bool) (l : List PV) (n : Nat) (k : KR) : JK tau F78 Try.f78 (Try.f78.body.get!) (JCj (Jgp f) (ZI f)) [] 0 [.ow 5 0 [] 0 n none] [.vec false 5 nl l] k = g78 f nl l n k := by kernel_rfl
theorem JMJ (f : Nat) : Jg (Try.f78.body.get!) (JCj (Jgp f) (ZI f)) = [.s Ja6 Zj N78 (Jgp f), .l JeK Yz N78 (ZI f)] := by kernel_rfl
theorem JMK (f : Nat) : ∀ q ∈ Jg (Try.f78.body.get!) (JCj (Jgp f) (ZI f)), q.Ok tau Try.prog 1 := by rw [JMJ f]; exact JL (JCm f) (JL (JsF f) (fun _ h => nomatch h))
theorem JHO : Try.prog.funcs[78]? = some Try.f78 := by kernel_rfl
theorem JHP : Try.f78.body = some (Try.f78.body.get!) := by kernel_rfl
theorem JML : Enters Try.prog 78 := enters_of JHO (by kernel_rfl) JHP
def JCn (n : Int) (i : Nat) : Int := IntKind.u8.wrap (JX .u64 n (56 - 8 * (i : Int)))
theorem Jze (f : Nat) (N : Int) (k0 : Nat -> Bool -> List PV -> OR) (L : List Int) (hL : L.length <= 140737488355300) : ∀ (d i n : Nat) (z : Bool), i + d = 8 -> d < n -> (d = 0 -> z = false) ->
  YA f k0 n (L.length + i) N (i : Int) z (pu .u8 (L ++ (List.range i).map (JCn N))) = k0 (L.length + 8) false (pu .u8 (L ++ (List.range 8).map (JCn N)))
 | 0, i, n + 1, z, h, hn, hz => by
   obtain rfl : i = 8 := by omega
   simp only [YA, Ja7]
   rw [hz rfl]
   exact Jd (by decide)
 | d + 1, i, n + 1, z, h, hn, hz => by
   have h1 := wI (i := i) (by omega)
   have h8 : IntKind.i64.wrap (8 * (i : Int)) = 8 * (i : Int) := wrap_i64 (by omega) (by omega)
   have h9 : IntKind.i64.wrap (56 - 8 * (i : Int)) = 56 - 8 * (i : Int) := wrap_i64 (by omega) (by omega)
   have c1 : decide ((i : Int) < 8) = true := by simp; omega
   have c2 : decide (0 <= 56 - 8 * (i : Int)) = true := by simp; omega
   have c3 : Je (L.length + i + 1) 1 = true := by simp [Je]; omega
   have hlen : (L ++ (List.range i).map (JCn N)).length = L.length + i := by simp
   simp only [YA, Ja7, h1, h8, h9, c1, c2, c3, Bool.and_true, cond_true, Yg, Bool.and_false]
   rw [List.take_of_length_le (by omega)]
   have := Jze f N k0 L hL d (i + 1) n false (by omega) (by omega) (fun _ => rfl)
   rw [List.range_succ, List.map_append, ← List.append_assoc, Qa] at this
   exact this
theorem Jzf (f : Nat) (N : Int) (k0 : Nat -> Bool -> List PV -> OR) (hf : 9 <= f) : ∀ (d n : Nat) (L : List Int) (z : Bool), zs L.length = d -> d < n -> L.length + d <= 140737488355200 ->
  GH f k0 n L.length N z (pu .u8 L) = YA f k0 f (L.length + d) N 0 (z && decide (d = 0)) (pu .u8 (L ++ List.replicate d 0))
 | 0, n + 1, L, z, hd, hn, hL => by
   simp only [GH, Ja8, Jeo]
   refine (Jd (by simp [zs] at hd ⊢; omega)).trans ?_
   simp
 | d + 1, n + 1, L, z, hd, hn, hL => by
   have hlt : d + 1 < 64 := by rw [← hd]; unfold zs; omega
   have c3 : Je (L.length + 1) 1 = true := by simp [Je]; omega
   simp only [GH, Ja8, Jeo, c3, Bool.and_true, cond_true, Yg, Bool.and_false]
   refine (Ja (by simp [zs] at hd ⊢; omega)).trans ?_
   rw [List.take_of_length_le (Nat.le_refl _)]
   have := Jzf f N k0 hf d n (L ++ [0]) false (by simp [zs] at hd ⊢; omega) (by omega) (by simp; omega)
   simp only [List.length_append, List.length_cons, List.length_nil, Nat.zero_add, Qa] at this
   refine this.trans ?_
   rw [show L.length + 1 + d = L.length + (d + 1) from by omega, List.replicate_succ]
   simp
theorem JCo (nl : Bool) (bs : List Int) (hb : bs.length <= 140737488355000) (k : KR) : g78 100 nl (pu .u8 bs) bs.length k = k ⟨.ow 5 16 [] 0 (Q6 bs).length none, [.dead], [.vec false 5 false (pu .u8 (Q6 bs))]⟩ := by
 have c1 : (Je (bs.length + 1) 1 && true) = true := by simp [Je]; omega
 have c2 : (Je (bs.length + 1 + 1) 1 && true) = true := by simp [Je]; omega
 have hlen : (Q6 bs).length = bs.length + 1 + zs (bs.length + 1) + 8 := by simp [Q6, Jv0]; omega
 have hz : zs (bs.length + 1) < 64 := by unfold zs; omega
 refine (Ja c1).trans ?_
 rw [Jeo, Yg, List.take_of_length_le (Nat.le_refl _)]
 have fin : ∀ z, YA 100 (fun x0_2 x1_2 x2_2 => k (Res.mk (PV.ow 5 16 [] 0 x0_2 none) [Ent.dead] [Ent.vec false 5 x1_2 x2_2])) 100 (bs.length + 1 + zs (bs.length + 1)) (IntKind.u64.wrap (IntKind.u64.wrap (zi bs.length) * 8)) 0 z (pu .u8 (bs ++ [128] ++ List.replicate (zs (bs.length + 1)) 0)) = k ⟨.ow 5 16 [] 0 (Q6 bs).length none, [.dead], [.vec false 5 false (pu .u8 (Q6 bs))]⟩ := by
  intro z
  have := Jze 100 (IntKind.u64.wrap (IntKind.u64.wrap (zi bs.length) * 8)) (fun x0_2 x1_2 x2_2 => k (Res.mk (PV.ow 5 16 [] 0 x0_2 none) [Ent.dead] [Ent.vec false 5 x1_2 x2_2])) (bs ++ [128] ++ List.replicate (zs (bs.length + 1)) 0) (by simp; omega) 8 0 100 z (by omega) (by omega) (by omega)
  have hl2 : (bs ++ [128] ++ List.replicate (zs (bs.length + 1)) 0).length = bs.length + 1 + zs (bs.length + 1) := by simp; omega
  rw [hl2] at this
  simp only [List.range_zero, List.map_nil, List.append_nil, Nat.add_zero] at this
  rw [hlen]
  exact this
 cases hc : (((((bs.length + 1) % 64 : Nat) : Int)) != 56) with
 | true =>
  refine (Ja rfl).trans ((Ja c2).trans ?_)
  have hc' : ((bs.length + 1) % 64 : Nat) ≠ 56 := by simp at hc; omega
  have hz1 : zs (bs.length + 1 + 1) + 1 = zs (bs.length + 1) := by unfold zs; omega
  have := Jzf 100 (IntKind.u64.wrap (IntKind.u64.wrap (zi bs.length) * 8)) (fun x0_1 x1_1 x2_1 => k (Res.mk (PV.ow 5 16 [] 0 x0_1 none) [Ent.dead] [Ent.vec false 5 x1_1 x2_1])) (by omega) (zs (bs.length + 1 + 1)) 100 (bs ++ [128] ++ [0]) (nl && false && false) (by simp) (by unfold zs; omega) (by simp; omega)
  have h0 : pu .u8 (bs ++ [128] ++ [0]) = List.take (bs.length + 1) (pu .u8 bs ++ [PV.sc (Value.int IntKind.u8 128)]) ++ [PV.sc (Value.int IntKind.u8 0)] := by
   rw [List.take_of_length_le (by simp)]; simp
  rw [h0] at this
  simp only [List.length_append, List.length_cons, List.length_nil, Nat.zero_add] at this
  refine this.trans ?_
  have h3 : bs ++ [128] ++ [0] ++ List.replicate (zs (bs.length + 1 + 1)) 0 = bs ++ [128] ++ List.replicate (zs (bs.length + 1)) 0 := by
   rw [← hz1, List.replicate_succ]; simp
  rw [h3, show bs.length + 1 + 1 + zs (bs.length + 1 + 1) = bs.length + 1 + zs (bs.length + 1) from by omega]
  exact fin _
 | false =>
  refine (Jd rfl).trans ?_
  have hc' : ((bs.length + 1) % 64 : Nat) = 56 := by simp at hc; omega
  have hz0 : zs (bs.length + 1) = 0 := by unfold zs; omega
  have := fin (nl && false)
  rw [hz0] at this
  simpa using this
def Jmh : JA
 | [.ow 5 0 [] 0 n none], [.vec false 5 nl l], k => bif Jl .u8 l && (decide (n = l.length) && decide (l.length <= 140737488355000)) then k ⟨.ow 5 16 [] 0 (Q6 (JD l)).length none, [.dead], [.vec false 5 false (pu .u8 (Q6 (JD l)))]⟩ else none
 | _, _, _ => none
def JHQ : Sig := { own := [true], run := Jmh }
theorem JHR : Jc tau Try.prog 78 JHQ := JP Jn Jmg Jo JHO JHP _ [] 1 [true] Jmh (JMK 100) fun xs es k res hr => by
 unfold Jmh at hr
 split at hr
 · obtain ⟨hc, hr⟩ := Jw hr
   simp only [Bool.and_eq_true, decide_eq_true_eq] at hc
   refine ⟨rfl, 0, (e78 100 _ _ _ _).trans ?_⟩
   rw [hc.2.1, QC hc.1, JG, JCo _ _ (by simpa using hc.2.2)]
   exact hr
 · cases hr
def F77 : Fns := F0
theorem JCp : Jq tau Try.prog F77 := Jt
def JCq : An := (.seq .leaf (.seq .leaf .leaf))
def g77 (f : Nat) (k : KR) : OR := k (Res.mk (.ar 143 [.sc (.int .u32 1779033703), .sc (.int .u32 3144134277), .sc (.int .u32 1013904242), .sc (.int .u32 2773480762), .sc (.int .u32 1359893119), .sc (.int .u32 2600822924), .sc (.int .u32 528734635), .sc (.int .u32 1541459225)]) [] [])
theorem e77 (f : Nat) (k : KR) : JK tau F77 Try.f77 (Try.f77.body.get!) JCq [.ro] 0 [] [] k = g77 f k := by kernel_rfl
theorem JMM (f : Nat) : ∀ q ∈ Jg (Try.f77.body.get!) JCq, q.Ok tau Try.prog 0 := Jx (by kernel_rfl)
theorem JHS : Try.prog.funcs[77]? = some Try.f77 := by kernel_rfl
theorem JHT : Try.f77.body = some (Try.f77.body.get!) := by kernel_rfl
theorem JMN : Enters Try.prog 77 := enters_of JHS (by kernel_rfl) JHT
def JsG : JA
 | [], [], k => g77 0  k
 | _, _, _ => none
def s77 : Sig := { own := [], run := JsG }
theorem JMO : Jc tau Try.prog 77 s77 := JP Jn JCp Jo JHS JHT JCq [.ro] 0 [] JsG (JMM 0) fun xs es k res hr => by
 unfold JsG at hr
 split at hr
 · exact ⟨rfl, 0, (e77 0  _).trans hr⟩
 · cases hr
def N36 : Nat := 37
def F36 : Fns := Js 77 s77 (Js 78 JHQ (Js 79 Jv6 (Js 80 JHM F0)))
theorem Jmi : Jq tau Try.prog F36 := (((Jt.add JHN JMI).add Jsa JBo).add JHR JML).add JMO JMN
def JoF : Code := Qj (Try.f36.body.get!) [1, 1, 0, 1, 0, 0]
def JeL : Nm := [(2, .any), (3, .any), (4, .ro)]
def Jmj : Nm := [(2, .any), (3, .any)]
def JsH : An := (.seq (.seq .leaf (.cond .leaf .leaf)) (.seq (.block none .leaf) .leaf))
def JoG : Code := Qj (Try.f36.body.get!) [1, 1, 1, 1, 0, 1, 0, 0]
def JeM : Nm := [(2, .any), (3, .any), (5, .any), (20, .any)]
def Jmk : Nm := [(2, .any), (5, .any)]
def JsI : An := (.seq .leaf (.seq (.cond .leaf .leaf) (.seq (.block none (.seq .leaf .leaf)) .leaf)))
def Jwy (r0 : Qz) (r1 : Qz) : An := (.seq .leaf (.seq .leaf (.seq (.seq .leaf (.block none (.sum JeL N36 r0))) (.seq .leaf (.seq (.seq .leaf (.block none (.sum JeM N36 r1))) (.seq .leaf .leaf))))))
abbrev JsJ := List PV -> List PV -> List PV -> OR
def Ja9 (f : Nat) (rc : JsJ) (k0 : List PV -> List PV -> OR) (v0 v1 v2 : List PV) : OR := bif decide (zi v0.length > 0) then bif decide (64 <= v0.length) && true then bif Jl IntKind.u32 v2 && decide (v2.length = 8) && (Jl IntKind.u8 (List.take 64 v0) && decide ((List.take 64 v0).length = 64)) then bif decide (64 <= v0.length) && decide (v0.length <= v0.length) && true then rc (List.drop 64 (List.take v0.length v0)) v1 (pu IntKind.u32 (Jlu (JD v2) (JD (List.take 64 v0)))) else none else none else none else k0 v1 v2
def Vg (f : Nat) (k0 : List PV -> List PV -> OR) : Nat -> JsJ
 | 0 => fun _ _ _ => none
 | n + 1 => Ja9 f (Vg f k0 n) k0
def Jba (k : Kont) := fun x0 x1 => k (Ex.exit 0) (Jj Jmj N36 [.ptr 608 [], .ptr 609 []] [(608, .box false 37 (PV.ar 37 x0)), (609, .box false 143 (PV.ar 143 x1))])
def Jml (f : Nat) (k : Kont) (n : Nat) (v0 v1 v2 : List PV) : OR := Jy tau 0 JeL (fun s k => ev tau F36 0 0 JoF (JsH ) s k) n (Jj JeL N36 [.ptr 608 [], .ptr 609 [], .ro 5 false false v0] [(608, .box false 37 (PV.ar 37 v1)), (609, .box false 143 (PV.ar 143 v2))]) (JI tau 0 Jmj k)
theorem Jwz (f : Nat) (k : Kont) (n : Nat) : Jml f k (n + 1) = Ja9 f (Jml f k n) (Jba k) := by kernel_rfl
theorem JoH (f : Nat) (k : Kont) : ∀ n, Jml f k n = Vg f (Jba k) n
 | 0 => rfl
 | n + 1 => (Jwz f k n).trans (congrArg (fun r => Ja9 f r (Jba k)) (JoH f k n))
def JeN (f : Nat) : List PV -> List (Nat × Ent) -> Kont -> OR
 | [.ptr 608 [], .ptr 609 [],
 PV.ro 5 false false
  v0], [(608, .box false 37 (PV.ar 37 v1)),
 (609,
  Ent.box false 143
   (PV.ar 143
    v2))], k => Vg f (Jba k) f v0 v1 v2
 | _, _, _ => none
theorem JCr (f : Nat) : Jg JoF JsH = [] := by kernel_rfl
theorem JHU (f : Nat) : (Item.l JoF JeL N36 (JeN f)).Ok tau Try.prog 0 := Ju Jn Jmi Jo (x := JsH) (nm2 := Jmj) (Jk _ _ (by rw [JCr f]; intro q hq; cases hq)) fun vs hp k res hr => by
 unfold JeN at hr
 split at hr
 · exact ⟨f, 0, (JoH f _ f _ _ _ ).trans hr⟩
 · cases hr
abbrev JsK := Int -> List PV -> List PV -> List PV -> OR
def Jbb (f : Nat) (rc : JsK) (k0 : List PV -> List PV -> OR) (v0 : Int) (v1 v2 v3 : List PV) : OR := bif decide (v0 < 32) then bif decide (0 <= IntKind.i64.wrap (v0.tdiv 4)) && decide (IntKind.i64.wrap (v0.tdiv 4) < zi 8) && true then bif PV.isInt IntKind.u32 (Jr (PV.ar 143 v2) [(IntKind.i64.wrap (v0.tdiv 4)).toNat]) && true then bif decide (0 <= IntKind.i64.wrap (24 - IntKind.i64.wrap (8 * v0.tmod 4))) && true then bif decide (0 <= v0) && decide (v0 < zi 32) && true then rc (IntKind.i64.wrap (v0 + 1)) v1 v2 (v3.set v0.toNat (.sc (.int .u8 (IntKind.u8.wrap (JX IntKind.u32 (Jr (PV.ar 143 v2) [(IntKind.i64.wrap (v0.tdiv 4)).toNat]).int (IntKind.i64.wrap (24 - IntKind.i64.wrap (8 * v0.tmod 4)))))))) else none else none else none else none else k0 v1 v3
def Vh (f : Nat) (k0 : List PV -> List PV -> OR) : Nat -> JsK
 | 0 => fun _ _ _ _ => none
 | n + 1 => Jbb f (Vh f k0 n) k0
def Jbc (k : Kont) := fun x0 x1 => k (Ex.exit 2) (Jj Jmk N36 [.ptr 608 [], .ptr 609 []] [(608, .box false 37 (PV.ar 37 x0)), (609, .box false 37 (PV.ar 37 x1))])
def Jmm (f : Nat) (k : Kont) (n : Nat) (v0 : Int) (v1 v2 v3 : List PV) : OR := Jy tau 0 JeM (fun s k => ev tau F36 0 0 JoG (JsI ) s k) n (Jj JeM N36 [.ptr 608 [], .ptr 609 [], .ptr 610 [], .sc (.int .i64 v0)] [(608, .box false 37 (PV.ar 37 v1)), (609, .box false 143 (PV.ar 143 v2)), (610, .box false 37 (PV.ar 37 v3))]) (JI tau 0 Jmk k)
theorem JwA (f : Nat) (k : Kont) (n : Nat) : Jmm f k (n + 1) = Jbb f (Jmm f k n) (Jbc k) := by kernel_rfl
theorem JoI (f : Nat) (k : Kont) : ∀ n, Jmm f k n = Vh f (Jbc k) n
 | 0 => rfl
 | n + 1 => (JwA f k n).trans (congrArg (fun r => Jbb f r (Jbc k)) (JoI f k n))
def JeO (f : Nat) : List PV -> List (Nat × Ent) -> Kont -> OR
 | [.ptr 608 [], .ptr 609 [], .ptr 610 [],
 PV.sc
  (Value.int IntKind.i64
   v0)], [(608, .box false 37 (PV.ar 37 v1)), (609, .box false 143 (PV.ar 143 v2)),
 (610,
  Ent.box false 37
   (PV.ar 37
    v3))], k => Vh f (Jbc k) f v0 v1 v2 v3
 | _, _, _ => none
theorem JCs (f : Nat) : Jg JoG JsI = [] := by kernel_rfl
theorem JHV (f : Nat) : (Item.l JoG JeM N36 (JeO f)).Ok tau Try.prog 0 := Ju Jn Jmi Jo (x := JsI) (nm2 := Jmk) (Jk _ _ (by rw [JCs f]; intro q hq; cases hq)) fun vs hp k res hr => by
 unfold JeO at hr
 split at hr
 · exact ⟨f, 0, (JoI f _ f _ _ _ _ ).trans hr⟩
 · cases hr
abbrev JsL := (Jcb)
def g36 (f : Nat) (nl fl : Bool) (l : List PV) (k : KR) : OR := bif l.all (PV.isRo 5) && (decide ((JH l).length <= 140737488355328) && decide (l.length <= 140737488355328)) then bif Jl IntKind.u8 (JH l) && (decide ((JH l).length = (JH l).length) && decide ((JH l).length <= 140737488355000)) then Vg f (fun x0_0 x1_0 => Vh f (fun _ x1_1 => k (Res.mk (.ar 37 x1_1) [] [])) f (0) x0_0 x1_0 JsL) f (List.take (Q6 (JD (JH l))).length (pu IntKind.u8 (Q6 (JD (JH l))))) JsL ([.sc (.int .u32 1779033703), .sc (.int .u32 3144134277), .sc (.int .u32 1013904242), .sc (.int .u32 2773480762), .sc (.int .u32 1359893119), .sc (.int .u32 2600822924), .sc (.int .u32 528734635), .sc (.int .u32 1541459225)]) else none else none
theorem e36 (f : Nat) (nl fl : Bool) (l : List PV) (k : KR) : JK tau F36 Try.f36 (Try.f36.body.get!) (Jwy (JeN f) (JeO f)) [] 0 [.ro 29 nl fl l] [] k = g36 f nl fl l k := by kernel_rfl
theorem JMP (f : Nat) : Jg (Try.f36.body.get!) (Jwy (JeN f) (JeO f)) = [.l JoF JeL N36 (JeN f), .l JoG JeM N36 (JeO f)] := by kernel_rfl
theorem JMQ (f : Nat) : ∀ q ∈ Jg (Try.f36.body.get!) (Jwy (JeN f) (JeO f)), q.Ok tau Try.prog 0 := by rw [JMP f]; exact JL (JHU f) (JL (JHV f) (fun _ h => nomatch h))
theorem JHW : Try.prog.funcs[36]? = some Try.f36 := by kernel_rfl
theorem JHX : Try.f36.body = some (Try.f36.body.get!) := by kernel_rfl
theorem JHY : Enters Try.prog 36 := enters_of JHW (by kernel_rfl) JHX
theorem Jgq : iv.length = 8 := rfl
theorem Jzg (P : List Int) (m : Nat) (hP : P.length = 64 * m) (f : Nat) (k0 : List PV -> List PV -> OR) (a : List PV) : ∀ (d i n : Nat), i + d = m -> d < n ->
  Vg f k0 n (pu .u8 (P.drop (64 * i))) a (pu .u32 (XY iv P i)) = k0 a (pu .u32 (XY iv P m))
 | 0, i, n + 1, h, hn => by
   obtain rfl : i = m := by omega
   have hl : (P.drop (64 * i)).length = 0 := by rw [List.length_drop]; omega
   simp only [Vg, Ja9, JG, hl]
   exact Jd (by decide)
 | d + 1, i, n + 1, h, hn => by
   have hl : 64 <= (P.drop (64 * i)).length := by rw [List.length_drop]; omega
   have hf := Xz iv P Jgq i
   simp only [Vg, Ja9, JG, Yg, JO, hf, We]
   refine (Ja (by simp; omega)).trans ?_
   refine (Ja (by simp at hl ⊢; omega)).trans ?_
   refine (Ja (by simp at hl ⊢; omega)).trans ?_
   refine (Ja (by simp at hl ⊢; omega)).trans ?_
   rw [List.take_of_length_le (Nat.le_refl _), Jn1, List.drop_drop]
   have := Jzg P m hP f k0 a d (i + 1) n (by omega) (by omega)
   rw [show 64 * i + 64 = 64 * (i + 1) from by omega]
   exact this
theorem Jzh (s : List Int) (hs : s.length = 8) (f : Nat) (k0 : List PV -> List PV -> OR) (a : List PV) (t : List Int) (ht : t.length = 32) : ∀ (d i n : Nat), i + d = 32 -> d < n ->
  Vh f k0 n (i : Int) a (pu .u32 s) (pu .u8 (QR (ZK s) t i)) = k0 a (pu .u8 (Jr4 s))
 | 0, i, n + 1, h, hn => by
   obtain rfl : i = 32 := by omega
   simp only [Vh, Jbb]
   refine (Jd (by decide)).trans ?_
   have := WZ (ZK s) t
   rw [ht] at this; rw [this]; rfl
 | d + 1, i, n + 1, h, hn => by
   have e1 : ((i : Int)).tdiv 4 = ((i / 4 : Nat) : Int) := by rw [Int.tdiv_eq_ediv_of_nonneg (by omega)]; omega
   have e2 : ((i : Int)).tmod 4 = ((i % 4 : Nat) : Int) := by rw [Int.tmod_eq_emod_of_nonneg (by omega)]; omega
   have h1 := wI (i := i) (by omega)
   have h2 : IntKind.i64.wrap ((i / 4 : Nat) : Int) = ((i / 4 : Nat) : Int) := wrap_i64 (by omega) (by omega)
   have h3 : IntKind.i64.wrap (8 * ((i % 4 : Nat) : Int)) = 8 * ((i % 4 : Nat) : Int) := wrap_i64 (by omega) (by omega)
   have h4 : IntKind.i64.wrap (24 - 8 * ((i % 4 : Nat) : Int)) = 24 - 8 * ((i % 4 : Nat) : Int) := wrap_i64 (by omega) (by omega)
   have g1 := tI i
   have g2 : (((i / 4 : Nat) : Int)).toNat = i / 4 := by omega
   have c0 : decide ((i : Int) < 32) = true := by simp; omega
   have c1 : (decide (0 <= ((i / 4 : Nat) : Int)) && decide (((i / 4 : Nat) : Int) < zi 8) && true) = true := by simp; omega
   have c2 : (decide (0 <= 24 - 8 * ((i % 4 : Nat) : Int)) && true) = true := by simp; omega
   have c3 : (decide (0 <= (i : Int)) && decide ((i : Int) < zi 32) && true) = true := by simp; omega
   simp only [Vh, Jbb, e1, e2, h1, h2, h3, h4, g1, g2, Yh, c0, c1, c2, c3, Vd hs (i / 4) (by omega), PV.isInt, PV.int, decide_true, Bool.and_true, cond_true, Xq]
   have := Jzh s hs f k0 a t ht d (i + 1) n (by omega) (by omega)
   rw [← QP (ZK s) t i (by omega)] at this
   exact this
theorem JCt (nl fl : Bool) (l : List PV) (k : KR) (hl : l.all (PV.isRo 5) = true) (hn : l.length <= 140737488355328) (hi : Jl .u8 (JH l) = true) (hs : (JH l).length <= 140737488355000) :
  g36 ((Q6 (JD (JH l))).length / 64 + 100) nl fl l k = k ⟨.ar 37 (pu .u8 (JZ (JD (JH l)))), [], []⟩ := by
 refine (Ja (by simp only [hl, Bool.true_and, Bool.and_eq_true, decide_eq_true_eq]; omega)).trans ?_
 refine (Ja (by simp only [hi, Bool.true_and, Bool.and_eq_true, decide_eq_true_eq, true_and]; exact hs)).trans ?_
 rw [Yg, List.take_of_length_le (Nat.le_refl _)]
 generalize hP : Q6 (JD (JH l)) = P
 have hlen : P.length = 64 * (P.length / 64) := by rw [← hP]; exact JcY _
 have h0 : ∀ k0 a, Vg (P.length / 64 + 100) k0 (P.length / 64 + 100) (pu .u8 P) a (pu .u32 iv) = k0 a (pu .u32 (XY iv P (P.length / 64))) := fun k0 a => Jzg P (P.length / 64) hlen _ k0 a (P.length / 64) 0 _ (by omega) (by omega)
 have h1 : ∀ k0 a s, s.length = 8 -> Vh (P.length / 64 + 100) k0 (P.length / 64 + 100) 0 a (pu .u32 s) (pu .u8 (List.replicate 32 0)) = k0 a (pu .u8 (Jr4 s)) := by
  intro k0 a s hs
  have := Jzh s hs (P.length / 64 + 100) k0 a (List.replicate 32 0) (by simp) 32 0 (P.length / 64 + 100) (by omega) (by omega)
  rw [Wh] at this
  exact this
 refine (h0 _ _).trans ((h1 _ _ _ (Xz iv P Jgq _)).trans ?_)
 rw [Jdq, Jom, hP]
def Jmn : JA
 | [.ro 29 nl fl l], [], k => bif (l.all (PV.isRo 5) && decide (l.length <= 140737488355328)) && (Jl .u8 (JH l) && decide ((JH l).length <= 140737488355000)) then k ⟨.ar 37 (pu .u8 (JZ (JD (JH l)))), [], []⟩ else none
 | _, _, _ => none
def JCu : Sig := { own := [], run := Jmn }
theorem Jzi : Jc tau Try.prog 36 JCu := Jg7 Jn Jmi Jo JHW JHX (fun n => Jwy (JeN n) (JeO n)) [] 0 [] Jmn (fun n => JMQ n) fun xs es k res hr => by
 unfold Jmn at hr
 split at hr
 · rename_i nl fl l
   obtain ⟨hc, hr⟩ := Jw hr
   simp only [Bool.and_eq_true, decide_eq_true_eq] at hc
   refine ⟨rfl, (Q6 (JD (JH l))).length / 64 + 100, 0, (e36 _ _ _ _ _).trans ?_⟩
   rw [JCt nl fl l k hc.1.1 hc.1.2 hc.2.1 hc.2.2]; exact hr
 · cases hr
def F13 : Fns := Js 36 JCu (Js 35 JGY (F0))
theorem JCv : Jq tau Try.prog F13 := ((Jt).add JyX JBy).add Jzi JHY
def JCw : Nm := [(2, .any), (3, .any), (4, .any), (5, .any), (22, .any), (23, .any), (24, .any)]
def Wr : An := (.seq .leaf (.seq (.cond .leaf .leaf) (.seq (.block none (.seq .leaf .leaf)) .leaf)))
def JCx : An := (.seq .leaf (.seq .leaf (.seq (.seq .leaf (.block none (.loop JCw Wr))) (.seq .leaf .leaf))))
abbrev Vi (y0 : Int) := (fTo FloatKind.f64 (fOf FloatKind.f64 y0))
abbrev GI (id_N : Int) := (fTo FloatKind.f64 (fOf FloatKind.f64 id_N))
abbrev Jck (y1 : Int) := (fTo FloatKind.f64 (fOf FloatKind.f64 y1))
abbrev JeP (y2 : Int) := (fTo FloatKind.f64 (fOf FloatKind.f64 y2))
abbrev JhY (y0 : Int) (id_N : Int) (y1 : Int) (y2 : Int) := (JH [PV.ro 5 false false (pu IntKind.u8 (QG ((Vi y0).getD 0)) ++ pu IntKind.u8 (QG ((GI id_N).getD 0)) ++ pu IntKind.u8 (QG ((Jck y1).getD 0)) ++ pu IntKind.u8 (QG ((JeP y2).getD 0)))])
abbrev JeQ := (2 ^ (IntKind.i64.bits - 1) - Nat.succ 0)
def g13 (f : Nat) (y0 id_N y1 y2 : Int) (k : KR) : OR := bif (Vi y0).isSome && decide (Int.negSucc 9223372036854775807 <= (Vi y0).getD 0) && decide ((Vi y0).getD 0 <= Int.ofNat JeQ) && true then bif (GI id_N).isSome && decide (Int.negSucc 9223372036854775807 <= (GI id_N).getD 0) && decide ((GI id_N).getD 0 <= Int.ofNat JeQ) && true then bif slB false (pu IntKind.u8 (QG ((Vi y0).getD 0))) then bif (Jck y1).isSome && decide (Int.negSucc 9223372036854775807 <= (Jck y1).getD 0) && decide ((Jck y1).getD 0 <= Int.ofNat JeQ) && true then bif slB false (pu IntKind.u8 (QG ((Vi y0).getD 0)) ++ pu IntKind.u8 (QG ((GI id_N).getD 0))) then bif (JeP y2).isSome && decide (Int.negSucc 9223372036854775807 <= (JeP y2).getD 0) && decide ((JeP y2).getD 0 <= Int.ofNat JeQ) && true then bif slB false (pu IntKind.u8 (QG ((Vi y0).getD 0)) ++ pu IntKind.u8 (QG ((GI id_N).getD 0)) ++ pu IntKind.u8 (QG ((Jck y1).getD 0))) then bif Jl IntKind.u8 (JhY y0 id_N y1 y2) && decide ((JhY y0 id_N y1 y2).length <= 140737488355000) then k (Res.mk (.st 39 [.st 34 [.sc (.int .i64 y0), .sc (.int .i64 id_N)], .sc (.string (ByteArray.mk #[])), .ro 42 false false [.st 42 [.sc (.int .i64 y1), .sc (.int .i64 y2)]], .sc (.int .i64 0), .ar 37 (pu IntKind.u8 (JZ (JD (JhY y0 id_N y1 y2))))]) [] []) else none else none else none else none else none else none else none else none
theorem e13 (f : Nat) (y0 id_N y1 y2 : Int) (k : KR) : JK tau F13 Try.f13 (Try.f13.body.get!) JCx [.ro] 4 [.st 34 [.sc (.int .i64 y0), .sc (.int .i64 id_N)], .st 42 [.sc (.int .i64 y1), .sc (.int .i64 y2)]] [] k = g13 f y0 id_N y1 y2 k := by kernel_rfl
theorem JMR (f : Nat) : ∀ q ∈ Jg (Try.f13.body.get!) JCx, q.Ok tau Try.prog 0 := Jx (by kernel_rfl)
theorem JHZ : Try.prog.funcs[13]? = some Try.f13 := by kernel_rfl
theorem JH0 : Try.f13.body = some (Try.f13.body.get!) := by kernel_rfl
theorem JH1 : Enters Try.prog 13 := enters_of JHZ (by kernel_rfl) JH0
theorem JwB : (List.range 128).all (fun i => fTo .f64 (fOf .f64 (i : Int)) == some (i : Int)) = true := by kernel_rfl
theorem VP {x : Int} (h0 : 0 <= x) (h1 : x < 128) : fTo .f64 (fOf .f64 x) = some x := by
 have := List.all_eq_true.1 JwB x.toNat (List.mem_range.2 (by omega))
 rw [show ((x.toNat : Nat) : Int) = x from by omega] at this
 simpa using this
structure Nw4 where
 (a b c d : Int)
def Vj : Nw4 -> Bool := hid fun x => (decide (0 <= x.a) && decide (x.a < 128)) && (decide (0 <= x.b) && decide (x.b < 128)) && (decide (0 <= x.c) && decide (x.c < 128)) && (decide (0 <= x.d) && decide (x.d < 128))
def JhZ (x : Nw4) : List Int := QG x.a ++ QG x.b ++ QG x.c ++ QG x.d
def Jmo : Nw4 -> List Int := hid fun x => JZ (JhZ x)
theorem JoJ (x : Nw4) : Jmo x = JZ (JhZ x) := by rw [Jmo, hid_eq]
def wnP (h n d u : Int) (s : List Int) : PV := .st 39 [.st 34 [.sc (.int .i64 h), .sc (.int .i64 n)], .sc (.string (ByteArray.mk #[])), .ro 42 false false [.st 42 [.sc (.int .i64 d), .sc (.int .i64 u)]], .sc (.int .i64 0), .ar 37 (pu .u8 s)]
theorem JCy (h n d u : Int) (hs : Vj ⟨h, n, d, u⟩ = true) (k : KR) : g13 0 h n d u k = k ⟨wnP h n d u (Jmo ⟨h, n, d, u⟩), [], []⟩ := by
 rw [Vj, hid_eq] at hs
 simp only [Bool.and_eq_true, decide_eq_true_eq] at hs
 have c : ∀ x : Int, 0 <= x -> x < 128 -> (decide (Int.negSucc 9223372036854775807 <= x) && decide (x <= Int.ofNat (2 ^ (IntKind.i64.bits - 1) - Nat.succ 0))) = true := by
   intro x h0 h1
   have e1 : Int.ofNat (2 ^ (IntKind.i64.bits - 1) - Nat.succ 0) = 9223372036854775807 := by decide
   rw [e1]; simp; omega
 have c1 : ∀ x : Int, 0 <= x -> x < 128 -> decide (Int.negSucc 9223372036854775807 <= x) = true := fun x h0 h1 => by have := c x h0 h1; simp only [Bool.and_eq_true] at this; exact this.1
 have c2 : ∀ x : Int, 0 <= x -> x < 128 -> decide (x <= Int.ofNat (2 ^ (IntKind.i64.bits - 1) - Nat.succ 0)) = true := fun x h0 h1 => by have := c x h0 h1; simp only [Bool.and_eq_true] at this; exact this.2
 rw [JoJ]
 unfold g13 JeQ JhY JeP Jck GI Vi
 simp only [VP hs.1.1.1.1 hs.1.1.1.2, VP hs.1.1.2.1 hs.1.1.2.2, VP hs.1.2.1 hs.1.2.2, VP hs.2.1 hs.2.2, Option.isSome_some, Option.getD_some, c1 _ hs.1.1.1.1 hs.1.1.1.2, c1 _ hs.1.1.2.1 hs.1.1.2.2, c1 _ hs.1.2.1 hs.1.2.2, c1 _ hs.2.1 hs.2.2, c2 _ hs.1.1.1.1 hs.1.1.1.2, c2 _ hs.1.1.2.1 hs.1.1.2.2, c2 _ hs.1.2.1 hs.1.2.2, c2 _ hs.2.1 hs.2.2,
   We, JO, JG, XK, JaR, PV.els, List.append_nil, List.nil_append, List.length_append, Z8, Bool.and_true, Bool.true_and, cond_true, Nat.reduceAdd, Nat.reduceLeDiff, decide_true]
 have sl : ∀ l : List PV, l.length <= 1000 -> slB false l = true := fun l h => Xy.2 ⟨fun h => (by cases h), by omega⟩
 refine (Ja (sl _ (by simp))).trans ((Ja (sl _ (by simp))).trans ((Ja (sl _ (by simp))).trans ((Ja ?_).trans ?_)))
 · simp only [Wb, JO]; rfl
 simp only [← Qa, We]
 rfl
def Jmp : JA
 | [.st 34 [.sc (.int .i64 h), .sc (.int .i64 n)], .st 42 [.sc (.int .i64 d), .sc (.int .i64 u)]], [], k => bif Vj ⟨h, n, d, u⟩ then k ⟨.st 39 [.st 34 [.sc (.int .i64 h), .sc (.int .i64 n)], .sc (.string (ByteArray.mk #[])), .ro 42 false false [.st 42 [.sc (.int .i64 d), .sc (.int .i64 u)]], .sc (.int .i64 0), .ar 37 (pu .u8 (Jmo ⟨h, n, d, u⟩))], [], []⟩ else none
 | _, _, _ => none
def JCz : Sig := { own := [], run := Jmp }
theorem Jzj : Jc tau Try.prog 13 JCz := Jc.mk' fun xs es k res hl hr => by
 change Jmp xs es k = some res at hr
 unfold Jmp at hr
 split at hr
 · rename_i h n d u
   obtain ⟨hc, hr2⟩ := Jw hr
   exact J6 Jn JCv Jo JHZ JH0 JCx [.ro] 0 4 (JMR 0) hl rfl ((e13 0 h n d u k).trans ((JCy h n d u hc k).trans hr2))
 · cases hr
def F9 : Fns := Js 13 JCz (F0)
theorem JH2 : Jq tau Try.prog F9 := (Jt).add Jzj JH1
def an9 : An := (.seq .leaf (.seq .leaf (.seq .leaf .leaf)))
def g9 (f : Nat) (k : KR) : OR := bif Vj (Nw4.mk 1 0 1 2) then k (Res.mk (.sc (.bool true)) [] []) else none
theorem e9 (f : Nat) (k : KR) : JK tau F9 Try.f9 (Try.f9.body.get!) an9 [.ro] 0 [] [] k = g9 f k := by kernel_rfl
theorem ia9 (f : Nat) : ∀ q ∈ Jg (Try.f9.body.get!) an9, q.Ok tau Try.prog 0 := Jx (by kernel_rfl)
theorem fo9 : Try.prog.funcs[9]? = some Try.f9 := by kernel_rfl
theorem bo9 : Try.f9.body = some (Try.f9.body.get!) := by kernel_rfl
theorem en9 : Enters Try.prog 9 := enters_of fo9 (by kernel_rfl) bo9
def JCA : JA
 | [], [], k => g9 0  k
 | _, _, _ => none
def s9 : Sig := { own := [], run := JCA }
theorem ok9 : Jc tau Try.prog 9 s9 := JP Jn JH2 Jo fo9 bo9 an9 [.ro] 0 [] JCA (ia9 0) fun xs es k res hr => by
 unfold JCA at hr
 split at hr
 · exact ⟨rfl, 0, (e9 0  _).trans hr⟩
 · cases hr
def F65 : Fns := Js 76 JFO (F0)
theorem JCB : Jq tau Try.prog F65 := (Jt).add JFP JLP
def JCC : An := (.seq .leaf (.seq .leaf .leaf))
def g65 (f : Nat) (b_z b_f : Bool) (b : List PV) (k : KR) : OR := bif slB b_z b then k (Res.mk (.ptr 16 []) [] [.box false 166 (PV.st 166 [.ro 5 b_z b_z b, .sc (.int .i64 0)])]) else none
theorem e65 (f : Nat) (b_z b_f : Bool) (b : List PV) (k : KR) : JK tau F65 Try.f65 (Try.f65.body.get!) JCC [.any] 0 [.ro 5 b_z b_f b] [] k = g65 f b_z b_f b k := by kernel_rfl
theorem JMS (f : Nat) : ∀ q ∈ Jg (Try.f65.body.get!) JCC, q.Ok tau Try.prog 0 := Jx (by kernel_rfl)
theorem JH3 : Try.prog.funcs[65]? = some Try.f65 := by kernel_rfl
theorem JH4 : Try.f65.body = some (Try.f65.body.get!) := by kernel_rfl
theorem JH5 : Enters Try.prog 65 := enters_of JH3 (by kernel_rfl) JH4
def JsM : JA
 | [.ro 5 b_z b_f b], [], k => g65 0 b_z b_f b k
 | _, _, _ => none
def s65 : Sig := { own := [], run := JsM }
theorem JH6 : Jc tau Try.prog 65 s65 := JP Jn JCB Jo JH3 JH4 JCC [.any] 0 [] JsM (JMS 0) fun xs es k res hr => by
 unfold JsM at hr
 split at hr
 · exact ⟨rfl, 0, (e65 0 _ _ _  _).trans hr⟩
 · cases hr
def F67 : Fns := F0
theorem JCD : Jq tau Try.prog F67 := Jt
def JCE : An := (.seq .leaf (.seq (.seq .leaf (.cond (.seq .leaf .leaf) .leaf)) (.seq .leaf .leaf)))
def g67 (f : Nat) (y0 y1 : Bool) (r_b : List PV) (r_e : Int) (k : KR) : OR := bif r_e == 0 then bif decide (zi r_b.length > 0) then k (Res.mk (.sc (.int .i64 9)) [.box false 166 (PV.st 166 [.ro 5 y0 y1 r_b, .sc (.int .i64 r_e)])] []) else k (Res.mk (.sc (.int .i64 r_e)) [.box false 166 (PV.st 166 [.ro 5 y0 y1 r_b, .sc (.int .i64 r_e)])] []) else k (Res.mk (.sc (.int .i64 r_e)) [.box false 166 (PV.st 166 [.ro 5 y0 y1 r_b, .sc (.int .i64 r_e)])] [])
theorem e67 (f : Nat) (y0 y1 : Bool) (r_b : List PV) (r_e : Int) (k : KR) : JK tau F67 Try.f67 (Try.f67.body.get!) JCE [.ro] 0 [.ptr 0 []] [.box false 166 (.st 166 [.ro 5 y0 y1 r_b, .sc (.int .i64 r_e)])] k = g67 f y0 y1 r_b r_e k := by kernel_rfl
theorem JMT (f : Nat) : ∀ q ∈ Jg (Try.f67.body.get!) JCE, q.Ok tau Try.prog 1 := Jx (by kernel_rfl)
theorem JH7 : Try.prog.funcs[67]? = some Try.f67 := by kernel_rfl
theorem JH8 : Try.f67.body = some (Try.f67.body.get!) := by kernel_rfl
theorem JH9 : Enters Try.prog 67 := enters_of JH7 (by kernel_rfl) JH8
def JsN : JA
 | [.ptr 0 []], [.box false 166 (.st 166 [.ro 5 y0 y1 r_b, .sc (.int .i64 r_e)])], k => g67 0 y0 y1 r_b r_e k
 | _, _, _ => none
def s67 : Sig := { own := [], run := JsN }
theorem JIa : Jc tau Try.prog 67 s67 := JP Jn JCD Jo JH7 JH8 JCE [.ro] 1 [] JsN (JMT 0) fun xs es k res hr => by
 unfold JsN at hr
 split at hr
 · exact ⟨rfl, 0, (e67 0 _ _ _ _  _).trans hr⟩
 · cases hr
def JIb : Fns := F0
theorem JwC : Jq tau Try.prog JIb := Jt
def JsO : An := (.seq .leaf (.seq (.seq .leaf (.cond (.seq .leaf .leaf) .leaf)) (.seq .leaf .leaf)))
def JIc (f : Nat) (s_z s_f : Bool) (s : List PV) (k : KR) : OR := bif s_z then k (Res.mk (.ro 113 true true []) [] []) else bif Je (0 + s.length) 32 && true then k (Res.mk (.ro 113 false false (List.take (0 + s.length) s)) [] []) else none
theorem JMU (f : Nat) (s_z s_f : Bool) (s : List PV) (k : KR) : JK tau JIb Try.f120 (Try.f120.body.get!) JsO [.ro] 0 [.ro 113 s_z s_f s] [] k = JIc f s_z s_f s k := by kernel_rfl
theorem JId (f : Nat) : ∀ q ∈ Jg (Try.f120.body.get!) JsO, q.Ok tau Try.prog 0 := Jx (by kernel_rfl)
theorem Jzk : Try.prog.funcs[120]? = some Try.f120 := by kernel_rfl
theorem Jzl : Try.f120.body = some (Try.f120.body.get!) := by kernel_rfl
theorem JIe : Enters Try.prog 120 := enters_of Jzk (by kernel_rfl) Jzl
def Jmq : JA
 | [.ro 113 s_z s_f s], [], k => JIc 0 s_z s_f s k
 | _, _, _ => none
def JIf : Sig := { own := [], run := Jmq }
theorem JIg : Jc tau Try.prog 120 JIf := JP Jn JwC Jo Jzk Jzl JsO [.ro] 0 [] Jmq (JId 0) fun xs es k res hr => by
 unfold Jmq at hr
 split at hr
 · exact ⟨rfl, 0, (JMU 0 _ _ _  _).trans hr⟩
 · cases hr
def N84 : Nat := 50
def F84 : Fns := Js 120 JIf (Js 107 JAN (Js 88 Jvw (Js 83 JAW (Js 82 s82 (Js 81 s81 (Js 67 s67 (Js 65 s65 (F0))))))))
theorem JsP : Jq tau Try.prog F84 := ((((((((Jt).add JH6 JH5).add JIa JH9).add JFE JFD).add JFI JFH).add Jyw JFL).add Jrj JAy).add Jyq Jyp).add JIg JIe
def Jgr : Code := Qj (Try.f84.body.get!) [1, 1, 1, 1, 1, 1, 0, 1, 0, 0]
def Zk : Nm := [(4, .any), (5, .any), (6, .any), (7, .any), (9, .own), (25, .any), (26, .any)]
def Vk : Nm := [(4, .any), (9, .any)]
def JjM : An := (.seq .leaf (.seq (.cond .leaf .leaf) (.seq (.block none .leaf) .leaf)))
def JwD (r0 : Qz) : An := (.seq .leaf (.seq .leaf (.seq .leaf (.seq .leaf (.seq (.seq .leaf (.cond (.seq .leaf .leaf) .leaf)) (.seq .leaf (.seq (.seq .leaf (.block none (.sum Zk N84 r0))) (.seq .leaf (.seq (.seq .leaf (.cond .leaf .leaf)) (.seq (.seq .leaf (.cond (.seq .leaf .leaf) .leaf)) (.seq .leaf .leaf)))))))))))
def Jbd (f : Nat) (rc : Nat -> Int -> Int -> Bool -> Bool -> List PV -> Int -> Bool -> List PV -> OR) (k0 : Nat -> Bool -> Bool -> List PV -> Int -> Bool -> List PV -> OR) (v0 : Nat) (v1 v2 : Int) (v3 v4 : Bool) (v5 : List PV) (v6 : Int) (v7 : Bool) (v8 : List PV) : OR := bif decide (v2 < v1) then bif (!v3 || v4) && true && byB v5 then bif (!v3 || v4) && true && byB (Jb 1 (RS.mk v5 v6)).b then bif (!v3 || v4) && byB (Jb 8 (Jb 1 (RS.mk v5 v6))).b then bif Je (v0 + 1) 32 && true then rc (v0 + 1) v1 (IntKind.i64.wrap (v2 + 1)) v3 v4 ((Qe (Jb 8 (Jb 1 (RS.mk v5 v6)))).b) ((Qe (Jb 8 (Jb 1 (RS.mk v5 v6)))).e) (v7 && false) (List.take v0 v8 ++ [.st 113 [.sc (.int .i64 (Jz 1 (RS.mk v5 v6))), .sc (.int .i64 (Jz 8 (Jb 1 (RS.mk v5 v6)))), .sc (.string (JU (Jb 8 (Jb 1 (RS.mk v5 v6)))))]]) else none else none else none else none else k0 v0 v3 v4 v5 v6 v7 v8
def YB (f : Nat) (k0 : Nat -> Bool -> Bool -> List PV -> Int -> Bool -> List PV -> OR) : Nat -> Nat -> Int -> Int -> Bool -> Bool -> List PV -> Int -> Bool -> List PV -> OR
 | 0, _, _, _, _, _, _, _, _, _ => none
 | n + 1, v0, v1, v2, v3, v4, v5, v6, v7, v8 => Jbd f (YB f k0 n) k0 v0 v1 v2 v3 v4 v5 v6 v7 v8
theorem JwE (f : Nat) (k : Kont) (n v0 : Nat) (v1 v2 : Int) (v3 v4 : Bool) (v5 : List PV) (v6 : Int) (v7 : Bool) (v8 : List PV) : Jy tau 0 Zk (fun s k => ev tau F84 0 0 Jgr (JjM ) s k) (n + 1) (Jj Zk N84 [.ptr 816 [], PV.fn (Fn.func 82) [.ptr 816 []] [], PV.fn (Fn.func 81) [.ptr 816 []] [], PV.fn (Fn.func 83) [.ptr 816 []] [], .ow 113 817 [] 0 v0 none, .sc (.int .i64 v1), .sc (.int .i64 v2)] [(816, .box false 166 (PV.st 166 [.ro 5 v3 v4 v5, .sc (.int .i64 v6)])), (817, .vec false 113 v7 v8)]) (JI tau 0 Vk k) = Jbd f (fun v0 v1 v2 v3 v4 v5 v6 v7 v8 => Jy tau 0 Zk (fun s k => ev tau F84 0 0 Jgr (JjM ) s k) n (Jj Zk N84 [.ptr 816 [], PV.fn (Fn.func 82) [.ptr 816 []] [], PV.fn (Fn.func 81) [.ptr 816 []] [], PV.fn (Fn.func 83) [.ptr 816 []] [], .ow 113 817 [] 0 v0 none, .sc (.int .i64 v1), .sc (.int .i64 v2)] [(816, .box false 166 (PV.st 166 [.ro 5 v3 v4 v5, .sc (.int .i64 v6)])), (817, .vec false 113 v7 v8)]) (JI tau 0 Vk k)) (fun x0 x1 x2 x3 x4 x5 x6 => k (Ex.exit 0) (Jj Vk N84 [.ptr 816 [], .ow 113 817 [] 0 x0 none] [(816, .box false 166 (PV.st 166 [.ro 5 x1 x2 x3, .sc (.int .i64 x4)])), (817, .vec false 113 x5 x6)])) v0 v1 v2 v3 v4 v5 v6 v7 v8 := by kernel_rfl
theorem JoK (f : Nat) (k : Kont) : ∀ (n v0 : Nat) (v1 v2 : Int) (v3 v4 : Bool) (v5 : List PV) (v6 : Int) (v7 : Bool) (v8 : List PV), Jy tau 0 Zk (fun s k => ev tau F84 0 0 Jgr (JjM ) s k) n (Jj Zk N84 [.ptr 816 [], PV.fn (Fn.func 82) [.ptr 816 []] [], PV.fn (Fn.func 81) [.ptr 816 []] [], PV.fn (Fn.func 83) [.ptr 816 []] [], .ow 113 817 [] 0 v0 none, .sc (.int .i64 v1), .sc (.int .i64 v2)] [(816, .box false 166 (PV.st 166 [.ro 5 v3 v4 v5, .sc (.int .i64 v6)])), (817, .vec false 113 v7 v8)]) (JI tau 0 Vk k) = YB f (fun x0 x1 x2 x3 x4 x5 x6 => k (Ex.exit 0) (Jj Vk N84 [.ptr 816 [], .ow 113 817 [] 0 x0 none] [(816, .box false 166 (PV.st 166 [.ro 5 x1 x2 x3, .sc (.int .i64 x4)])), (817, .vec false 113 x5 x6)])) n v0 v1 v2 v3 v4 v5 v6 v7 v8 | 0, _, _, _, _, _, _, _, _, _ => rfl | n + 1, v0, v1, v2, v3, v4, v5, v6, v7, v8 => (JwE f k n v0 v1 v2 v3 v4 v5 v6 v7 v8).trans (congrArg (fun r => Jbd f r (fun x0 x1 x2 x3 x4 x5 x6 => k (Ex.exit 0) (Jj Vk N84 [.ptr 816 [], .ow 113 817 [] 0 x0 none] [(816, .box false 166 (PV.st 166 [.ro 5 x1 x2 x3, .sc (.int .i64 x4)])), (817, .vec false 113 x5 x6)])) v0 v1 v2 v3 v4 v5 v6 v7 v8) (by funext v0 v1 v2 v3 v4 v5 v6 v7 v8; exact JoK f k n v0 v1 v2 v3 v4 v5 v6 v7 v8))
def JeR (f : Nat) : List PV -> List (Nat × Ent) -> Kont -> OR
 | [.ptr 816 [], PV.fn (Fn.func 82) [.ptr 816 []] [], PV.fn (Fn.func 81) [.ptr 816 []] [], PV.fn (Fn.func 83) [.ptr 816 []] [], .ow 113 817 [] 0 v0 none, .sc (.int .i64 v1),
 PV.sc
  (Value.int IntKind.i64
   v2)], [(816, .box false 166 (PV.st 166 [.ro 5 v3 v4 v5, .sc (.int .i64 v6)])),
 (817,
  Ent.vec false 113 v7
   v8)], k => YB f (fun x0 x1 x2 x3 x4 x5 x6 => k (Ex.exit
 0) (Jj Vk N84 [.ptr 816 [],
 PV.ow 113 817 [] 0 x0 none] [(816, .box false 166 (PV.st 166 [.ro 5 x1 x2 x3, .sc (.int .i64 x4)])), (817, .vec false 113 x5 x6)])) f v0 v1 v2 v3 v4 v5 v6 v7 v8
 | _, _, _ => none
theorem JCF (f : Nat) : Jg Jgr JjM = [] := by kernel_rfl
theorem JCG (f : Nat) : (Item.l Jgr Zk N84 (JeR f)).Ok tau Try.prog 0 := Ju Jn JsP Jo (x := JjM) (nm2 := Vk) (Jk _ _ (by rw [JCF f]; intro q hq; cases hq)) fun vs hp k res hr => by
 unfold JeR at hr
 split at hr
 · exact ⟨f, 0, (JoK f _ f _ _ _ _ _ _ _ _ _ ).trans hr⟩
 · cases hr
abbrev W5 := (Res.mk (PV.tup [PV.ro 113 true true [], PV.sc (.int .i64 0)]) [] [])
abbrev Jh0 := (Res.mk (PV.tup [PV.ro 113 true true [], PV.sc (.int .i64 9)]) [] [])
def g84 (f : Nat) (b_z b_f : Bool) (b : List PV) (k : KR) : OR := bif slB b_z b then bif (!b_z || b_z) && true && byB b then bif decide (Jz 1 (RS.mk b 0) > 40) then bif (Jb 1 (RS.mk b 0)).e == 0 then YB f (fun x0_0 _ _ JR x4_0 x5_0 x6_0 => bif x4_0 == 0 then bif decide (zi JR.length > 0) then k Jh0 else bif x4_0 == 0 then bif cOk (List.take x0_0 x6_0) then bif ckO (List.take x0_0 x6_0) != 0 then k (Res.mk (.tup [.ro 113 true true [], .sc (.int .i64 (ckO (List.take x0_0 x6_0)))]) [] []) else bif (Ent.vec false 113 x5_0 x6_0).nil then k W5 else bif Je (0 + (List.take x0_0 x6_0).length) 32 && true then k (Res.mk (.tup [.ro 113 false false (List.take (0 + (List.take x0_0 x6_0).length) (List.take x0_0 x6_0)), .sc (.int .i64 0)]) [] []) else none else none else bif x4_0 != 0 then k (Res.mk (.tup [.ro 113 true true [], .sc (.int .i64 x4_0)]) [] []) else bif (Ent.vec false 113 x5_0 x6_0).nil then k W5 else bif Je (0 + (List.take x0_0 x6_0).length) 32 && true then k (Res.mk (.tup [.ro 113 false false (List.take (0 + (List.take x0_0 x6_0).length) (List.take x0_0 x6_0)), .sc (.int .i64 0)]) [] []) else none else bif x4_0 == 0 then bif cOk (List.take x0_0 x6_0) then bif ckO (List.take x0_0 x6_0) != 0 then k (Res.mk (.tup [.ro 113 true true [], .sc (.int .i64 (ckO (List.take x0_0 x6_0)))]) [] []) else bif (Ent.vec false 113 x5_0 x6_0).nil then k W5 else bif Je (0 + (List.take x0_0 x6_0).length) 32 && true then k (Res.mk (.tup [.ro 113 false false (List.take (0 + (List.take x0_0 x6_0).length) (List.take x0_0 x6_0)), .sc (.int .i64 0)]) [] []) else none else none else bif x4_0 != 0 then k (Res.mk (.tup [.ro 113 true true [], .sc (.int .i64 x4_0)]) [] []) else bif (Ent.vec false 113 x5_0 x6_0).nil then k W5 else bif Je (0 + (List.take x0_0 x6_0).length) 32 && true then k (Res.mk (.tup [.ro 113 false false (List.take (0 + (List.take x0_0 x6_0).length) (List.take x0_0 x6_0)), .sc (.int .i64 0)]) [] []) else none) f (0) (0) (0) b_z b_z ((Jb 1 (RS.mk b 0)).b) (4) true ([]) else YB f (fun x0_1 _ _ JcE x4_1 x5_1 x6_1 => bif x4_1 == 0 then bif decide (zi JcE.length > 0) then k Jh0 else bif x4_1 == 0 then bif cOk (List.take x0_1 x6_1) then bif ckO (List.take x0_1 x6_1) != 0 then k (Res.mk (.tup [.ro 113 true true [], .sc (.int .i64 (ckO (List.take x0_1 x6_1)))]) [] []) else bif (Ent.vec false 113 x5_1 x6_1).nil then k W5 else bif Je (0 + (List.take x0_1 x6_1).length) 32 && true then k (Res.mk (.tup [.ro 113 false false (List.take (0 + (List.take x0_1 x6_1).length) (List.take x0_1 x6_1)), .sc (.int .i64 0)]) [] []) else none else none else bif x4_1 != 0 then k (Res.mk (.tup [.ro 113 true true [], .sc (.int .i64 x4_1)]) [] []) else bif (Ent.vec false 113 x5_1 x6_1).nil then k W5 else bif Je (0 + (List.take x0_1 x6_1).length) 32 && true then k (Res.mk (.tup [.ro 113 false false (List.take (0 + (List.take x0_1 x6_1).length) (List.take x0_1 x6_1)), .sc (.int .i64 0)]) [] []) else none else bif x4_1 == 0 then bif cOk (List.take x0_1 x6_1) then bif ckO (List.take x0_1 x6_1) != 0 then k (Res.mk (.tup [.ro 113 true true [], .sc (.int .i64 (ckO (List.take x0_1 x6_1)))]) [] []) else bif (Ent.vec false 113 x5_1 x6_1).nil then k W5 else bif Je (0 + (List.take x0_1 x6_1).length) 32 && true then k (Res.mk (.tup [.ro 113 false false (List.take (0 + (List.take x0_1 x6_1).length) (List.take x0_1 x6_1)), .sc (.int .i64 0)]) [] []) else none else none else bif x4_1 != 0 then k (Res.mk (.tup [.ro 113 true true [], .sc (.int .i64 x4_1)]) [] []) else bif (Ent.vec false 113 x5_1 x6_1).nil then k W5 else bif Je (0 + (List.take x0_1 x6_1).length) 32 && true then k (Res.mk (.tup [.ro 113 false false (List.take (0 + (List.take x0_1 x6_1).length) (List.take x0_1 x6_1)), .sc (.int .i64 0)]) [] []) else none) f (0) (0) (0) b_z b_z ((Jb 1 (RS.mk b 0)).b) ((Jb 1 (RS.mk b 0)).e) true ([]) else YB f (fun x0_2 _ _ x3_2 x4_2 x5_2 x6_2 => bif x4_2 == 0 then bif decide (zi x3_2.length > 0) then k Jh0 else bif x4_2 == 0 then bif cOk (List.take x0_2 x6_2) then bif ckO (List.take x0_2 x6_2) != 0 then k (Res.mk (.tup [.ro 113 true true [], .sc (.int .i64 (ckO (List.take x0_2 x6_2)))]) [] []) else bif (Ent.vec false 113 x5_2 x6_2).nil then k W5 else bif Je (0 + (List.take x0_2 x6_2).length) 32 && true then k (Res.mk (.tup [.ro 113 false false (List.take (0 + (List.take x0_2 x6_2).length) (List.take x0_2 x6_2)), .sc (.int .i64 0)]) [] []) else none else none else bif x4_2 != 0 then k (Res.mk (.tup [.ro 113 true true [], .sc (.int .i64 x4_2)]) [] []) else bif (Ent.vec false 113 x5_2 x6_2).nil then k W5 else bif Je (0 + (List.take x0_2 x6_2).length) 32 && true then k (Res.mk (.tup [.ro 113 false false (List.take (0 + (List.take x0_2 x6_2).length) (List.take x0_2 x6_2)), .sc (.int .i64 0)]) [] []) else none else bif x4_2 == 0 then bif cOk (List.take x0_2 x6_2) then bif ckO (List.take x0_2 x6_2) != 0 then k (Res.mk (.tup [.ro 113 true true [], .sc (.int .i64 (ckO (List.take x0_2 x6_2)))]) [] []) else bif (Ent.vec false 113 x5_2 x6_2).nil then k W5 else bif Je (0 + (List.take x0_2 x6_2).length) 32 && true then k (Res.mk (.tup [.ro 113 false false (List.take (0 + (List.take x0_2 x6_2).length) (List.take x0_2 x6_2)), .sc (.int .i64 0)]) [] []) else none else none else bif x4_2 != 0 then k (Res.mk (.tup [.ro 113 true true [], .sc (.int .i64 x4_2)]) [] []) else bif (Ent.vec false 113 x5_2 x6_2).nil then k W5 else bif Je (0 + (List.take x0_2 x6_2).length) 32 && true then k (Res.mk (.tup [.ro 113 false false (List.take (0 + (List.take x0_2 x6_2).length) (List.take x0_2 x6_2)), .sc (.int .i64 0)]) [] []) else none) f (0) (Jz 1 (RS.mk b 0)) (0) b_z b_z ((Jb 1 (RS.mk b 0)).b) ((Jb 1 (RS.mk b 0)).e) true ([]) else none else none
theorem e84 (f : Nat) (b_z b_f : Bool) (b : List PV) (k : KR) : JK tau F84 Try.f84 (Try.f84.body.get!) (JwD (JeR f)) [.ro, .ro] 0 [.ro 5 b_z b_f b] [] k = g84 f b_z b_f b k := by kernel_rfl
theorem JMV (f : Nat) : Jg (Try.f84.body.get!) (JwD (JeR f)) = [.l Jgr Zk N84 (JeR f)] := by kernel_rfl
theorem JMW (f : Nat) : ∀ q ∈ Jg (Try.f84.body.get!) (JwD (JeR f)), q.Ok tau Try.prog 0 := by rw [JMV f]; exact JL (JCG f) (fun _ h => nomatch h)
theorem JIh : Try.prog.funcs[84]? = some Try.f84 := by kernel_rfl
theorem JIi : Try.f84.body = some (Try.f84.body.get!) := by kernel_rfl
theorem JMX : Enters Try.prog 84 := enters_of JIh (by kernel_rfl) JIi
def F42 : Fns := F0
theorem JCH : Jq tau Try.prog F42 := Jt
def JCI : An := (.seq .leaf (.seq .leaf .leaf))
def g42 (f : Nat) (b_z b_f : Bool) (b : List PV) (k : KR) : OR := k (Res.mk (.ptr 16 []) [] [.box false 135 (PV.st 135 [.ro 5 b_z b_f b, .sc (.int .i64 0), .sc (.int .i64 0)])])
theorem e42 (f : Nat) (b_z b_f : Bool) (b : List PV) (k : KR) : JK tau F42 Try.f42 (Try.f42.body.get!) JCI [.any] 0 [.ro 5 b_z b_f b] [] k = g42 f b_z b_f b k := by kernel_rfl
theorem JMY (f : Nat) : ∀ q ∈ Jg (Try.f42.body.get!) JCI, q.Ok tau Try.prog 0 := Jx (by kernel_rfl)
theorem JIj : Try.prog.funcs[42]? = some Try.f42 := by kernel_rfl
theorem JIk : Try.f42.body = some (Try.f42.body.get!) := by kernel_rfl
theorem JIl : Enters Try.prog 42 := enters_of JIj (by kernel_rfl) JIk
def JsQ : JA
 | [.ro 5 b_z b_f b], [], k => g42 0 b_z b_f b k
 | _, _, _ => none
def s42 : Sig := { own := [], run := JsQ }
theorem JIm : Jc tau Try.prog 42 s42 := JP Jn JCH Jo JIj JIk JCI [.any] 0 [] JsQ (JMY 0) fun xs es k res hr => by
 unfold JsQ at hr
 split at hr
 · exact ⟨rfl, 0, (e42 0 _ _ _  _).trans hr⟩
 · cases hr
def F48 : Fns := F0
theorem JCJ : Jq tau Try.prog F48 := Jt
def JCK : An := (.seq .leaf (.seq (.seq .leaf (.cond (.seq .leaf .leaf) .leaf)) (.seq .leaf .leaf)))
def g48 (f : Nat) (y0 y1 : Bool) (r_B : List PV) (r_P y2 : Int) (k : KR) : OR := bif y2 == 0 then bif decide (r_P < zi r_B.length) then k (Res.mk (.sc (.int .i64 9)) [.box false 135 (PV.st 135 [.ro 5 y0 y1 r_B, .sc (.int .i64 r_P), .sc (.int .i64 y2)])] []) else k (Res.mk (.sc (.int .i64 y2)) [.box false 135 (PV.st 135 [.ro 5 y0 y1 r_B, .sc (.int .i64 r_P), .sc (.int .i64 y2)])] []) else k (Res.mk (.sc (.int .i64 y2)) [.box false 135 (PV.st 135 [.ro 5 y0 y1 r_B, .sc (.int .i64 r_P), .sc (.int .i64 y2)])] [])
theorem e48 (f : Nat) (y0 y1 : Bool) (r_B : List PV) (r_P y2 : Int) (k : KR) : JK tau F48 Try.f48 (Try.f48.body.get!) JCK [.ro] 0 [.ptr 0 []] [.box false 135 (.st 135 [.ro 5 y0 y1 r_B, .sc (.int .i64 r_P), .sc (.int .i64 y2)])] k = g48 f y0 y1 r_B r_P y2 k := by kernel_rfl
theorem JMZ (f : Nat) : ∀ q ∈ Jg (Try.f48.body.get!) JCK, q.Ok tau Try.prog 1 := Jx (by kernel_rfl)
theorem JIn : Try.prog.funcs[48]? = some Try.f48 := by kernel_rfl
theorem JIo : Try.f48.body = some (Try.f48.body.get!) := by kernel_rfl
theorem JIp : Enters Try.prog 48 := enters_of JIn (by kernel_rfl) JIo
def JsR : JA
 | [.ptr 0 []], [.box false 135 (.st 135 [.ro 5 y0 y1 r_B, .sc (.int .i64 r_P), .sc (.int .i64 y2)])], k => g48 0 y0 y1 r_B r_P y2 k
 | _, _, _ => none
def s48 : Sig := { own := [], run := JsR }
theorem JIq : Jc tau Try.prog 48 s48 := JP Jn JCJ Jo JIn JIo JCK [.ro] 1 [] JsR (JMZ 0) fun xs es k res hr => by
 unfold JsR at hr
 split at hr
 · exact ⟨rfl, 0, (e48 0 _ _ _ _ _  _).trans hr⟩
 · cases hr
def F71 : Fns := F0
theorem JCL : Jq tau Try.prog F71 := Jt
def JCM : An := (.seq .leaf (.cond .leaf .leaf))
def g71 (f : Nat) (y0 y1 : Bool) (r_B : List PV) (r_P y2 e : Int) (k : KR) : OR := bif y2 == 0 then k (Res.mk (.tup []) [.box false 135 (PV.st 135 [.ro 5 y0 y1 r_B, .sc (.int .i64 r_P), .sc (.int .i64 e)])] []) else k (Res.mk (.tup []) [.box false 135 (PV.st 135 [.ro 5 y0 y1 r_B, .sc (.int .i64 r_P), .sc (.int .i64 y2)])] [])
theorem e71 (f : Nat) (y0 y1 : Bool) (r_B : List PV) (r_P y2 e : Int) (k : KR) : JK tau F71 Try.f71 (Try.f71.body.get!) JCM [] 0 [.ptr 0 [], .sc (.int .i64 e)] [.box false 135 (.st 135 [.ro 5 y0 y1 r_B, .sc (.int .i64 r_P), .sc (.int .i64 y2)])] k = g71 f y0 y1 r_B r_P y2 e k := by kernel_rfl
theorem JM0 (f : Nat) : ∀ q ∈ Jg (Try.f71.body.get!) JCM, q.Ok tau Try.prog 1 := Jx (by kernel_rfl)
theorem JIr : Try.prog.funcs[71]? = some Try.f71 := by kernel_rfl
theorem JIs : Try.f71.body = some (Try.f71.body.get!) := by kernel_rfl
theorem JM1 : Enters Try.prog 71 := enters_of JIr (by kernel_rfl) JIs
def JsS : JA
 | [.ptr 0 [], .sc (.int .i64 e)], [.box false 135 (.st 135 [.ro 5 y0 y1 r_B, .sc (.int .i64 r_P), .sc (.int .i64 y2)])], k => g71 0 y0 y1 r_B r_P y2 e k
 | _, _, _ => none
def s71 : Sig := { own := [], run := JsS }
theorem JM2 : Jc tau Try.prog 71 s71 := JP Jn JCL Jo JIr JIs JCM [] 1 [] JsS (JM0 0) fun xs es k res hr => by
 unfold JsS at hr
 split at hr
 · exact ⟨rfl, 0, (e71 0 _ _ _ _ _ _  _).trans hr⟩
 · cases hr
def N49 : Nat := 53
def F49 : Fns := Js 71 s71 (Js 59 Jvx (Js 48 s48 (Js 47 JBb (Js 46 JvO (Js 44 JvM (Js 42 s42 (F0)))))))
theorem JsT : Jq tau Try.prog F49 := (((((((Jt).add JIm JIl).add JrN JA5).add JrO JA8).add Jyy JFY).add JIq JIp).add Jrk JAB).add JM2 JM1
def JoL : Code := Qj (Try.f49.body.get!) [1, 1, 1, 1, 1, 0, 1, 0, 0]
def JeS : Nm := [(4, .any), (5, .any), (6, .own), (7, .any)]
def Jmr : Nm := [(4, .any), (6, .any)]
def JsU : An := (.seq (.seq .leaf (.cond .leaf .leaf)) (.seq (.block none (.seq .leaf (.seq .leaf (.seq .leaf .leaf)))) .leaf))
def JwF (r0 : Qz) : An := (.seq .leaf (.seq .leaf (.seq .leaf (.seq (.seq .leaf (.cond .leaf .leaf)) (.seq .leaf (.seq (.seq .leaf (.block none (.sum JeS N49 r0))) (.seq .leaf (.seq (.seq .leaf (.cond .leaf .leaf)) (.seq (.seq .leaf (.cond (.seq .leaf .leaf) .leaf)) (.seq .leaf .leaf))))))))))
abbrev JCN := Bool -> Bool -> List PV -> Int -> Int -> Bool -> List PV -> OR) : Nat -> Int -> Nat -> Int -> Bool -> Bool -> List PV -> Int -> Int -> Bool -> List PV -> OR
def VQ (f : Nat) (rc : Int -> Nat -> Int -> Bool -> Bool -> List PV -> Int -> Int -> Bool -> List PV -> OR) (k0 : Nat -> Bool -> Bool -> List PV -> Int -> Int -> Bool -> List PV -> OR) (v0 : Int) (v1 : Nat) (v2 : Int) (v3 v4 : Bool) (v5 : List PV) (v6 v7 : Int) (v8 : Bool) (v9 : List PV) : OR := bif decide (v2 < v0) then bif v7 == 0 then bif okT (RT.mk v5 v6 v7) then bif okT (Jh 1 (RT.mk v5 v6 v7)) then bif okT (Jh 8 (Jh 1 (RT.mk v5 v6 v7))) then bif Je (v1 + 1) 32 && true then rc v0 (v1 + 1) (IntKind.i64.wrap (v2 + 1)) v3 v4 ((QZ (Jh 8 (Jh 1 (RT.mk v5 v6 v7)))).B) ((QZ (Jh 8 (Jh 1 (RT.mk v5 v6 v7)))).P) ((QZ (Jh 8 (Jh 1 (RT.mk v5 v6 v7)))).e) (v8 && false) (List.take v1 v9 ++ [.st 113 [.sc (.int .i64 (Qm 1 (RT.mk v5 v6 v7))), .sc (.int .i64 (Qm 8 (Jh 1 (RT.mk v5 v6 v7)))), .sc (.string (XX (Jh 8 (Jh 1 (RT.mk v5 v6 v7)))))]]) else none else none else none else none else k0 v1 v3 v4 v5 v6 v7 v8 v9 else k0 v1 v3 v4 v5 v6 v7 v8 v9
def X3 (f : Nat) (k0 : Nat -> JCN
 | 0 => fun _ _ _ _ _ _ _ _ _ _ => none
 | n + 1 => VQ f (X3 f k0 n) k0
def Jbe (k : Kont) := fun x0 x1 x2 x3 x4 x5 x6 x7 => k (Ex.exit 0) (Jj Jmr N49 [.ptr 864 [], .ow 113 865 [] 0 x0 none] [(864, .box false 135 (PV.st 135 [.ro 5 x1 x2 x3, .sc (.int .i64 x4), .sc (.int .i64 x5)])), (865, .vec false 113 x6 x7)])
def Jms (f : Nat) (k : Kont) (n : Nat) (v0 : Int) (v1 : Nat) (v2 : Int) (v3 v4 : Bool) (v5 : List PV) (v6 v7 : Int) (v8 : Bool) (v9 : List PV) : OR := Jy tau 0 JeS (fun s k => ev tau F49 0 0 JoL (JsU ) s k) n (Jj JeS N49 [.ptr 864 [], .sc (.int .i64 v0), .ow 113 865 [] 0 v1 none, .sc (.int .i64 v2)] [(864, .box false 135 (PV.st 135 [.ro 5 v3 v4 v5, .sc (.int .i64 v6), .sc (.int .i64 v7)])), (865, .vec false 113 v8 v9)]) (JI tau 0 Jmr k)
theorem JwG (f : Nat) (k : Kont) (n : Nat) : Jms f k (n + 1) = VQ f (Jms f k n) (Jbe k) := by kernel_rfl
theorem JoM (f : Nat) (k : Kont) : ∀ n, Jms f k n = X3 f (Jbe k) n
 | 0 => rfl
 | n + 1 => (JwG f k n).trans (congrArg (fun r => VQ f r (Jbe k)) (JoM f k n))
def JeT (f : Nat) : List PV -> List (Nat × Ent) -> Kont -> OR
 | [.ptr 864 [], .sc (.int .i64 v0), .ow 113 865 [] 0 v1 none,
 PV.sc
  (Value.int IntKind.i64
   v2)], [(864, .box false 135 (PV.st 135 [.ro 5 v3 v4 v5, .sc (.int .i64 v6), .sc (.int .i64 v7)])),
 (865,
  Ent.vec false 113 v8
   v9)], k => X3 f (Jbe k) f v0 v1 v2 v3 v4 v5 v6 v7 v8 v9
 | _, _, _ => none
theorem JCO (f : Nat) : Jg JoL JsU = [] := by kernel_rfl
theorem JCP (f : Nat) : (Item.l JoL JeS N49 (JeT f)).Ok tau Try.prog 0 := Ju Jn JsT Jo (x := JsU) (nm2 := Jmr) (Jk _ _ (by rw [JCO f]; intro q hq; cases hq)) fun vs hp k res hr => by
 unfold JeT at hr
 split at hr
 · rw [← JoM f] at hr; exact ⟨f, 0, hr⟩
 · cases hr
abbrev Jh1 := (Res.mk (PV.tup [PV.ro 113 true true [], PV.sc (.int .i64 9)]) [] [])
def g49 (f : Nat) (b_z b_f : Bool) (b : List PV) (k : KR) : OR := bif okT (RT.mk b 0 0) then bif decide (Qm 1 (RT.mk b 0 0) > 40) then bif (Jh 1 (RT.mk b 0 0)).e == 0 then X3 f (fun x0_0 _ _ JR x4_0 x5_0 x6_0 x7_0 => bif x5_0 == 0 then bif decide (x4_0 < zi JR.length) then k Jh1 else bif x5_0 == 0 then bif cOk (List.take x0_0 x7_0) then bif ckO (List.take x0_0 x7_0) != 0 then k (Res.mk (.tup [.ro 113 true true [], .sc (.int .i64 (ckO (List.take x0_0 x7_0)))]) [] []) else k (Res.mk (.tup [.ro 113 (Ent.vec false 113 x6_0 x7_0).nil false (List.take x0_0 x7_0), .sc (.int .i64 0)]) [] []) else none else bif x5_0 != 0 then k (Res.mk (.tup [.ro 113 true true [], .sc (.int .i64 x5_0)]) [] []) else k (Res.mk (.tup [.ro 113 (Ent.vec false 113 x6_0 x7_0).nil false (List.take x0_0 x7_0), .sc (.int .i64 0)]) [] []) else bif x5_0 == 0 then bif cOk (List.take x0_0 x7_0) then bif ckO (List.take x0_0 x7_0) != 0 then k (Res.mk (.tup [.ro 113 true true [], .sc (.int .i64 (ckO (List.take x0_0 x7_0)))]) [] []) else k (Res.mk (.tup [.ro 113 (Ent.vec false 113 x6_0 x7_0).nil false (List.take x0_0 x7_0), .sc (.int .i64 0)]) [] []) else none else bif x5_0 != 0 then k (Res.mk (.tup [.ro 113 true true [], .sc (.int .i64 x5_0)]) [] []) else k (Res.mk (.tup [.ro 113 (Ent.vec false 113 x6_0 x7_0).nil false (List.take x0_0 x7_0), .sc (.int .i64 0)]) [] [])) f (Qm 1 (RT.mk b 0 0)) (0) (0) b_z b_f ((Jh 1 (RT.mk b 0 0)).B) ((Jh 1 (RT.mk b 0 0)).P) (4) true ([]) else X3 f (fun x0_1 _ _ JcE x4_1 x5_1 x6_1 x7_1 => bif x5_1 == 0 then bif decide (x4_1 < zi JcE.length) then k Jh1 else bif x5_1 == 0 then bif cOk (List.take x0_1 x7_1) then bif ckO (List.take x0_1 x7_1) != 0 then k (Res.mk (.tup [.ro 113 true true [], .sc (.int .i64 (ckO (List.take x0_1 x7_1)))]) [] []) else k (Res.mk (.tup [.ro 113 (Ent.vec false 113 x6_1 x7_1).nil false (List.take x0_1 x7_1), .sc (.int .i64 0)]) [] []) else none else bif x5_1 != 0 then k (Res.mk (.tup [.ro 113 true true [], .sc (.int .i64 x5_1)]) [] []) else k (Res.mk (.tup [.ro 113 (Ent.vec false 113 x6_1 x7_1).nil false (List.take x0_1 x7_1), .sc (.int .i64 0)]) [] []) else bif x5_1 == 0 then bif cOk (List.take x0_1 x7_1) then bif ckO (List.take x0_1 x7_1) != 0 then k (Res.mk (.tup [.ro 113 true true [], .sc (.int .i64 (ckO (List.take x0_1 x7_1)))]) [] []) else k (Res.mk (.tup [.ro 113 (Ent.vec false 113 x6_1 x7_1).nil false (List.take x0_1 x7_1), .sc (.int .i64 0)]) [] []) else none else bif x5_1 != 0 then k (Res.mk (.tup [.ro 113 true true [], .sc (.int .i64 x5_1)]) [] []) else k (Res.mk (.tup [.ro 113 (Ent.vec false 113 x6_1 x7_1).nil false (List.take x0_1 x7_1), .sc (.int .i64 0)]) [] [])) f (Qm 1 (RT.mk b 0 0)) (0) (0) b_z b_f ((Jh 1 (RT.mk b 0 0)).B) ((Jh 1 (RT.mk b 0 0)).P) ((Jh 1 (RT.mk b 0 0)).e) true ([]) else X3 f (fun x0_2 _ _ x3_2 x4_2 x5_2 x6_2 x7_2 => bif x5_2 == 0 then bif decide (x4_2 < zi x3_2.length) then k Jh1 else bif x5_2 == 0 then bif cOk (List.take x0_2 x7_2) then bif ckO (List.take x0_2 x7_2) != 0 then k (Res.mk (.tup [.ro 113 true true [], .sc (.int .i64 (ckO (List.take x0_2 x7_2)))]) [] []) else k (Res.mk (.tup [.ro 113 (Ent.vec false 113 x6_2 x7_2).nil false (List.take x0_2 x7_2), .sc (.int .i64 0)]) [] []) else none else bif x5_2 != 0 then k (Res.mk (.tup [.ro 113 true true [], .sc (.int .i64 x5_2)]) [] []) else k (Res.mk (.tup [.ro 113 (Ent.vec false 113 x6_2 x7_2).nil false (List.take x0_2 x7_2), .sc (.int .i64 0)]) [] []) else bif x5_2 == 0 then bif cOk (List.take x0_2 x7_2) then bif ckO (List.take x0_2 x7_2) != 0 then k (Res.mk (.tup [.ro 113 true true [], .sc (.int .i64 (ckO (List.take x0_2 x7_2)))]) [] []) else k (Res.mk (.tup [.ro 113 (Ent.vec false 113 x6_2 x7_2).nil false (List.take x0_2 x7_2), .sc (.int .i64 0)]) [] []) else none else bif x5_2 != 0 then k (Res.mk (.tup [.ro 113 true true [], .sc (.int .i64 x5_2)]) [] []) else k (Res.mk (.tup [.ro 113 (Ent.vec false 113 x6_2 x7_2).nil false (List.take x0_2 x7_2), .sc (.int .i64 0)]) [] [])) f (Qm 1 (RT.mk b 0 0)) (0) (0) b_z b_f ((Jh 1 (RT.mk b 0 0)).B) ((Jh 1 (RT.mk b 0 0)).P) ((Jh 1 (RT.mk b 0 0)).e) true ([]) else none
theorem e49 (f : Nat) (b_z b_f : Bool) (b : List PV) (k : KR) : JK tau F49 Try.f49 (Try.f49.body.get!) (JwF (JeT f)) [.ro, .ro] 0 [.ro 5 b_z b_f b] [] k = g49 f b_z b_f b k := by kernel_rfl
theorem JM3 (f : Nat) : Jg (Try.f49.body.get!) (JwF (JeT f)) = [.l JoL JeS N49 (JeT f)] := by kernel_rfl
theorem JM4 (f : Nat) : ∀ q ∈ Jg (Try.f49.body.get!) (JwF (JeT f)), q.Ok tau Try.prog 0 := by rw [JM3 f]; exact JL (JCP f) (fun _ h => nomatch h)
theorem JIt : Try.prog.funcs[49]? = some Try.f49 := by kernel_rfl
theorem JIu : Try.f49.body = some (Try.f49.body.get!) := by kernel_rfl
theorem JM5 : Enters Try.prog 49 := enters_of JIt (by kernel_rfl) JIu
end
end Go.Proofs.Ythpmachmnoljeaa.Rx
