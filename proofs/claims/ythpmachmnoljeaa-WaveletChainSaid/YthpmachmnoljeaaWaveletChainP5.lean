/- What the functions of this law compute, and their plain laws. Conditions: none. -/
import Derived.Test.YthpmachmnoljeaaWaveletChainP4
namespace Go.Proofs.Ythpmachmnoljeaa.Rx
noncomputable section
open Go
set_option linter.unusedVariables false
set_option linter.unusedSimpArgs false
set_option maxRecDepth 100000
set_option maxHeartbeats 0
def Jui : Nat := 53
def JEi : Fns := F0
theorem Jpy : Jq tau Try.prog JEi := Jt
def Jft : Code := Qj (Try.f127.body.get!) [1, 0]
def JbQ : Nm := [(0, .any), (3, .any), (6, .any)]
def Jiv : Nm := [(4, .any), (5, .any)]
def Jiw : An := (.seq .leaf (.seq .leaf (.seq (.block none (.seq .leaf (.cond (.seq .leaf .leaf) (.seq .leaf (.cond (.seq .leaf .leaf) .leaf))))) (.seq .leaf .leaf))))
def Jpz (r0 : Jq3) : An := (.seq .leaf (.ssum JbQ Jui (Jiw) r0))
abbrev JpA := Bool -> Bool -> List PV -> Int -> Int -> Int -> OR
abbrev QH (v2 : List PV) (v3 : Int) := (PV.isSt 42 #[Field.mk "D" 3 0 false "" "" 0, Field.mk "U" 3 1 false "" "" 8].size (v2.getD v3.toNat PV.top) && (PV.isInt IntKind.i64 (PV.child 0 (v2.getD v3.toNat PV.top)) && (PV.isInt IntKind.i64 (PV.child (0 + 1) (v2.getD v3.toNat PV.top)) && true)))
def WL (f : Nat) (rc : JpA) (k0 : Int -> Bool -> OR) (v0 v1 : Bool) (v2 : List PV) (v3 v4 v5 : Int) : OR := bif v3 == zi v2.length then k0 v3 false else bif decide (0 <= v3) && decide (v3 < zi v2.length) && (QH v2 v3) && true then bif decide ((PV.child 0 (v2.getD v3.toNat PV.top)).int > v4) then k0 v3 false else bif decide (0 <= v3) && decide (v3 < zi v2.length) && (QH v2 v3) && true then bif (PV.child 0 (v2.getD v3.toNat PV.top)).int == v4 then bif decide (0 <= v3) && decide (v3 < zi v2.length) && (QH v2 v3) && true then bif decide ((PV.child (0 + 1) (v2.getD v3.toNat PV.top)).int > v5) then k0 v3 false else bif decide (0 <= v3) && decide (v3 < zi v2.length) && (QH v2 v3) && true then bif (PV.child 0 (v2.getD v3.toNat PV.top)).int == v4 && ((PV.child (0 + 1) (v2.getD v3.toNat PV.top)).int == v5 && true) then k0 v3 true else rc v0 v1 v2 (IntKind.i64.wrap (v3 + 1)) v4 v5 else none else none else bif decide (0 <= v3) && decide (v3 < zi v2.length) && (QH v2 v3) && true then bif (PV.child 0 (v2.getD v3.toNat PV.top)).int == v4 && ((PV.child (0 + 1) (v2.getD v3.toNat PV.top)).int == v5 && true) then k0 v3 true else rc v0 v1 v2 (IntKind.i64.wrap (v3 + 1)) v4 v5 else none else none else none
def Xg (f : Nat) (k0 : Int -> Bool -> OR) : Nat -> JpA
 | 0 => fun _ _ _ _ _ _ => none
 | n + 1 => WL f (Xg f k0 n) k0
def V0 (k : Kont) := fun x0 x1 => k Ex.ret (Jj Jiv Jui [.sc (.int .i64 x0), .sc (.bool x1)] [])
def Jix (f : Nat) (k : Kont) (n : Nat) (v0 v1 : Bool) (v2 : List PV) (v3 v4 v5 : Int) : OR := Q4 tau 0 JbQ (hasLabel Jft) (fun l s k => Qi tau JEi 0 0 Jft (Jiw ) l s k) n 0 (Jj JbQ Jui [.ro 42 v0 v1 v2, .ptr 864 [], .sc (.int .i64 v3)] [(864, .box false 42 (PV.st 42 [.sc (.int .i64 v4), .sc (.int .i64 v5)]))]) (JI tau 0 Jiv k)
theorem Juj (f : Nat) (k : Kont) (n : Nat) : Jix f k (n + 1) = WL f (Jix f k n) (V0 k) := by kernel_rfl
theorem Jj6 (f : Nat) (k : Kont) : ∀ n, Jix f k n = Xg f (V0 k) n
 | 0 => rfl
 | n + 1 => (Juj f k n).trans (congrArg (fun r => WL f r (V0 k)) (Jj6 f k n))
def Jaa (f : Nat) : Nat -> List PV -> List (Nat × Ent) -> Kont -> OR
 | 0, [.ro 42 v0 v1 v2, .ptr 864 [],
 PV.sc
  (Value.int IntKind.i64
   v3)], [(864,
  Ent.box false 42
   (PV.st 42
    [.sc (.int .i64 v4),
     .sc (.int .i64 v5)]))], k => Xg f (V0 k) f v0 v1 v2 v3 v4 v5
 | _, _, _, _ => none
theorem Jxu (f : Nat) : Jg Jft Jiw = [] := by kernel_rfl
theorem Jxv (f : Nat) : (Item.s Jft JbQ Jui (Jaa f)).Ok tau Try.prog 0 := XU Jn Jpy Jo (x := Jiw) (nm2 := Jiv) (Jk _ _ (by rw [Jxu f]; intro q hq; cases hq)) fun l vs hp k res hr => by
 unfold Jaa at hr
 split at hr
 · rw [← Jj6 f] at hr; exact ⟨f, 0, hr⟩
 · cases hr
abbrev V1 (l : List PV) := (PV.isSt 42 #[Field.mk "D" 3 0 false "" "" 0, Field.mk "U" 3 1 false "" "" 8].size (l.getD (Int.toNat 0) PV.top) && (PV.isInt IntKind.i64 (PV.child 0 (l.getD 0 PV.top)) && (PV.isInt IntKind.i64 (PV.child (0 + 1) (l.getD 0 PV.top)) && true)))
abbrev Jdz := (Res.mk (PV.tup [PV.sc (.int .i64 0), PV.sc (.bool false)]) [] [])
def Jxw (f : Nat) (l_z l_f : Bool) (l : List PV) (a_D a_U : Int) (k : KR) : OR := bif 0 == zi l.length then k Jdz else bif decide (0 < zi l.length) && (V1 l) && true then bif decide ((PV.child 0 (l.getD 0 PV.top)).int > a_D) then k Jdz else bif decide (0 < zi l.length) && (V1 l) && true then bif (PV.child 0 (l.getD 0 PV.top)).int == a_D then bif decide (0 < zi l.length) && (V1 l) && true then bif decide ((PV.child (0 + 1) (l.getD 0 PV.top)).int > a_U) then k Jdz else bif decide (0 < zi l.length) && (V1 l) && true then bif (PV.child 0 (l.getD 0 PV.top)).int == a_D && ((PV.child (0 + 1) (l.getD 0 PV.top)).int == a_U && true) then k (Res.mk (.tup [.sc (.int .i64 0), .sc (.bool true)]) [] []) else Xg f (fun x0_0 x1_0 => k (Res.mk (.tup [.sc (.int .i64 x0_0), .sc (.bool x1_0)]) [] [])) f l_z l_f l (IntKind.i64.wrap (0 + 1)) a_D a_U else none else none else bif decide (0 < zi l.length) && (V1 l) && true then bif (PV.child 0 (l.getD 0 PV.top)).int == a_D && ((PV.child (0 + 1) (l.getD 0 PV.top)).int == a_U && true) then k (Res.mk (.tup [.sc (.int .i64 0), .sc (.bool true)]) [] []) else Xg f (fun x0_1 x1_1 => k (Res.mk (.tup [.sc (.int .i64 x0_1), .sc (.bool x1_1)]) [] [])) f l_z l_f l (IntKind.i64.wrap (0 + 1)) a_D a_U else none else none else none
theorem JOf (f : Nat) (l_z l_f : Bool) (l : List PV) (a_D a_U : Int) (k : KR) : JK tau JEi Try.f127 (Try.f127.body.get!) (Jpz (Jaa f)) [.ro, .ro] 0 [.ro 42 l_z l_f l, .st 42 [.sc (.int .i64 a_D), .sc (.int .i64 a_U)]] [] k = Jxw f l_z l_f l a_D a_U k := by kernel_rfl
theorem JKn (f : Nat) : Jg (Try.f127.body.get!) (Jpz (Jaa f)) = [.s Jft JbQ Jui (Jaa f)] := by kernel_rfl
theorem JKo (f : Nat) : ∀ q ∈ Jg (Try.f127.body.get!) (Jpz (Jaa f)), q.Ok tau Try.prog 0 := by rw [JKn f]; exact JL (Jxv f) (fun _ h => nomatch h)
theorem JzX : Try.prog.funcs[127]? = some Try.f127 := by kernel_rfl
theorem JzY : Try.f127.body = some (Try.f127.body.get!) := by kernel_rfl
theorem JzZ : Enters Try.prog 127 := enters_of JzX (by kernel_rfl) JzY
def Jab (l : List PV) (a : AV) : Bool := Nat.blt (Q8 l a) l.length && eqA (av (l.getD (Q8 l a) .top)) a
theorem JdA {a : AV} : ltA a a = false := by
 cases h : ltA a a with
 | false => rfl
 | true => rw [Yq] at h; omega
theorem hasL_above {a : AV} : ∀ {l : List PV}, (∀ q ∈ l, ltA a (av q) = true) -> hasL l a = false
 | [], _ => rfl
 | p :: l, h => by
  have h1 : eqA (av p) a = false := by
   cases he : eqA (av p) a with
   | false => rfl
   | true => have := h p List.mem_cons_self; rw [QS.1 he, JdA] at this; cases this
  have h2 := hasL_above fun q hq => h q (List.mem_cons_of_mem _ hq)
  show (eqA (av p) a || hasL l a) = false
  rw [h1, h2]; rfl
theorem JgE {a : AV} : ∀ {l : List PV}, hasL l a = false -> rmA l a = l
 | [], _ => rfl
 | p :: l, h => by
  have h : (eqA (av p) a || hasL l a) = false := h
  rw [Bool.or_eq_false_iff] at h
  unfold rmA
  rw [List.filter_cons, h.1]
  exact congrArg (p :: ·) (JgE h.2)
theorem YW {a : AV} : ∀ {l : List PV}, srt l = true -> Jab l a = hasL l a
 | [], _ => rfl
 | p :: l, h => by
  obtain ⟨h1, h2⟩ := X9.1 h
  show Jab (p :: l) a = (eqA (av p) a || hasL l a)
  unfold Jab
  simp only [Q8]
  cases hc : ltA (av p) a with
  | true =>
   have he : eqA (av p) a = false := by
    cases he : eqA (av p) a with
    | false => rfl
    | true => rw [QS.1 he, JdA] at hc; cases hc
   have ih := YW (a := a) h2
   unfold Jab at ih
   rw [cond_true, he, Bool.false_or, ← ih, List.getD_cons_succ]
   rfl
  | false =>
   rw [cond_false]
   have hd : Nat.blt 0 (p :: l).length = true := rfl
   rw [hd, Bool.true_and, List.getD_cons_zero]
   cases he : eqA (av p) a with
   | true => rfl
   | false =>
    have hl := JtP hc he
    rw [hasL_above fun q hq => JgC hl (h1 q hq)]; rfl
theorem JpB {a : AV} : ∀ {l : List PV}, srt l = true -> Jab l a = true -> l.take (Q8 l a) ++ l.drop (Q8 l a + 1) = rmA l a
 | [], _, h => by cases h
 | p :: l, h, hf => by
  obtain ⟨h1, h2⟩ := X9.1 h
  have hf2 := hf
  unfold Jab at hf
  simp only [Q8] at hf ⊢
  cases hc : ltA (av p) a with
  | true =>
   have he : eqA (av p) a = false := by
    cases he : eqA (av p) a with
    | false => rfl
    | true => rw [QS.1 he, JdA] at hc; cases hc
   have hf' : Jab l a = true := by
    rw [YW h] at hf2
    rw [YW h2]
    have : (eqA (av p) a || hasL l a) = true := hf2
    rwa [he, Bool.false_or] at this
   have ih := JpB h2 hf'
   unfold rmA at ih ⊢
   rw [cond_true, List.take_succ_cons, List.drop_succ_cons, List.filter_cons, he, List.cons_append, ih]; rfl
  | false =>
   rw [hc, cond_false, Bool.and_eq_true] at hf
   have he : eqA (av p) a = true := hf.2
   rw [cond_false, List.take_zero, List.nil_append, List.drop_succ_cons, List.drop_zero]
   have ha := QS.1 he
   have := JgE (a := a) (hasL_above (l := l) fun q hq => by have := h1 q hq; rwa [ha] at this)
   unfold rmA at this ⊢
   rw [List.filter_cons, he]
   exact this.symm
theorem Juk (a b : AV) : eqA a b = eqA b a := by
 cases h : eqA b a with
 | true => exact QS.2 (QS.1 h).symm
 | false =>
  cases h2 : eqA a b with
  | false => rfl
  | true => rw [QS.2 (QS.1 h2).symm] at h; cases h
theorem Jqu (p : PV) (l : List PV) (a : AV) : Jab (p :: l) a = bif ltA (av p) a then Jab l a else eqA (av p) a := by
 unfold Jab
 simp only [Q8]
 cases ltA (av p) a with
 | true => rfl
 | false => rfl
def Ga : PH -> Int := hid fun x => (Q8 x.l x.a : Int)
def Jqv : PH -> Bool := hid fun x => Jab x.l x.a
theorem Jiy (x : PH) : Ga x = (Q8 x.l x.a : Int) := by rw [Ga, hid_eq]
theorem Jiz (x : PH) : Jqv x = Jab x.l x.a := by rw [Jqv, hid_eq]
theorem Jul (f : Nat) (rc : Bool -> Bool -> List PV -> Int -> Int -> Int -> OR) (k0 : Int -> Bool -> OR) (z fl : Bool) (l : List PV) (d u : Int) : WL f rc k0 z fl l (l.length : Int) d u = k0 (l.length : Int) false := by
 simp only [WL, QH]
 exact Ja (beq_self_eq_true _)
theorem Jqw (f : Nat) (rc : Bool -> Bool -> List PV -> Int -> Int -> Int -> OR) (k0 : Int -> Bool -> OR) (z fl : Bool) (l : List PV) (hl : l.all V9 = true) (h2 : l.length <= 1000) (i : Nat) (hi : i < l.length) (d u : Int) :
   WL f rc k0 z fl l (i : Int) d u = bif ltA (av (l.getD i .top)) ⟨d, u⟩ then rc z fl l ((i + 1 : Nat) : Int) d u else k0 (i : Int) (eqA (av (l.getD i .top)) ⟨d, u⟩) := by
 have g1 := tI i
 have w1 := wI (i := i) (by omega)
 have hc := XM (XN hl hi)
 unfold GG at hc
 simp only [WL, QH, g1, w1]
 generalize l.getD i .top = p at *
 have hr : (decide (0 <= (i : Int)) && decide ((i : Int) < zi l.length) && (PV.isSt 42 #[Field.mk "D" 3 0 false "" "" 0, Field.mk "U" 3 1 false "" "" 8].size p && (PV.isInt IntKind.i64 (PV.child 0 p) && (PV.isInt IntKind.i64 (PV.child (0 + 1) p) && true))) && true) = true := by rw [hc]; simp [zi]; omega
 have e1 : (PV.child 0 p).int = (av p).d := rfl
 have e2 : (PV.child (0 + 1) p).int = (av p).u := rfl
 have e3 : ((av p).d == d && ((av p).u == u && true)) = eqA (av p) ⟨d, u⟩ := rfl
 rw [e1, e2, e3]
 refine (Jd (beq_false_of_ne (by simp only [zi]; omega))).trans ((Ja hr).trans ?_)
 by_cases h1 : (av p).d > d
 · have hlt : ltA (av p) ⟨d, u⟩ = false := Bool.eq_false_iff.2 fun h => by have h := Yq.1 h; simp only at h; omega
   have heq : eqA (av p) ⟨d, u⟩ = false := Bool.eq_false_iff.2 fun h => by have h := QS.1 h; rw [h] at h1; simp only at h1; omega
   rw [hlt, heq]
   exact Ja (decide_eq_true h1)
 refine (Jd (decide_eq_false h1)).trans ((Ja hr).trans ?_)
 by_cases h2 : (av p).d = d
 · refine (Ja (by simpa using h2)).trans ((Ja hr).trans ?_)
   by_cases h3 : (av p).u > u
   · have hlt : ltA (av p) ⟨d, u⟩ = false := Bool.eq_false_iff.2 fun h => by have h := Yq.1 h; simp only at h; omega
     have heq : eqA (av p) ⟨d, u⟩ = false := Bool.eq_false_iff.2 fun h => by have h := QS.1 h; rw [h] at h3; simp only at h3; omega
     rw [hlt, heq]
     exact Ja (decide_eq_true h3)
   · refine (Jd (decide_eq_false h3)).trans ((Ja hr).trans ?_)
     cases he : eqA (av p) ⟨d, u⟩ with
     | true =>
      have hlt : ltA (av p) ⟨d, u⟩ = false := by rw [QS.1 he]; exact JdA
      rw [hlt]; rfl
     | false =>
      have hlt : ltA (av p) ⟨d, u⟩ = true := Yq.2 (by
       rcases Int.lt_or_le (av p).u u with g | g
       · exact .inr ⟨h2, g⟩
       · exfalso
         have : eqA (av p) ⟨d, u⟩ = true := QS.2 (by
          have : (av p).u = u := by omega
          cases hp : av p with
          | mk x y => rw [hp] at h2 this; simp only at h2 this; rw [h2, this])
         rw [this] at he; cases he)
      rw [hlt]; rfl
 · refine (Jd (by simpa using h2)).trans ((Ja hr).trans ?_)
   have hlt : ltA (av p) ⟨d, u⟩ = true := Yq.2 (.inl (by show (av p).d < d; omega))
   have heq : eqA (av p) ⟨d, u⟩ = false := Bool.eq_false_iff.2 fun h => by have h := QS.1 h; rw [h] at h2; exact h2 rfl
   rw [hlt, heq]; rfl
theorem Jum (l : List PV) (hl : l.all V9 = true) (h2 : l.length <= 1000) (d u : Int) (f : Nat) (k0 : Int -> Bool -> OR) (z fl : Bool) : ∀ (e i n : Nat), i + e = l.length -> e < n ->
  Xg f k0 n z fl l (i : Int) d u = k0 ((i + Q8 (l.drop i) ⟨d, u⟩ : Nat) : Int) (Jab (l.drop i) ⟨d, u⟩)
 | 0, i, n + 1, hi, hn => by
   rw [List.drop_of_length_le (by omega)]
   obtain rfl : i = l.length := by omega
   simp only [Xg]
   exact Jul f _ k0 z fl l d u
 | e + 1, i, n + 1, hi, hn => by
   simp only [Xg]
   rw [Jqw f _ k0 z fl l hl h2 i (by omega) d u, Qb (by omega), Jqu, Q8]
   cases ltA (av (l.getD i .top)) ⟨d, u⟩ with
   | false => rfl
   | true =>
    simp only [cond_true]
    rw [Jum l hl h2 d u f k0 z fl e (i + 1) n (by omega) (by omega)]
    rw [show i + 1 + Q8 (l.drop (i + 1)) ⟨d, u⟩ = i + (Q8 (l.drop (i + 1)) ⟨d, u⟩ + 1) from by omega]
theorem Jxx (f : Nat) (z fl : Bool) (l : List PV) (d u : Int) (k : KR) : Jxw f z fl l d u k = WL f (Xg f (fun x y => k ⟨.tup [.sc (.int .i64 x), .sc (.bool y)], [], []⟩) f) (fun x y => k ⟨.tup [.sc (.int .i64 x), .sc (.bool y)], [], []⟩) z fl l 0 d u := by
 unfold Jxw Jdz V1 WL QH
 rfl
def JiA : JA
 | [.ro 42 z f l, .st 42 [.sc (.int .i64 d), .sc (.int .i64 u)]], [], k => bif Jcj l then k ⟨.tup [.sc (.int .i64 (Ga ⟨l, ⟨d, u⟩⟩)), .sc (.bool (Jqv ⟨l, ⟨d, u⟩⟩))], [], []⟩ else none
 | _, _, _ => none
def Jun : Sig := { own := [], run := JiA }
theorem Jxy (z f : Bool) (l : List PV) (d u : Int) (h : Jcj l = true) (k : KR) : Jxw (l.length + 1) z f l d u k = k ⟨.tup [.sc (.int .i64 (Ga ⟨l, ⟨d, u⟩⟩)), .sc (.bool (Jqv ⟨l, ⟨d, u⟩⟩))], [], []⟩ := by
 obtain ⟨h1, h2⟩ := Ja1.1 h
 rw [Jxx, Jiy, Jiz]
 have := Jum l h1 h2 d u (l.length + 1) (fun x y => k ⟨.tup [.sc (.int .i64 x), .sc (.bool y)], [], []⟩) z f l.length 0 (l.length + 1 + 1) (by omega) (by omega)
 simp only [Xg, List.drop_zero, Nat.zero_add] at this
 exact this
theorem Juo : Jc tau Try.prog 127 Jun := Jc.mk' fun xs es k res hl hr => by
 change JiA xs es k = some res at hr
 unfold JiA at hr
 split at hr
 · rename_i z f l d u
   obtain ⟨hc, hr⟩ := Jw hr
   exact J6 Jn Jpy Jo JzX JzY (Jpz (Jaa (l.length + 1))) [.ro, .ro] 0 0 (JKo (l.length + 1)) hl rfl ((JOf (l.length + 1) z f l d u k).trans ((Jxy z f l d u hc k).trans hr))
 · cases hr
def Jnt : List PV -> AV -> Nat
 | [], _ => 0
 | p :: ps, a => bif eqA a (av p) then 0 else Jnt ps a + 1
def Jnu : PH -> Int := hid fun x => bif hasL x.l x.a then (Jnt x.l x.a : Int) else -1
theorem JpC (x : PH) : Jnu x = bif hasL x.l x.a then (Jnt x.l x.a : Int) else -1 := by rw [Jnu, hid_eq]
theorem Jup (x : PH) : decide (Jnu x >= 0) = hasP x := by
 rw [JpC, hasP_eq]
 cases hasL x.l x.a with
 | true => exact decide_eq_true (Int.natCast_nonneg _)
 | false => rfl
theorem Juq (l : List PV) (hl : l.all V9 = true) (h2 : l.length <= 1000) (d u : Int) (f : Nat) (k0 : Int -> OR) (k1 : OR) (z fl : Bool) : ∀ (e i n : Nat), i + e = l.length -> e < n ->
  ZD f k0 k1 n z fl l (zi l.length) (i : Int) d u = bif hasL (l.drop i) ⟨d, u⟩ then k0 ((i + Jnt (l.drop i) ⟨d, u⟩ : Nat) : Int) else k1
 | 0, i, n + 1, hi, hn => by
   rw [List.drop_of_length_le (by omega)]
   simp only [ZD, Vx]
   exact Jd (by simp [zi]; omega)
 | e + 1, i, n + 1, hi, hn => by
   have g1 := tI i
   have w1 := wI (i := i) (by omega)
   have hc := XM (XN hl (i := i) (by omega))
   unfold GG at hc
   rw [Qb (by omega)]
   simp only [ZD, Vx, g1, w1]
   refine (Ja (by simp [zi]; omega)).trans ((Ja (by rw [hc]; simp [zi]; omega)).trans ?_)
   have he : (d == (PV.child 0 (l.getD i PV.top)).int && (u == (PV.child (0 + 1) (l.getD i PV.top)).int && true)) = eqA ⟨d, u⟩ (av (l.getD i .top)) := rfl
   have hh : hasL (l.getD i .top :: l.drop (i + 1)) ⟨d, u⟩ = (eqA ⟨d, u⟩ (av (l.getD i .top)) || hasL (l.drop (i + 1)) ⟨d, u⟩) := by
    rw [Juk]; rfl
   rw [he, hh, Jnt]
   cases eqA ⟨d, u⟩ (av (l.getD i .top)) with
   | true => rfl
   | false =>
    refine (Jd rfl).trans ((Juq l hl h2 d u f k0 k1 z fl e (i + 1) n (by omega) (by omega)).trans ?_)
    rw [Bool.false_or, cond_false, show i + 1 + Jnt (l.drop (i + 1)) ⟨d, u⟩ = i + (Jnt (l.drop (i + 1)) ⟨d, u⟩ + 1) from by omega]
def JiB : JA
 | [.ro 42 z f l, .st 42 [.sc (.int .i64 d), .sc (.int .i64 u)]], [], k => bif Jcj l then k ⟨.sc (.int .i64 (Jnu ⟨l, ⟨d, u⟩⟩)), [], []⟩ else none
 | _, _, _ => none
def Jz0 : Sig := { own := [], run := JiB }
theorem Jxz (z f : Bool) (l : List PV) (d u : Int) (h : Jcj l = true) (k : KR) : JEh (l.length + 1) z f l d u k = k ⟨.sc (.int .i64 (Jnu ⟨l, ⟨d, u⟩⟩)), [], []⟩ := by
 obtain ⟨h1, h2⟩ := Ja1.1 h
 unfold JEh
 rw [JpC]
 refine (Juq l h1 h2 d u (l.length + 1) _ _ z f l.length 0 (l.length + 1) (by omega) (by omega)).trans ?_
 rw [List.drop_zero, Nat.zero_add]
 cases hasL l ⟨d, u⟩ <;> rfl
theorem JEj : Jc tau Try.prog 123 Jz0 := Jc.mk' fun xs es k res hl hr => by
 change JiB xs es k = some res at hr
 unfold JiB at hr
 split at hr
 · rename_i z f l d u
   obtain ⟨hc, hr⟩ := Jw hr
   exact J6 Jn Jpv Jo JzV JzW (Jpw (G9 (l.length + 1))) [.ro] 0 0 (JKl (l.length + 1)) hl rfl ((JOe (l.length + 1) z f l d u k).trans ((Jxz z f l d u hc k).trans hr))
 · cases hr
def JiC : JA
 | [.st 42 [.sc (.int .i64 a), .sc (.int .i64 b)]], [], k => k ⟨.sc (.bool (inA [a, 2, b, 7])), [], []⟩
 | _, _, _ => none
def Jz1 : Sig := { own := [], run := JiC }
theorem JEk : Jc tau Try.prog 128 Jz1 := JKj.of fun xs es k res hr => by
 change JiC xs es k = some res at hr
 unfold JiC at hr
 split at hr
 · rename_i a b
   show Jxr 0 a b k = some res
   rw [Jjs] at hr
   unfold Jxr
   unfold inZ at hr
   by_cases h1 : a >= 0 <;> by_cases h2 : a < 3 <;> by_cases h3 : b >= 0 <;> by_cases h4 : b < 8 <;> simp [h1, h2, h3, h4, show (a <= 2) ↔ (a < 3) from by omega, show (b <= 7) ↔ (b < 8) from by omega] at hr ⊢ <;> exact hr
 · cases hr
def F87 : Fns := Js 123 Jz0 (F0)
theorem JEl : Jq tau Try.prog F87 := (Jt).add JEj JKm
def JEm : An := (.seq .leaf (.seq .leaf .leaf))
def g87 (f : Nat) (s_z s_f : Bool) (s : List PV) (v_D v_U : Int) (k : KR) : OR := bif Jcj s then k (Res.mk (.sc (.bool (decide (Jnu (PH.mk s (AV.mk v_D v_U)) >= 0)))) [] []) else none
theorem e87 (f : Nat) (s_z s_f : Bool) (s : List PV) (v_D v_U : Int) (k : KR) : JK tau F87 Try.f87 (Try.f87.body.get!) JEm [.ro] 0 [.ro 42 s_z s_f s, .st 42 [.sc (.int .i64 v_D), .sc (.int .i64 v_U)]] [] k = g87 f s_z s_f s v_D v_U k := by kernel_rfl
theorem JOg (f : Nat) : ∀ q ∈ Jg (Try.f87.body.get!) JEm, q.Ok tau Try.prog 0 := Jx (by kernel_rfl)
theorem JKp : Try.prog.funcs[87]? = some Try.f87 := by kernel_rfl
theorem JKq : Try.f87.body = some (Try.f87.body.get!) := by kernel_rfl
theorem JOh : Enters Try.prog 87 := enters_of JKp (by kernel_rfl) JKq
def Jur : JA
 | [.ro 42 s_z s_f s, .st 42 [.sc (.int .i64 v_D), .sc (.int .i64 v_U)]], [], k => g87 0 s_z s_f s v_D v_U k
 | _, _, _ => none
def s87 : Sig := { own := [], run := Jur }
theorem JOi : Jc tau Try.prog 87 s87 := JP Jn JEl Jo JKp JKq JEm [.ro] 0 [] Jur (JOg 0) fun xs es k res hr => by
 unfold Jur at hr
 split at hr
 · exact ⟨rfl, 0, (e87 0 _ _ _ _ _  _).trans hr⟩
 · cases hr
def F39 : Fns := Js 87 s87 (F0)
theorem JEn : Jq tau Try.prog F39 := (Jt).add JOi JOh
def JEo : An := (.seq .leaf (.seq .leaf .leaf))
def g39 (f : Nat) (l_z l_f : Bool) (l : List PV) (a_D a_U : Int) (k : KR) : OR := bif Jcj l then k (Res.mk (.sc (.bool (decide (Jnu (PH.mk l (AV.mk a_D a_U)) >= 0)))) [] []) else none
theorem e39 (f : Nat) (l_z l_f : Bool) (l : List PV) (a_D a_U : Int) (k : KR) : JK tau F39 Try.f39 (Try.f39.body.get!) JEo [.ro] 0 [.ro 42 l_z l_f l, .st 42 [.sc (.int .i64 a_D), .sc (.int .i64 a_U)]] [] k = g39 f l_z l_f l a_D a_U k := by kernel_rfl
theorem JOj (f : Nat) : ∀ q ∈ Jg (Try.f39.body.get!) JEo, q.Ok tau Try.prog 0 := Jx (by kernel_rfl)
theorem JKr : Try.prog.funcs[39]? = some Try.f39 := by kernel_rfl
theorem JKs : Try.f39.body = some (Try.f39.body.get!) := by kernel_rfl
theorem JOk : Enters Try.prog 39 := enters_of JKr (by kernel_rfl) JKs
def Jus : JA
 | [.ro 42 l_z l_f l, .st 42 [.sc (.int .i64 a_D), .sc (.int .i64 a_U)]], [], k => g39 0 l_z l_f l a_D a_U k
 | _, _, _ => none
def s39 : Sig := { own := [], run := Jus }
theorem JOl : Jc tau Try.prog 39 s39 := JP Jn JEn Jo JKr JKs JEo [.ro] 0 [] Jus (JOj 0) fun xs es k res hr => by
 unfold Jus at hr
 split at hr
 · exact ⟨rfl, 0, (e39 0 _ _ _ _ _  _).trans hr⟩
 · cases hr
def JKt : Fns := F0
theorem JxA : Jq tau Try.prog JKt := Jt
def Jut : An := (.seq .leaf (.seq (.seq .leaf (.cond .leaf .leaf)) (.seq (.seq .leaf (.seq .leaf (.cond .leaf .leaf))) (.seq .leaf .leaf))))
def JKu (f : Nat) (n : Int) (k : KR) : OR := bif decide (n < 0) then none else bif decide (IntKind.i64.wrap (n - IntKind.i64.wrap (zi 0 - zi 0)) > 0) then bif decide (0 <= IntKind.i64.wrap (n - IntKind.i64.wrap (zi 0 - zi 0))) && Je (IntKind.i64.wrap (n - IntKind.i64.wrap (zi 0 - zi 0))).toNat 16 && true then k (Res.mk (.ow 42 16 [] 0 0 none) [] [.vec false 42 (IntKind.i64.wrap (n - IntKind.i64.wrap (zi 0 - zi 0)) == 0) (List.replicate (IntKind.i64.wrap (n - IntKind.i64.wrap (zi 0 - zi 0))).toNat (PV.st 42 [.sc (.int .i64 0), .sc (.int .i64 0)]))]) else none else k (Res.mk (.ro 42 true true []) [] [])
theorem JOm (f : Nat) (n : Int) (k : KR) : JK tau JKt Try.f135 (Try.f135.body.get!) Jut [] 0 [.ro 42 true true [], .sc (.int .i64 n)] [] k = JKu f n k := by kernel_rfl
theorem JKv (f : Nat) : ∀ q ∈ Jg (Try.f135.body.get!) Jut, q.Ok tau Try.prog 0 := Jx (by kernel_rfl)
theorem Jz2 : Try.prog.funcs[135]? = some Try.f135 := by kernel_rfl
theorem Jz3 : Try.f135.body = some (Try.f135.body.get!) := by kernel_rfl
theorem JKw : Enters Try.prog 135 := enters_of Jz2 (by kernel_rfl) Jz3
def Jnv : JA
 | [.ro 42 true true [], .sc (.int .i64 n)], [], k => JKu 0 n k
 | _, _, _ => none
def JKx : Sig := { own := [], run := Jnv }
theorem JKy : Jc tau Try.prog 135 JKx := JP Jn JxA Jo Jz2 Jz3 Jut [] 0 [] Jnv (JKv 0) fun xs es k res hr => by
 unfold Jnv at hr
 split at hr
 · exact ⟨rfl, 0, (JOm 0 _  _).trans hr⟩
 · cases hr
def Jac : Nat := 36
def Jqx : Fns := Js 135 JKx (F0)
theorem JiD : Jq tau Try.prog Jqx := (Jt).add JKy JKw
def JiE : Code := Qj (Try.f129.body.get!) [1, 1, 0, 1, 0, 0]
def JbR : Nm := [(0, .any), (3, .any), (9, .any), (10, .any), (11, .any)]
def JiF : Nm := [(0, .any), (3, .any)]
def Jnw : An := (.seq .leaf (.seq (.cond .leaf .leaf) (.seq (.block none (.seq .leaf (.seq .leaf (.seq .leaf (.cond .leaf .leaf))))) .leaf)))
def Jcy : Code := Qj (Try.f129.body.get!) [1, 1, 1, 1, 0, 1, 0, 0]
def XE : Nm := [(6, .own), (25, .any), (26, .any), (27, .any)]
def Yu : Nm := [(6, .any)]
def Jfu : An := (.seq .leaf (.seq (.cond .leaf .leaf) (.seq (.block none (.seq .leaf .leaf)) .leaf)))
def JpD (r0 : Qz) (r1 : Qz) : An := (.seq .leaf (.seq .leaf (.seq (.seq .leaf (.block none (.sum JbR Jac r0))) (.seq .leaf (.seq (.seq .leaf (.block none (.sum XE Jac r1))) (.seq .leaf .leaf))))))
abbrev JpE := Bool -> Bool -> List PV -> Int -> Bool -> Bool -> List PV -> Int -> Int -> OR
def Vy (f : Nat) (rc : JpE) (k0 : Bool -> Bool -> List PV -> Int -> OR) (v0 v1 : Bool) (v2 : List PV) (v3 : Int) (v4 v5 : Bool) (v6 : List PV) (v7 v8 : Int) : OR := bif decide (v8 < v7) then bif decide (0 <= v8) && decide (v8 < zi v6.length) && PV.isRo 42 (v6.getD v8.toNat PV.top) && true then bif decide (IntKind.i64.wrap (v3 + zi (v6.getD v8.toNat PV.top).els.length) < 0) then none else rc v0 v1 v2 (IntKind.i64.wrap (v3 + zi (v6.getD v8.toNat PV.top).els.length)) v4 v5 v6 v7 (IntKind.i64.wrap (v8 + 1)) else none else k0 v0 v1 v2 v3
def ZE (f : Nat) (k0 : Bool -> Bool -> List PV -> Int -> OR) : Nat -> JpE
 | 0 => fun _ _ _ _ _ _ _ _ _ => none
 | n + 1 => Vy f (ZE f k0 n) k0
def V2 (k : Kont) := fun x0 x1 x2 x3 => k (Ex.exit 0) (Jj JiF Jac [.ro 35 x0 x1 x2, .sc (.int .i64 x3)] [])
def JiG (f : Nat) (k : Kont) (n : Nat) (v0 v1 : Bool) (v2 : List PV) (v3 : Int) (v4 v5 : Bool) (v6 : List PV) (v7 v8 : Int) : OR := Jy tau 0 JbR (fun s k => ev tau Jqx 0 0 JiE (Jnw ) s k) n (Jj JbR Jac [.ro 35 v0 v1 v2, .sc (.int .i64 v3), .ro 35 v4 v5 v6, .sc (.int .i64 v7), .sc (.int .i64 v8)] []) (JI tau 0 JiF k)
theorem Juu (f : Nat) (k : Kont) (n : Nat) : JiG f k (n + 1) = Vy f (JiG f k n) (V2 k) := by kernel_rfl
theorem Jj7 (f : Nat) (k : Kont) : ∀ n, JiG f k n = ZE f (V2 k) n
 | 0 => rfl
 | n + 1 => (Juu f k n).trans (congrArg (fun r => Vy f r (V2 k)) (Jj7 f k n))
def Jad (f : Nat) : List PV -> List (Nat × Ent) -> Kont -> OR
 | [.ro 35 v0 v1 v2, .sc (.int .i64 v3), .ro 35 v4 v5 v6, .sc (.int .i64 v7),
 .sc (.int .i64 v8)], [], k => ZE f (V2 k) f v0 v1 v2 v3 v4 v5 v6 v7 v8
 | _, _, _ => none
theorem JxB (f : Nat) : Jg JiE Jnw = [] := by kernel_rfl
theorem JxC (f : Nat) : (Item.l JiE JbR Jac (Jad f)).Ok tau Try.prog 0 := Ju Jn JiD Jo (x := Jnw) (nm2 := JiF) (Jk _ _ (by rw [JxB f]; intro q hq; cases hq)) fun vs hp k res hr => by
 unfold Jad at hr
 split at hr
 · rw [← Jj7 f] at hr; exact ⟨f, 0, hr⟩
 · cases hr
def Vz (f : Nat) (rc : Nat -> Bool -> Bool -> List PV -> Int -> Int -> Bool -> List PV -> OR) (k0 : Nat -> Bool -> List PV -> OR) (v0 : Nat) (v1 v2 : Bool) (v3 : List PV) (v4 v5 : Int) (v6 : Bool) (v7 : List PV) : OR := bif decide (v5 < v4) then bif decide (0 <= v5) && decide (v5 < zi v3.length) && PV.isRo 42 (v3.getD v5.toNat PV.top) && true then bif Je (v0 + (v3.getD v5.toNat PV.top).els.length) 16 && true then rc (v0 + (v3.getD v5.toNat PV.top).els.length) v1 v2 v3 v4 (IntKind.i64.wrap (v5 + 1)) (v6 && (v3.getD v5.toNat PV.top).els.isEmpty) (List.take v0 v7 ++ (v3.getD v5.toNat PV.top).els) else none else none else k0 v0 v6 v7
def Xh (f : Nat) (k0 : Nat -> Bool -> List PV -> OR) : Nat -> Nat -> Bool -> Bool -> List PV -> Int -> Int -> Bool -> List PV -> OR
 | 0, _, _, _, _, _, _, _, _ => none
 | n + 1, v0, v1, v2, v3, v4, v5, v6, v7 => Vz f (Xh f k0 n) k0 v0 v1 v2 v3 v4 v5 v6 v7
theorem Juv (f : Nat) (k : Kont) (n v0 : Nat) (v1 v2 : Bool) (v3 : List PV) (v4 v5 : Int) (v6 : Bool) (v7 : List PV) : Jy tau 0 XE (fun s k => ev tau Jqx 0 0 Jcy (Jfu ) s k) (n + 1) (Jj XE Jac [.ow 42 592 [] 0 v0 none, .ro 35 v1 v2 v3, .sc (.int .i64 v4), .sc (.int .i64 v5)] [(592, .vec false 42 v6 v7)]) (JI tau 0 Yu k) = Vz f (fun v0 v1 v2 v3 v4 v5 v6 v7 => Jy tau 0 XE (fun s k => ev tau Jqx 0 0 Jcy (Jfu ) s k) n (Jj XE Jac [.ow 42 592 [] 0 v0 none, .ro 35 v1 v2 v3, .sc (.int .i64 v4), .sc (.int .i64 v5)] [(592, .vec false 42 v6 v7)]) (JI tau 0 Yu k)) (fun x0 x1 x2 => k (Ex.exit 2) (Jj Yu Jac [.ow 42 592 [] 0 x0 none] [(592, .vec false 42 x1 x2)])) v0 v1 v2 v3 v4 v5 v6 v7 := by kernel_rfl
theorem Jj8 (f : Nat) (k : Kont) : ∀ (n v0 : Nat) (v1 v2 : Bool) (v3 : List PV) (v4 v5 : Int) (v6 : Bool) (v7 : List PV), Jy tau 0 XE (fun s k => ev tau Jqx 0 0 Jcy (Jfu ) s k) n (Jj XE Jac [.ow 42 592 [] 0 v0 none, .ro 35 v1 v2 v3, .sc (.int .i64 v4), .sc (.int .i64 v5)] [(592, .vec false 42 v6 v7)]) (JI tau 0 Yu k) = Xh f (fun x0 x1 x2 => k (Ex.exit 2) (Jj Yu Jac [.ow 42 592 [] 0 x0 none] [(592, .vec false 42 x1 x2)])) n v0 v1 v2 v3 v4 v5 v6 v7 | 0, _, _, _, _, _, _, _, _ => rfl | n + 1, v0, v1, v2, v3, v4, v5, v6, v7 => (Juv f k n v0 v1 v2 v3 v4 v5 v6 v7).trans (congrArg (fun r => Vz f r (fun x0 x1 x2 => k (Ex.exit 2) (Jj Yu Jac [.ow 42 592 [] 0 x0 none] [(592, .vec false 42 x1 x2)])) v0 v1 v2 v3 v4 v5 v6 v7) (by funext v0 v1 v2 v3 v4 v5 v6 v7; exact Jj8 f k n v0 v1 v2 v3 v4 v5 v6 v7))
def Jae (f : Nat) : List PV -> List (Nat × Ent) -> Kont -> OR
 | [.ow 42 592 [] 0 v0 none, .ro 35 v1 v2 v3, .sc (.int .i64 v4),
 PV.sc
  (Value.int IntKind.i64
   v5)], [(592, .vec false 42 v6 v7)], k => Xh f (fun x0 x1 x2 => k (Ex.exit 2) (Jj Yu Jac [.ow 42 592 [] 0 x0 none] [(592, .vec false 42 x1 x2)])) f v0 v1 v2 v3 v4 v5 v6 v7
 | _, _, _ => none
theorem JxD (f : Nat) : Jg Jcy Jfu = [] := by kernel_rfl
theorem JxE (f : Nat) : (Item.l Jcy XE Jac (Jae f)).Ok tau Try.prog 0 := Ju Jn JiD Jo (x := Jfu) (nm2 := Yu) (Jk _ _ (by rw [JxD f]; intro q hq; cases hq)) fun vs hp k res hr => by
 unfold Jae at hr
 split at hr
 · exact ⟨f, 0, (Jj8 f _ f _ _ _ _ _ _ _ _ ).trans hr⟩
 · cases hr
def JKz (f : Nat) (y0 y1 : Bool) (slices : List PV) (k : KR) : OR := ZE f (fun x0_0 x1_0 x2_0 JR => bif decide (JR < 0) then none else bif decide (IntKind.i64.wrap (JR - IntKind.i64.wrap (zi 0 - zi 0)) > 0) then bif decide (0 <= IntKind.i64.wrap (JR - IntKind.i64.wrap (zi 0 - zi 0))) && Je (IntKind.i64.wrap (JR - IntKind.i64.wrap (zi 0 - zi 0))).toNat 16 && true then Xh f (fun x0_1 x1_1 x2_1 => k (Res.mk (.ow 42 16 [] 0 x0_1 none) [] [.vec false 42 x1_1 x2_1])) f (0) x0_0 x1_0 x2_0 (zi x2_0.length) (0) (IntKind.i64.wrap (JR - IntKind.i64.wrap (zi 0 - zi 0)) == 0) (List.replicate (IntKind.i64.wrap (JR - IntKind.i64.wrap (zi 0 - zi 0))).toNat (PV.st 42 [.sc (.int .i64 0), .sc (.int .i64 0)])) else none else Xh f (fun x0_2 x1_2 x2_2 => k (Res.mk (.ow 42 16 [] 0 x0_2 none) [] [.vec false 42 x1_2 x2_2])) f (0) x0_0 x1_0 x2_0 (zi x2_0.length) (0) true ([])) f y0 y1 slices (0) y0 y1 slices (zi slices.length) (0)
theorem JOn (f : Nat) (y0 y1 : Bool) (slices : List PV) (k : KR) : JK tau Jqx Try.f129 (Try.f129.body.get!) (JpD (Jad f) (Jae f)) [] 0 [.ro 35 y0 y1 slices] [] k = JKz f y0 y1 slices k := by kernel_rfl
theorem JKA (f : Nat) : Jg (Try.f129.body.get!) (JpD (Jad f) (Jae f)) = [.l JiE JbR Jac (Jad f), .l Jcy XE Jac (Jae f)] := by kernel_rfl
theorem JKB (f : Nat) : ∀ q ∈ Jg (Try.f129.body.get!) (JpD (Jad f) (Jae f)), q.Ok tau Try.prog 0 := by rw [JKA f]; exact JL (JxC f) (JL (JxE f) (fun _ h => nomatch h))
theorem Jz4 : Try.prog.funcs[129]? = some Try.f129 := by kernel_rfl
theorem Jz5 : Try.f129.body = some (Try.f129.body.get!) := by kernel_rfl
theorem Jz6 : Enters Try.prog 129 := enters_of Jz4 (by kernel_rfl) Jz5
theorem Jfv {l : List PV} (h : l.all (PV.isRo 42) = true) {i : Nat} (hi : i < l.length) : (l.getD i .top).isRo 42 = true := by
 rw [List.getD_eq_getElem?_getD, List.getElem?_eq_getElem hi]
 exact List.all_eq_true.1 h _ (List.getElem_mem hi)
theorem Juw (f : Nat) (k0 : Bool -> Bool -> List PV -> Int -> OR) (a b : Bool) (c : List PV) (nl fl : Bool) (l : List PV) (hl : l.all (PV.isRo 42) = true) (hs : (JH l).length <= 8000000000000) (hn : l.length <= 8000000000000) : ∀ (d i n : Nat), i + d = l.length -> d < n ->
  ZE f k0 n a b c ((JH (l.take i)).length : Int) nl fl l (l.length : Int) (i : Int) = k0 a b c ((JH l).length : Int)
 | 0, i, n + 1, h, hd => by
   obtain rfl : i = l.length := by omega
   simp only [ZE, Vy]
   exact (Jd (by simp)).trans (by rw [List.take_length])
 | d + 1, i, n + 1, h, hd => by
   have hle := XA l (i + 1)
   have hadd : (JH (l.take (i + 1))).length = (JH (l.take i)).length + (l.getD i .top).els.length := by rw [XL l i (by omega), List.length_append]
   have h1 := wI (i := i) (by omega)
   have h2 : IntKind.i64.wrap (((JH (l.take i)).length : Int) + ((l.getD i .top).els.length : Int)) = ((JH (l.take (i + 1))).length : Int) := by rw [wrap_i64 (by omega) (by omega)]; omega
   simp only [ZE, Vy, zi, Int.toNat_natCast, h1, h2]
   refine (Ja (by simp <;> omega)).trans ?_
   refine (Ja (by rw [Jfv hl (by omega)]; simp; omega)).trans ?_
   refine (Jd (by simp <;> omega)).trans ?_
   exact Juw f k0 a b c nl fl l hl hs hn d (i + 1) n (by omega) (by omega)
theorem Jnx (f : Nat) (k0 : Nat -> Bool -> List PV -> OR) (nl fl : Bool) (l : List PV) (hl : l.all (PV.isRo 42) = true) (hs : (JH l).length <= 8000000000000) (hn : l.length <= 8000000000000) : ∀ (d i n : Nat) (z : Bool) (v : List PV), i + d = l.length -> d < n -> v.take (JH (l.take i)).length = JH (l.take i) -> (d = 0 -> v = JH l) ->
  Xh f k0 n (JH (l.take i)).length nl fl l (l.length : Int) (i : Int) z v = k0 (JH l).length (z && (JH (l.drop i)).isEmpty) (JH l)
 | 0, i, n + 1, z, v, h, hd, hv, h0 => by
   obtain rfl : i = l.length := by omega
   simp only [Xh, Vz]
   refine (Jd (by simp)).trans ?_
   rw [List.take_length, h0 rfl, List.drop_length]; simp
 | d + 1, i, n + 1, z, v, h, hd, hv, h0 => by
   have hle := XA l (i + 1)
   have hadd : (JH (l.take (i + 1))).length = (JH (l.take i)).length + (l.getD i .top).els.length := by rw [XL l i (by omega), List.length_append]
   have h1 := wI (i := i) (by omega)
   simp only [Xh, Vz, zi, Int.toNat_natCast, h1, hv]
   refine (Ja (by simp <;> omega)).trans ?_
   refine (Ja (by rw [Jfv hl (by omega)]; simp; omega)).trans ?_
   refine (Ja (by simp only [Je, Bool.and_true, decide_eq_true_eq]; omega)).trans ?_
   have := Jnx f k0 nl fl l hl hs hn d (i + 1) n (z && (l.getD i .top).els.isEmpty) (JH (l.take (i + 1))) (by omega) (by omega) (List.take_length) (fun hd0 => by rw [show i + 1 = l.length from by omega, List.take_length])
   rw [hadd, XL l i (by omega)] at this
   rw [this, Jev l i (by omega), XK, Jc1, Bool.and_assoc]
def JiH : JA
 | [.ro 35 nl fl l], [], k => bif l.all (PV.isRo 42) && (decide ((JH l).length <= 8000000000000) && decide (l.length <= 8000000000000)) then k ⟨.ow 42 16 [] 0 (JH l).length none, [], [.vec false 42 (JH l).isEmpty (JH l)]⟩ else none
 | _, _, _ => none
def Jux : Sig := { own := [], run := JiH }
theorem JxF (nl fl : Bool) (l : List PV) (k : KR) (hl : l.all (PV.isRo 42) = true) (hs : (JH l).length <= 8000000000000) (hn : l.length <= 8000000000000) :
  JKz (l.length + 1) nl fl l k = k ⟨.ow 42 16 [] 0 (JH l).length none, [], [.vec false 42 (JH l).isEmpty (JH l)]⟩ := by
 have h0 := Juw (l.length + 1) (fun x0_0 x1_0 x2_0 JR =>
  bif decide (JR < 0) then
   none
  else bif decide (IntKind.i64.wrap (JR - IntKind.i64.wrap (zi 0 - zi 0)) > 0) then
   bif decide (0 <= IntKind.i64.wrap (JR - IntKind.i64.wrap (zi 0 - zi 0))) && Je (IntKind.i64.wrap (JR - IntKind.i64.wrap (zi 0 - zi 0))).toNat 16 && true then
    Xh (l.length + 1) (fun x0_1 x1_1 x2_1 =>
     k (Res.mk (PV.ow 42 16 [] 0 x0_1 none) []
      [Ent.vec false 42 x1_1
       x2_1])) (l.length + 1) (0) x0_0 x1_0 x2_0 (zi
     x2_0.length) (0) (IntKind.i64.wrap (JR - IntKind.i64.wrap (zi 0 - zi 0)) ==
     0) (List.replicate (IntKind.i64.wrap (JR - IntKind.i64.wrap (zi 0 - zi 0))).toNat (PV.st 42 [.sc (.int .i64 0), .sc (.int .i64 0)]))
   else none
  else Xh (l.length + 1) (fun x0_2 x1_2 x2_2 =>
   k (Res.mk (PV.ow 42 16 [] 0 x0_2 none) [] [Ent.vec false 42 x1_2 x2_2])) (l.length + 1) (0) x0_0 x1_0 x2_0 (zi x2_0.length) (0) true ([])) nl fl l nl fl l hl hs hn l.length 0 (l.length + 1) (by omega) (by omega)
 refine h0.trans ?_
 have hw : IntKind.i64.wrap (((JH l).length : Int) - IntKind.i64.wrap (zi 0 - zi 0)) = ((JH l).length : Int) := by
  have : IntKind.i64.wrap (zi 0 - zi 0) = 0 := by decide
  rw [this, wrap_i64 (by omega) (by omega)]; omega
 simp only [hw]
 refine (Jd (by simp <;> omega)).trans ?_
 cases he : (JH l).isEmpty with
 | true =>
  have he' : JH l = [] := by simpa using he
  refine (Jd (by simp [he'])).trans ?_
  have := Jnx (l.length + 1) (fun x0_2 x1_2 x2_2 => k (Res.mk (PV.ow 42 16 [] 0 x0_2 none) [] [Ent.vec false 42 x1_2 x2_2])) nl fl l hl hs hn l.length 0 (l.length + 1) true [] (by omega) (by omega) (by simp) (fun _ => he'.symm)
  refine this.trans ?_
  simp [he']
 | false =>
  have he' : JH l ≠ [] := by simpa using he
  have hpos : 0 < (JH l).length := List.length_pos_iff.2 he'
  have hl0 : l.length ≠ 0 := by
   intro h; rw [List.length_eq_zero_iff] at h; subst h; simp at he'
  refine (Ja (by simp <;> omega)).trans ?_
  refine (Ja (by simp [Je] <;> omega)).trans ?_
  have := Jnx (l.length + 1) (fun x0_2 x1_2 x2_2 => k (Res.mk (PV.ow 42 16 [] 0 x0_2 none) [] [Ent.vec false 42 x1_2 x2_2])) nl fl l hl hs hn l.length 0 (l.length + 1) (((JH l).length : Int) == 0) (List.replicate (((JH l).length : Int)).toNat (PV.st 42 [.sc (.int .i64 0), .sc (.int .i64 0)])) (by omega) (by omega) (by simp) (fun h => absurd h hl0)
  refine this.trans ?_
  have hz : (((JH l).length : Int) == 0) = false := by simp [he']
  rw [hz]; rfl
theorem Juy : Jc tau Try.prog 129 Jux := Jg7 Jn JiD Jo Jz4 Jz5 (fun n => JpD (Jad n) (Jae n)) [] 0 [] JiH (fun n => JKB n) fun xs es k res hr => by
 unfold JiH at hr
 split at hr
 · rename_i nl fl l
   obtain ⟨hc, hr⟩ := Jw hr
   simp only [Bool.and_eq_true, decide_eq_true_eq] at hc
   refine ⟨rfl, l.length + 1, 0, (JOn _ _ _ _ _).trans ?_⟩
   rw [JxF _ _ _ _ hc.1 hc.2.1 hc.2.2]; exact hr
 · cases hr
def F90 : Fns := Js 129 Jux (Js 128 Jz1 (Js 127 Jun (Js 86 s86 (F0))))
theorem JEp : Jq tau Try.prog F90 := ((((Jt).add JEd JEc).add Juo JzZ).add JEk JKi).add Juy Jz6
def JEq : An := (.seq .leaf (.seq .leaf (.seq (.block none (.seq .leaf (.cond (.seq .leaf .leaf) (.seq .leaf (.cond (.seq .leaf .leaf) (.seq .leaf (.cond (.seq .leaf .leaf) .leaf))))))) (.seq .leaf .leaf))))
abbrev Jcz (l_z : Bool) (l_f : Bool) (l : List PV) (a_D : Int) (a_U : Int) := (JH [PV.ro 42 l_z (l_z || l_f && false) (List.take (Ga (PH.mk l (AV.mk a_D a_U))).toNat l), PV.ro 42 false false [PV.st 42 [PV.sc (.int .i64 a_D), PV.sc (.int .i64 a_U)]], PV.ro 42 l_z (l_z || l_f && true) (List.drop (Ga (PH.mk l (AV.mk a_D a_U))).toNat (List.take l.length l))])
def g90 (f : Nat) (l_z l_f : Bool) (l : List PV) (a_D a_U : Int) (k : KR) : OR := bif Jcj l then bif !inA [a_D, 2, a_U, 7] then bif l_z then k (Res.mk (.tup [.ro 42 true true [], .sc (.int .i64 1)]) [] []) else bif Je (0 + l.length) 16 && true then k (Res.mk (.tup [.ro 42 false false (List.take (0 + l.length) l), .sc (.int .i64 1)]) [] []) else none else bif Jqv (PH.mk l (AV.mk a_D a_U)) then bif l_z then k (Res.mk (.tup [.ro 42 true true [], .sc (.int .i64 12)]) [] []) else bif Je (0 + l.length) 16 && true then k (Res.mk (.tup [.ro 42 false false (List.take (0 + l.length) l), .sc (.int .i64 12)]) [] []) else none else bif decide (zi l.length >= 8) then bif l_z then k (Res.mk (.tup [.ro 42 true true [], .sc (.int .i64 4)]) [] []) else bif Je (0 + l.length) 16 && true then k (Res.mk (.tup [.ro 42 false false (List.take (0 + l.length) l), .sc (.int .i64 4)]) [] []) else none else bif decide (0 <= Ga (PH.mk l (AV.mk a_D a_U))) && true && decide ((Ga (PH.mk l (AV.mk a_D a_U))).toNat <= l.length) && true then bif decide (0 <= Ga (PH.mk l (AV.mk a_D a_U))) && true && decide ((Ga (PH.mk l (AV.mk a_D a_U))).toNat <= l.length) && decide (l.length <= l.length) && true then bif decide ((Jcz l_z l_f l a_D a_U).length <= 8000000000000) && true then k (Res.mk (.tup [.ro 42 (Ent.vec false 42 (Jcz l_z l_f l a_D a_U).isEmpty (Jcz l_z l_f l a_D a_U)).nil false (List.take (Jcz l_z l_f l a_D a_U).length (Jcz l_z l_f l a_D a_U)), .sc (.int .i64 0)]) [] []) else none else none else none else none
theorem e90 (f : Nat) (l_z l_f : Bool) (l : List PV) (a_D a_U : Int) (k : KR) : JK tau F90 Try.f90 (Try.f90.body.get!) JEq [.ro, .ro] 0 [.ro 42 l_z l_f l, .st 42 [.sc (.int .i64 a_D), .sc (.int .i64 a_U)]] [] k = g90 f l_z l_f l a_D a_U k := by kernel_rfl
theorem JOo (f : Nat) : ∀ q ∈ Jg (Try.f90.body.get!) JEq, q.Ok tau Try.prog 0 := Jx (by kernel_rfl)
theorem JKC : Try.prog.funcs[90]? = some Try.f90 := by kernel_rfl
theorem JKD : Try.f90.body = some (Try.f90.body.get!) := by kernel_rfl
theorem JOp : Enters Try.prog 90 := enters_of JKC (by kernel_rfl) JKD
def Juz : JA
 | [.ro 42 l_z l_f l, .st 42 [.sc (.int .i64 a_D), .sc (.int .i64 a_U)]], [], k => g90 0 l_z l_f l a_D a_U k
 | _, _, _ => none
def s90 : Sig := { own := [], run := Juz }
theorem JOq : Jc tau Try.prog 90 s90 := JP Jn JEp Jo JKC JKD JEq [.ro, .ro] 0 [] Juz (JOo 0) fun xs es k res hr => by
 unfold Juz at hr
 split at hr
 · exact ⟨rfl, 0, (e90 0 _ _ _ _ _  _).trans hr⟩
 · cases hr
def F91 : Fns := Js 129 Jux (Js 127 Jun (Js 86 s86 (F0)))
theorem JEr : Jq tau Try.prog F91 := (((Jt).add JEd JEc).add Juo JzZ).add Juy Jz6
def JEs : An := (.seq .leaf (.seq .leaf (.seq (.seq .leaf (.cond (.seq .leaf .leaf) .leaf)) (.seq .leaf .leaf))))
abbrev JcA (l_z : Bool) (l_f : Bool) (l : List PV) (a_D : Int) (a_U : Int) := (JH [PV.ro 42 l_z (l_z || l_f && false) (List.take (Ga (PH.mk l (AV.mk a_D a_U))).toNat l), PV.ro 42 l_z (l_z || l_f && true) (List.drop (IntKind.i64.wrap (Ga (PH.mk l (AV.mk a_D a_U)) + 1)).toNat (List.take l.length l))])
def g91 (f : Nat) (l_z l_f : Bool) (l : List PV) (a_D a_U : Int) (k : KR) : OR := bif Jcj l then bif !Jqv (PH.mk l (AV.mk a_D a_U)) then bif l_z then k (Res.mk (.tup [.ro 42 true true [], .sc (.int .i64 2)]) [] []) else bif Je (0 + l.length) 16 && true then k (Res.mk (.tup [.ro 42 false false (List.take (0 + l.length) l), .sc (.int .i64 2)]) [] []) else none else bif decide (0 <= Ga (PH.mk l (AV.mk a_D a_U))) && true && decide ((Ga (PH.mk l (AV.mk a_D a_U))).toNat <= l.length) && true then bif decide (0 <= IntKind.i64.wrap (Ga (PH.mk l (AV.mk a_D a_U)) + 1)) && true && decide ((IntKind.i64.wrap (Ga (PH.mk l (AV.mk a_D a_U)) + 1)).toNat <= l.length) && decide (l.length <= l.length) && true then bif decide ((JcA l_z l_f l a_D a_U).length <= 8000000000000) && true then k (Res.mk (.tup [.ro 42 (Ent.vec false 42 (JcA l_z l_f l a_D a_U).isEmpty (JcA l_z l_f l a_D a_U)).nil false (List.take (JcA l_z l_f l a_D a_U).length (JcA l_z l_f l a_D a_U)), .sc (.int .i64 0)]) [] []) else none else none else none else none
theorem e91 (f : Nat) (l_z l_f : Bool) (l : List PV) (a_D a_U : Int) (k : KR) : JK tau F91 Try.f91 (Try.f91.body.get!) JEs [.ro, .ro] 0 [.ro 42 l_z l_f l, .st 42 [.sc (.int .i64 a_D), .sc (.int .i64 a_U)]] [] k = g91 f l_z l_f l a_D a_U k := by kernel_rfl
theorem JOr (f : Nat) : ∀ q ∈ Jg (Try.f91.body.get!) JEs, q.Ok tau Try.prog 0 := Jx (by kernel_rfl)
theorem JKE : Try.prog.funcs[91]? = some Try.f91 := by kernel_rfl
theorem JKF : Try.f91.body = some (Try.f91.body.get!) := by kernel_rfl
theorem JOs : Enters Try.prog 91 := enters_of JKE (by kernel_rfl) JKF
def JuA : JA
 | [.ro 42 l_z l_f l, .st 42 [.sc (.int .i64 a_D), .sc (.int .i64 a_U)]], [], k => g91 0 l_z l_f l a_D a_U k
 | _, _, _ => none
def s91 : Sig := { own := [], run := JuA }
theorem JOt : Jc tau Try.prog 91 s91 := JP Jn JEr Jo JKE JKF JEs [.ro, .ro] 0 [] JuA (JOr 0) fun xs es k res hr => by
 unfold JuA at hr
 split at hr
 · exact ⟨rfl, 0, (e91 0 _ _ _ _ _  _).trans hr⟩
 · cases hr
def zOk : Bool -> List PV -> Bool := hid fun z l => !z || l.isEmpty
theorem JdB {z : Bool} {l : List PV} : zOk z l = true ↔ (z = true -> l = []) := by
 rw [zOk, hid_eq]
 cases z <;> simp
theorem Jfw {l : List PV} (h : pOk l = true) : Jcj l = true := by
 obtain ⟨h1, _, h3⟩ := QD.1 h
 exact Ja1.2 ⟨h1, by omega⟩
theorem JpF {z : Bool} {l : List PV} (hz : z = true -> l = []) (hl : l.length <= 1000) (e : Int) (k : KR) : (bif z then k ⟨.tup [.ro 42 true true [], .sc (.int .i64 e)], [], []⟩ else bif Je (0 + l.length) 16 && true then k ⟨.tup [.ro 42 false false (List.take (0 + l.length) l), .sc (.int .i64 e)], [], []⟩ else none) = k ⟨.tup [.ro 42 z z l, .sc (.int .i64 e)], [], []⟩ := by
 cases z with
 | true => rw [hz rfl]; rfl
 | false =>
  refine (Jd rfl).trans ((Ja (by simp [Je]; omega)).trans ?_)
  rw [List.take_of_length_le (by omega)]
def Jny : JA
 | [.ro 42 z f l, .st 42 [.sc (.int .i64 d), .sc (.int .i64 u)]], [], k => bif pOk l then k ⟨.sc (.bool (hasP ⟨l, ⟨d, u⟩⟩)), [], []⟩ else none
 | _, _, _ => none
def JKG : Sig := { own := [], run := Jny }
theorem JKH : Jc tau Try.prog 39 JKG := JOl.of fun xs es k res hr => by
 change Jny xs es k = some res at hr
 unfold Jny at hr
 split at hr
 · rename_i z f l d u
   obtain ⟨hc, hr⟩ := Jw hr
   refine Eq.trans ?_ hr
   show g39 0 z f l d u k = _
   unfold g39
   rw [Jup]
   exact Ja (Jfw hc)
 · cases hr
def Jnz : JA
 | [.ro 42 z f l, .st 42 [.sc (.int .i64 d), .sc (.int .i64 u)]], [], k => bif pOk l && zOk z l then k ⟨.tup [.ro 42 (adF ⟨l, ⟨d, u⟩⟩ && z) (adF ⟨l, ⟨d, u⟩⟩ && z) (adL ⟨l, ⟨d, u⟩⟩), .sc (.int .i64 (adE ⟨l, ⟨d, u⟩⟩))], [], []⟩ else none
 | _, _, _ => none
def JKI : Sig := { own := [], run := Jnz }
theorem JEt (z f : Bool) (l : List PV) (d u : Int) (h : pOk l = true) (hz : z = true -> l = []) (k : KR) : g90 0 z f l d u k = k ⟨.tup [.ro 42 (adF ⟨l, ⟨d, u⟩⟩ && z) (adF ⟨l, ⟨d, u⟩⟩ && z) (adL ⟨l, ⟨d, u⟩⟩), .sc (.int .i64 (adE ⟨l, ⟨d, u⟩⟩))], [], []⟩ := by
 obtain ⟨h1, h2, h3⟩ := QD.1 h
 unfold g90 Jcz
 rw [Jiz, JtL, Jcn, Jm6]
 simp only [YW h2]
 unfold JbI
 refine (Ja (Jfw h)).trans ?_
 cases hu : inA [d, 2, u, 7] with
 | false => exact (Ja rfl).trans (JpF hz (by omega) 1 k)
 | true =>
  refine (Jd rfl).trans ?_
  cases hh : hasL l ⟨d, u⟩ with
  | true => exact (Ja rfl).trans (JpF hz (by omega) 12 k)
  | false =>
   refine (Jd rfl).trans ?_
   by_cases h8 : l.length >= 8
   · refine (Ja (by simp [zi]; omega)).trans ((JpF hz (by omega) 4 k).trans ?_)
     simp only [decide_eq_true h8, Bool.not_true, cond_false, cond_true]; rfl
   · refine (Jd (by simp [zi]; omega)).trans ?_
     simp only [decide_eq_false h8, Bool.not_true, cond_false]
     have hc := JbH l ⟨d, u⟩
     rw [Jiy]
     simp only [Int.toNat_natCast]
     have e0 : List.take l.length l = l := List.take_length
     have hfl : ∀ (a b c e x y : Bool), JH [.ro 42 a b (List.take (Q8 l ⟨d, u⟩) l), .ro 42 x y [.st 42 [.sc (.int .i64 d), .sc (.int .i64 u)]], .ro 42 c e (List.drop (Q8 l ⟨d, u⟩) l)] = G1 l ⟨d, u⟩ := fun _ _ _ _ _ _ => by
      simp only [XK, JaR, PV.els, List.append_nil]; rfl
     have hil := Vu l ⟨d, u⟩
     have hne : (G1 l ⟨d, u⟩).isEmpty = false := by
      cases hx : G1 l ⟨d, u⟩ with
      | nil => rw [hx] at hil; simp at hil
      | cons _ _ => rfl
     simp only [e0, hfl, List.take_length, hne, Ent.nil]
     exact (Ja (by simp; omega)).trans ((Ja (by simp; omega)).trans (Ja (by simp; omega)))
theorem JKJ : Jc tau Try.prog 90 JKI := JOq.of fun xs es k res hr => by
 change Jnz xs es k = some res at hr
 unfold Jnz at hr
 split at hr
 · rename_i z f l d u
   obtain ⟨hc, hr⟩ := Jw hr
   rw [Bool.and_eq_true, JdB] at hc
   exact (JEt z f l d u hc.1 hc.2 k).trans hr
 · cases hr
def JnA : JA
 | [.ro 42 z f l, .st 42 [.sc (.int .i64 d), .sc (.int .i64 u)]], [], k => bif pOk l && zOk z l then k ⟨.tup [.ro 42 (rmZ ⟨l, ⟨d, u⟩⟩ z) (rmF ⟨l, ⟨d, u⟩⟩ z) (rmL ⟨l, ⟨d, u⟩⟩), .sc (.int .i64 (rmE ⟨l, ⟨d, u⟩⟩))], [], []⟩ else none
 | _, _, _ => none
def JKK : Sig := { own := [], run := JnA }
theorem JEu (z f : Bool) (l : List PV) (d u : Int) (h : pOk l = true) (hz : z = true -> l = []) (k : KR) : g91 0 z f l d u k = k ⟨.tup [.ro 42 (rmZ ⟨l, ⟨d, u⟩⟩ z) (rmF ⟨l, ⟨d, u⟩⟩ z) (rmL ⟨l, ⟨d, u⟩⟩), .sc (.int .i64 (rmE ⟨l, ⟨d, u⟩⟩))], [], []⟩ := by
 obtain ⟨h1, h2, h3⟩ := QD.1 h
 unfold g91 JcA
 rw [Jiz, JtM, Jco, Jm7, JtN]
 simp only [YW h2]
 unfold Jxc
 refine (Ja (Jfw h)).trans ?_
 cases hh : hasL l ⟨d, u⟩ with
 | false => exact (Ja rfl).trans (JpF hz (by omega) 2 k)
 | true =>
  refine (Jd rfl).trans ?_
  have hf : Jab l ⟨d, u⟩ = true := by rw [YW h2]; exact hh
  have hc := JbH l ⟨d, u⟩
  have hlt : Q8 l ⟨d, u⟩ < l.length := by
   unfold Jab at hf
   rw [Bool.and_eq_true, Nat.blt_eq] at hf
   exact hf.1
  rw [Jiy]
  have w1 : IntKind.i64.wrap ((Q8 l ⟨d, u⟩ : Int) + 1) = ((Q8 l ⟨d, u⟩ + 1 : Nat) : Int) := by rw [wrap_i64 (by omega) (by omega)]; omega
  simp only [w1, Int.toNat_natCast]
  have e0 : List.take l.length l = l := List.take_length
  have hfl : ∀ (a b c e : Bool), JH [.ro 42 a b (List.take (Q8 l ⟨d, u⟩) l), .ro 42 c e (List.drop (Q8 l ⟨d, u⟩ + 1) l)] = rmA l ⟨d, u⟩ := fun _ _ _ _ => by
   simp only [XK, JaR, PV.els, List.append_nil]; exact JpB h2 hf
  have hrl : (rmA l ⟨d, u⟩).length <= 8 := by
   have := List.length_filter_le (fun p => !eqA (av p) ⟨d, u⟩) l
   unfold rmA; omega
  simp only [e0, hfl, List.take_length, Ent.nil]
  exact (Ja (by simp; omega)).trans ((Ja (by simp; omega)).trans (Ja (by simp; omega)))
theorem JKL : Jc tau Try.prog 91 JKK := JOt.of fun xs es k res hr => by
 change JnA xs es k = some res at hr
 unfold JnA at hr
 split at hr
 · rename_i z f l d u
   obtain ⟨hc, hr⟩ := Jw hr
   rw [Bool.and_eq_true, JdB] at hc
   exact (JEu z f l d u hc.1 hc.2 k).trans hr
 · cases hr
def JKM : Fns := F0
theorem JxG : Jq tau Try.prog JKM := Jt
def JuB : An := (.seq .leaf (.seq (.seq .leaf (.cond (.seq .leaf .leaf) .leaf)) (.seq .leaf .leaf)))
def JKN (f : Nat) (y0 c_N : Int) (c_S : ByteArray) (k : KR) : OR := bif y0 == 2 then k (Res.mk (.sc (.int .i64 (zi c_S.size))) [] []) else k (Res.mk (.sc (.int .i64 c_N)) [] [])
theorem JOu (f : Nat) (y0 c_N : Int) (c_S : ByteArray) (k : KR) : JK tau JKM Try.f126 (Try.f126.body.get!) JuB [.ro] 0 [.st 113 [.sc (.int .i64 y0), .sc (.int .i64 c_N), .sc (.string c_S)]] [] k = JKN f y0 c_N c_S k := by kernel_rfl
theorem JKO (f : Nat) : ∀ q ∈ Jg (Try.f126.body.get!) JuB, q.Ok tau Try.prog 0 := Jx (by kernel_rfl)
theorem Jz7 : Try.prog.funcs[126]? = some Try.f126 := by kernel_rfl
theorem Jz8 : Try.f126.body = some (Try.f126.body.get!) := by kernel_rfl
theorem Jz9 : Enters Try.prog 126 := enters_of Jz7 (by kernel_rfl) Jz8
def JnB : JA
 | [.st 113 [.sc (.int .i64 y0), .sc (.int .i64 c_N), .sc (.string c_S)]], [], k => JKN 0 y0 c_N c_S k
 | _, _, _ => none
def JEv : Sig := { own := [], run := JnB }
theorem JAa : Jc tau Try.prog 126 JEv := JP Jn JxG Jo Jz7 Jz8 JuB [.ro] 0 [] JnB (JKO 0) fun xs es k res hr => by
 unfold JnB at hr
 split at hr
 · exact ⟨rfl, 0, (JOu 0 _ _ _  _).trans hr⟩
 · cases hr
def JfR : Nat := 39
def JuC : Fns := Js 126 JEv (F0)
theorem JpG : Jq tau Try.prog JuC := (Jt).add JAa Jz9
def JcB : Code := Qj (Try.f125.body.get!) [1, 1, 0, 1, 0, 0]
def XF : Nm := [(3, .any), (7, .any), (8, .any), (9, .any)]
def Yv : Nm := [(3, .any)]
def Jfx : An := (.seq .leaf (.seq (.cond .leaf .leaf) (.seq (.block none (.seq .leaf (.seq .leaf (.seq .leaf (.block none (.seq .leaf (.cond .leaf (.seq .leaf (.cond .leaf (.seq .leaf (.cond .leaf .leaf))))))))))) .leaf)))
def JpH (r0 : Qz) : An := (.seq .leaf (.seq .leaf (.seq (.seq .leaf (.block none (.sum XF JfR r0))) (.seq .leaf .leaf))))
abbrev Wt (v4 : List PV) (v6 : Int) := (fOf FloatKind.f64 (zi (PV.child (0 + 1 + 1) (v4.getD v6.toNat PV.top)).str.size))
abbrev Wu (v4 : List PV) (v6 : Int) := (fOf FloatKind.f64 (PV.child (0 + 1) (v4.getD v6.toNat PV.top)).int)
abbrev JE (v0 : Nat) (v1 : Nat) := (PV.sc (Value.complex FloatKind.f64 v0 v1))
abbrev Wv (v4 : List PV) (v6 : Int) := (PV.sc (Value.complex FloatKind.f64 (Wt v4 v6) (Wt v4 v6)))
abbrev Ww (v4 : List PV) (v6 : Int) := (PV.sc (Value.complex FloatKind.f64 (Wu v4 v6) (Wu v4 v6)))
abbrev Wx (v4 : List PV) (v6 : Int) := (PV.sc (Value.complex FloatKind.f64 0 (Wt v4 v6)))
abbrev Wy (v4 : List PV) (v6 : Int) := (PV.sc (Value.complex FloatKind.f64 (Wt v4 v6) 0))
abbrev Wz (v4 : List PV) (v6 : Int) := (PV.sc (Value.complex FloatKind.f64 0 (Wu v4 v6)))
abbrev WA (v4 : List PV) (v6 : Int) := (PV.sc (Value.complex FloatKind.f64 (Wu v4 v6) 0))
def VA (f : Nat) (rc : Nat -> Nat -> Bool -> Bool -> List PV -> Int -> Int -> OR) (k0 : Nat -> Nat -> OR) (v0 v1 : Nat) (v2 v3 : Bool) (v4 : List PV) (v5 v6 : Int) : OR := bif decide (v6 < v5) then bif decide (0 <= v6) && decide (v6 < zi v4.length) && (PV.isSt 113 #[Field.mk "Kind" 3 0 false "" "" 0, Field.mk "N" 3 1 false "" "" 8, Field.mk "S" 9 2 false "" "" 16].size (v4.getD v6.toNat PV.top) && (PV.isInt IntKind.i64 (PV.child 0 (v4.getD v6.toNat PV.top)) && (PV.isInt IntKind.i64 (PV.child (0 + 1) (v4.getD v6.toNat PV.top)) && ((PV.child (0 + 1 + 1) (v4.getD v6.toNat PV.top)).isStr && true)))) && true then bif (PV.child 0 (v4.getD v6.toNat PV.top)).int == 2 then bif (PV.child 0 (v4.getD v6.toNat PV.top)).int == 1 then bif (FloatKind.f64.format.add (JE v0 v1).cre (Wv v4 v6).cre).isSome && (FloatKind.f64.format.add (JE v0 v1).cim (Wv v4 v6).cim).isSome && true then rc ((FloatKind.f64.format.add (JE v0 v1).cre (Wv v4 v6).cre).getD 0) ((FloatKind.f64.format.add (JE v0 v1).cim (Wv v4 v6).cim).getD 0) v2 v3 v4 v5 (IntKind.i64.wrap (v6 + 1)) else none else bif (PV.child 0 (v4.getD v6.toNat PV.top)).int == 2 then bif (FloatKind.f64.format.add (JE v0 v1).cre (Wx v4 v6).cre).isSome && (FloatKind.f64.format.add (JE v0 v1).cim (Wx v4 v6).cim).isSome && true then rc ((FloatKind.f64.format.add (JE v0 v1).cre (Wx v4 v6).cre).getD 0) ((FloatKind.f64.format.add (JE v0 v1).cim (Wx v4 v6).cim).getD 0) v2 v3 v4 v5 (IntKind.i64.wrap (v6 + 1)) else none else bif (PV.child 0 (v4.getD v6.toNat PV.top)).int == 3 then bif (FloatKind.f64.format.add (JE v0 v1).cre (Wy v4 v6).cre).isSome && (FloatKind.f64.format.add (JE v0 v1).cim (Wy v4 v6).cim).isSome && true then rc ((FloatKind.f64.format.add (JE v0 v1).cre (Wy v4 v6).cre).getD 0) ((FloatKind.f64.format.add (JE v0 v1).cim (Wy v4 v6).cim).getD 0) v2 v3 v4 v5 (IntKind.i64.wrap (v6 + 1)) else none else rc v0 v1 v2 v3 v4 v5 (IntKind.i64.wrap (v6 + 1)) else bif (PV.child 0 (v4.getD v6.toNat PV.top)).int == 1 then bif (FloatKind.f64.format.add (JE v0 v1).cre (Ww v4 v6).cre).isSome && (FloatKind.f64.format.add (JE v0 v1).cim (Ww v4 v6).cim).isSome && true then rc ((FloatKind.f64.format.add (JE v0 v1).cre (Ww v4 v6).cre).getD 0) ((FloatKind.f64.format.add (JE v0 v1).cim (Ww v4 v6).cim).getD 0) v2 v3 v4 v5 (IntKind.i64.wrap (v6 + 1)) else none else bif (PV.child 0 (v4.getD v6.toNat PV.top)).int == 2 then bif (FloatKind.f64.format.add (JE v0 v1).cre (Wz v4 v6).cre).isSome && (FloatKind.f64.format.add (JE v0 v1).cim (Wz v4 v6).cim).isSome && true then rc ((FloatKind.f64.format.add (JE v0 v1).cre (Wz v4 v6).cre).getD 0) ((FloatKind.f64.format.add (JE v0 v1).cim (Wz v4 v6).cim).getD 0) v2 v3 v4 v5 (IntKind.i64.wrap (v6 + 1)) else none else bif (PV.child 0 (v4.getD v6.toNat PV.top)).int == 3 then bif (FloatKind.f64.format.add (JE v0 v1).cre (WA v4 v6).cre).isSome && (FloatKind.f64.format.add (JE v0 v1).cim (WA v4 v6).cim).isSome && true then rc ((FloatKind.f64.format.add (JE v0 v1).cre (WA v4 v6).cre).getD 0) ((FloatKind.f64.format.add (JE v0 v1).cim (WA v4 v6).cim).getD 0) v2 v3 v4 v5 (IntKind.i64.wrap (v6 + 1)) else none else rc v0 v1 v2 v3 v4 v5 (IntKind.i64.wrap (v6 + 1)) else none else k0 v0 v1
def ZF (f : Nat) (k0 : Nat -> Nat -> OR) : Nat -> Nat -> Nat -> Bool -> Bool -> List PV -> Int -> Int -> OR
 | 0, _, _, _, _, _, _, _ => none
 | n + 1, v0, v1, v2, v3, v4, v5, v6 => VA f (ZF f k0 n) k0 v0 v1 v2 v3 v4 v5 v6
theorem JuD (f : Nat) (k : Kont) (n v0 v1 : Nat) (v2 v3 : Bool) (v4 : List PV) (v5 v6 : Int) : Jy tau 0 XF (fun s k => ev tau JuC 0 0 JcB (Jfx ) s k) (n + 1) (Jj XF JfR [.sc (Value.complex FloatKind.f64 v0 v1), .ro 113 v2 v3 v4, .sc (.int .i64 v5), .sc (.int .i64 v6)] []) (JI tau 0 Yv k) = VA f (fun v0 v1 v2 v3 v4 v5 v6 => Jy tau 0 XF (fun s k => ev tau JuC 0 0 JcB (Jfx ) s k) n (Jj XF JfR [.sc (Value.complex FloatKind.f64 v0 v1), .ro 113 v2 v3 v4, .sc (.int .i64 v5), .sc (.int .i64 v6)] []) (JI tau 0 Yv k)) (fun x0 x1 => k (Ex.exit 0) (Jj Yv JfR [.sc (Value.complex FloatKind.f64 x0 x1)] [])) v0 v1 v2 v3 v4 v5 v6 := by kernel_rfl
theorem Jj9 (f : Nat) (k : Kont) : ∀ (n v0 v1 : Nat) (v2 v3 : Bool) (v4 : List PV) (v5 v6 : Int), Jy tau 0 XF (fun s k => ev tau JuC 0 0 JcB (Jfx ) s k) n (Jj XF JfR [.sc (Value.complex FloatKind.f64 v0 v1), .ro 113 v2 v3 v4, .sc (.int .i64 v5), .sc (.int .i64 v6)] []) (JI tau 0 Yv k) = ZF f (fun x0 x1 => k (Ex.exit 0) (Jj Yv JfR [.sc (Value.complex FloatKind.f64 x0 x1)] [])) n v0 v1 v2 v3 v4 v5 v6 | 0, _, _, _, _, _, _, _ => rfl | n + 1, v0, v1, v2, v3, v4, v5, v6 => (JuD f k n v0 v1 v2 v3 v4 v5 v6).trans (congrArg (fun r => VA f r (fun x0 x1 => k (Ex.exit 0) (Jj Yv JfR [.sc (Value.complex FloatKind.f64 x0 x1)] [])) v0 v1 v2 v3 v4 v5 v6) (by funext v0 v1 v2 v3 v4 v5 v6; exact Jj9 f k n v0 v1 v2 v3 v4 v5 v6))
def Jaf (f : Nat) : List PV -> List (Nat × Ent) -> Kont -> OR
 | [.sc (Value.complex FloatKind.f64 v0 v1), .ro 113 v2 v3 v4, .sc (.int .i64 v5),
 .sc (.int .i64 v6)], [], k => ZF f (fun x0 x1 => k (Ex.exit 0) (Jj Yv JfR [.sc (Value.complex FloatKind.f64 x0 x1)] [])) f v0 v1 v2 v3 v4 v5 v6
 | _, _, _ => none
theorem JxH (f : Nat) : Jg JcB Jfx = [] := by kernel_rfl
theorem JxI (f : Nat) : (Item.l JcB XF JfR (Jaf f)).Ok tau Try.prog 0 := Ju Jn JpG Jo (x := Jfx) (nm2 := Yv) (Jk _ _ (by rw [JxH f]; intro q hq; cases hq)) fun vs hp k res hr => by
 unfold Jaf at hr
 split at hr
 · exact ⟨f, 0, (Jj9 f _ f _ _ _ _ _ _ _ ).trans hr⟩
 · cases hr
def JKP (f : Nat) (o_z o_f : Bool) (o : List PV) (k : KR) : OR := ZF f (fun x0_0 x1_0 => k (Res.mk (.sc (Value.complex FloatKind.f64 x0_0 x1_0)) [] [])) f (0) (0) o_z o_f o (zi o.length) (0)
theorem JOv (f : Nat) (o_z o_f : Bool) (o : List PV) (k : KR) : JK tau JuC Try.f125 (Try.f125.body.get!) (JpH (Jaf f)) [.ro] 0 [.ro 113 o_z o_f o] [] k = JKP f o_z o_f o k := by kernel_rfl
theorem JKQ (f : Nat) : Jg (Try.f125.body.get!) (JpH (Jaf f)) = [.l JcB XF JfR (Jaf f)] := by kernel_rfl
theorem JKR (f : Nat) : ∀ q ∈ Jg (Try.f125.body.get!) (JpH (Jaf f)), q.Ok tau Try.prog 0 := by rw [JKQ f]; exact JL (JxI f) (fun _ h => nomatch h)
theorem JAb : Try.prog.funcs[125]? = some Try.f125 := by kernel_rfl
theorem JAc : Try.f125.body = some (Try.f125.body.get!) := by kernel_rfl
theorem JKS : Enters Try.prog 125 := enters_of JAb (by kernel_rfl) JAc
end
end Go.Proofs.Ythpmachmnoljeaa.Rx
noncomputable section
namespace Go.Proofs.Ythpmachmnoljeaa.Rx
open Go Ieee
set_option linter.unusedVariables false
set_option linter.unusedSimpArgs false

theorem JpI {m : Nat} (h : m ≠ 0) : 2 ^ m.log2 <= m := Nat.log2_self_le h
theorem JpJ {m : Nat} : m < 2 ^ (m.log2 + 1) := Nat.lt_log2_self
theorem JxJ {m k : Nat} (h0 : 2 ^ k <= m) (h1 : m < 2 ^ (k + 1)) : m.log2 = k := by
 have hm : m ≠ 0 := by have := Nat.two_pow_pos k; omega
 exact (Nat.log2_eq_iff hm).2 ⟨h0, h1⟩
theorem JbS {m : Nat} (h : m ≠ 0) (k : Nat) : (m * 2 ^ k).log2 = m.log2 + k := by
 apply JxJ
 · rw [Nat.pow_add]; exact Nat.mul_le_mul_right _ (JpI h)
 · have := JpJ (m := m)
   rw [show m.log2 + k + 1 = (m.log2 + 1) + k from by omega, Nat.pow_add]
   exact Nat.mul_lt_mul_of_pos_right this (Nat.two_pow_pos k)
theorem JuE (w : Toward) (s : Bool) (n : Nat) : w.cut s n 0 = n := by
 unfold Toward.cut
 simp
 cases w <;> simp <;> omega
theorem JxK (w : Toward) (s : Bool) (n k : Nat) : w.cut s (n * 2 ^ k) k = n := by
 by_cases hn : n = 0
 · subst hn
   unfold Toward.cut
   have : 0 < 1 <<< min k (Nat.log2 0 + 2) := by rw [Nat.one_shiftLeft]; exact Nat.two_pow_pos _
   cases w <;> simp <;> omega
 · unfold Toward.cut
   have hmin : min k ((n * 2 ^ k).log2 + 2) = k := by rw [JbS hn]; omega
   have hp := Nat.two_pow_pos k
   have hg : 1 <<< min k ((n * 2 ^ k).log2 + 2) = 2 ^ k := by rw [hmin, Nat.one_shiftLeft]
   simp only [hg, Nat.mul_div_cancel _ hp, Nat.mul_mod_left]
   cases w <;> simp <;> omega
def fz (x : Int) : Nat := FloatKind.f64.nearest x
def shf (m : Nat) : Nat := 52 - m.log2
theorem Jda {m : Nat} (h0 : m ≠ 0) (h1 : m < 2 ^ 53) : 2 ^ 52 <= m * 2 ^ shf m /\ m * 2 ^ shf m < 2 ^ 53 := by
 have hL : m.log2 < 53 := (Nat.log2_lt h0).2 h1
 have e : m.log2 + shf m = 52 := by unfold shf; omega
 constructor
 · rw [← e, Nat.pow_add]; exact Nat.mul_le_mul_right _ (JpI h0)
 · rw [show 53 = (m.log2 + 1) + shf m from by omega, Nat.pow_add]
   exact Nat.mul_lt_mul_of_pos_right JpJ (Nat.two_pow_pos _)
theorem lp : Ieee.double.leastPlace = -1074 := by decide
theorem JbT (neg : Bool) {m : Nat} (h0 : m ≠ 0) (h1 : m < 2 ^ 53) (k : Nat) :
  Ieee.double.nearest neg (m * 2 ^ k) (-(k : Int)) = Ieee.double.word neg ((1074 + 1022 - 1022 - shf m) * 2 ^ 52 + m * 2 ^ shf m) := by
 have hL : m.log2 < 53 := (Nat.log2_lt h0).2 h1
 have hb := Jda h0 h1
 have hmk : m * 2 ^ k ≠ 0 := Nat.mul_ne_zero h0 (Nat.ne_of_gt (Nat.two_pow_pos k))
 have hlast : max (-(k : Int) + ((m * 2 ^ k).log2 : Int) - ((Ieee.double.fractionBits : Nat) : Int)) Ieee.double.leastPlace = -((shf m : Nat) : Int) := by
  rw [JbS h0, lp]; unfold shf
  show max (-(k : Int) + ((m.log2 + k : Nat) : Int) - ((52 : Nat) : Int)) (-1074) = _
  omega
 unfold Format.nearest
 rw [if_neg hmk]
 simp only [hlast]
 have hkept : Toward.even.cut neg ((m * 2 ^ k) <<< (-(k : Int) - -((shf m : Nat) : Int)).toNat) (-((shf m : Nat) : Int) - -(k : Int)).toNat = m * 2 ^ shf m := by
  by_cases hk : k <= shf m
  · have e1 : (-((shf m : Nat) : Int) - -(k : Int)).toNat = 0 := by omega
    have e2 : (-(k : Int) - -((shf m : Nat) : Int)).toNat = shf m - k := by omega
    rw [e1, e2, JuE, Nat.shiftLeft_eq, Nat.mul_assoc, ← Nat.pow_add]
    congr 2; omega
  · have e1 : (-((shf m : Nat) : Int) - -(k : Int)).toNat = k - shf m := by omega
    have e2 : (-(k : Int) - -((shf m : Nat) : Int)).toNat = 0 := by omega
    rw [e1, e2, Nat.shiftLeft_zero, show m * 2 ^ k = (m * 2 ^ shf m) * 2 ^ (k - shf m) from by rw [Nat.mul_assoc, ← Nat.pow_add]; congr 2; omega]
    exact JxK _ _ _ _
 rw [hkept, lp]
 have e3 : (-((shf m : Nat) : Int) - -1074).toNat = 1074 - shf m := by omega
 have hi : Ieee.double.infRung = 2047 * 2 ^ 52 := by decide
 have hbn : Ieee.double.binade = 2 ^ 52 := by decide
 rw [e3, hi, hbn]
 have h53 : (2 : Nat) ^ 53 = 2 * 2 ^ 52 := by decide
 have hB : 0 < (2 : Nat) ^ 52 := Nat.two_pow_pos _
 generalize m * 2 ^ shf m = kp at *
 generalize shf m = sh at *
 rw [h53] at hb
 generalize (2 : Nat) ^ 52 = B at *
 have e4 : 1074 + 1022 - 1022 - sh = 1074 - sh := by omega
 rw [e4]
 congr 1
 have : (1074 - sh) * B <= 1074 * B := Nat.mul_le_mul_right _ (by omega)
 have : 1074 * B + 2 * B <= 2047 * B := by rw [← Nat.add_mul]; exact Nat.mul_le_mul_right _ (by omega)
 exact Nat.min_eq_left (by omega)
theorem JpK {x : Int} (h0 : x ≠ 0) (h1 : x.natAbs < 2 ^ 53) : fz x = Ieee.double.word (decide (x < 0)) ((1074 - shf x.natAbs) * 2 ^ 52 + x.natAbs * 2 ^ shf x.natAbs) := by
 have := JbT (decide (x < 0)) (m := x.natAbs) (by omega) h1 0
 simp only [Nat.pow_zero, Nat.mul_one] at this
 exact this
theorem JxL {x : Int} (h0 : x ≠ 0) (h1 : x.natAbs < 2 ^ 53) : Ieee.double.read (fz x) = .number (decide (x < 0)) (x.natAbs * 2 ^ shf x.natAbs) (-((shf x.natAbs : Nat) : Int)) := by
 have hb := Jda (m := x.natAbs) (by omega) h1
 have hs : shf x.natAbs <= 52 := by unfold shf; omega
 rw [JpK h0 h1]
 generalize hm : x.natAbs * 2 ^ shf x.natAbs = kp at *
 generalize shf x.natAbs = s at *
 have hsw : Ieee.double.signWeight = 2 ^ 63 := by decide
 have hi : Ieee.double.infRung = 2047 * 2 ^ 52 := by decide
 have hbn : Ieee.double.binade = 2 ^ 52 := by decide
 have h53 : (2 : Nat) ^ 53 = 2 * 2 ^ 52 := by decide
 have h63 : (2 : Nat) ^ 63 = 2048 * 2 ^ 52 := by decide
 have hpos : 0 < (2 : Nat) ^ 52 := Nat.two_pow_pos _
 generalize (2 : Nat) ^ 52 = B at *
 have hr : (1074 - s) * B + kp < 2047 * B := by
  have : (1074 - s) * B <= 1074 * B := Nat.mul_le_mul_right _ (by omega)
  omega
 have hdiv : ((1074 - s) * B + kp) / B = 1074 - s + 1 := by
  rw [Nat.mul_comm, Nat.mul_add_div hpos]
  congr 1
  apply Nat.div_eq_of_lt_le <;> omega
 have hmod : ((1074 - s) * B + kp) % B = kp - B := by
  rw [Nat.mul_comm, Nat.mul_add_mod]
  rw [Nat.mod_eq_sub_mod (by omega), Nat.mod_eq_of_lt (by omega)]
 have hge : ¬ ((1074 - s) * B + kp < B) := by omega
 unfold Format.read Format.word
 rw [hsw, h63, hi, hbn, lp]
 have key : ∀ neg : Bool, ((if neg = true then 2048 * B + ((1074 - s) * B + kp) else (1074 - s) * B + kp) / (2048 * B) % 2 == 1) = neg /\ (if neg = true then 2048 * B + ((1074 - s) * B + kp) else (1074 - s) * B + kp) % (2048 * B) = (1074 - s) * B + kp := by
  intro neg
  have hlt : (1074 - s) * B + kp < 2048 * B := by omega
  cases neg with
  | true =>
   simp only [if_true]
   have hp : 0 < 2048 * B := by omega
   rw [Nat.add_div_left _ hp, Nat.div_eq_of_lt hlt, Nat.add_mod_left, Nat.mod_eq_of_lt hlt]
   exact ⟨rfl, rfl⟩
  | false =>
   simp only [Bool.false_eq_true, if_false]
   rw [Nat.div_eq_of_lt hlt, Nat.mod_eq_of_lt hlt]
   exact ⟨rfl, rfl⟩
 have k1 := key (decide (x < 0))
 simp only [k1.1, k1.2]
 rw [if_neg hge, if_pos hr, hmod, hdiv]
 congr 1 <;> omega
theorem JxM : Ieee.double.read (fz 0) = .number false 0 (-1074) := by decide
def Jfy (d : Datum) (x : Int) : Prop := ∃ s m k, d = .number s m (-((k : Nat) : Int)) /\ m = x.natAbs * 2 ^ k /\ s = decide (x < 0)
theorem JxN (k : Nat) : 0 = (0 : Int).natAbs * 2 ^ k := by rw [Int.natAbs_zero, Nat.zero_mul]
theorem V3 {x : Int} (h1 : x.natAbs < 2 ^ 53) : Jfy (Ieee.double.read (fz x)) x := by
 by_cases h0 : x = 0
 · subst h0; exact ⟨false, 0, 1074, JxM, JxN 1074, by decide⟩
 · exact ⟨_, _, _, JxL h0 h1, rfl, rfl⟩
theorem Xi {x : Int} {s : Bool} {m k : Nat} (hm : m = x.natAbs * 2 ^ k) (hs : s = decide (x < 0)) (u : Nat) : signed s m u = x * 2 ^ (k + u) := by
 subst hm hs
 unfold signed
 rw [Nat.shiftLeft_eq, Nat.mul_assoc, ← Nat.pow_add]
 have : ((x.natAbs * 2 ^ (k + u) : Nat) : Int) = (x.natAbs : Int) * 2 ^ (k + u) := by
   rw [Int.natCast_mul, Int.natCast_pow]; rfl
 by_cases h : x < 0
 · rw [if_pos (by simpa using h), this, ← Int.neg_mul]
   congr 1; omega
 · rw [if_neg (by simpa using h), this]
   congr 1; omega
theorem JpL (k : Nat) : (0 : Int) < 2 ^ k := by
 have := Nat.two_pow_pos k
 have h : ((2 ^ k : Nat) : Int) = 2 ^ k := by rw [Int.natCast_pow]; rfl
 omega
theorem JnC {d e : Datum} {x y : Int} (h : Jfy d x) (g : Jfy e y) (hxy : (x + y).natAbs < 2 ^ 53) : (d.sum e).map Ieee.double.write = some (fz (x + y)) := by
 obtain ⟨s, m, k, rfl, rfl, hs⟩ := h
 obtain ⟨t, n, j, rfl, rfl, ht⟩ := g
 unfold Datum.sum
 simp only [Option.map_some]
 have hbase : min (-(k : Int)) (-(j : Int)) = -((max k j : Nat) : Int) := by omega
 have e1 : (-(k : Int) - min (-(k : Int)) (-(j : Int))).toNat = max k j - k := by omega
 have e2 : (-(j : Int) - min (-(k : Int)) (-(j : Int))).toNat = max k j - j := by omega
 have f1 : k + (max k j - k) = max k j := by omega
 have f2 : j + (max k j - j) = max k j := by omega
 rw [hbase] at e1 e2
 simp only [hbase, e1, e2, Xi rfl hs, Xi rfl ht, f1, f2]
 rw [← Int.add_mul]
 have hp := JpL (max k j)
 have hna : ((x + y) * 2 ^ max k j).natAbs = (x + y).natAbs * 2 ^ max k j := by
   rw [Int.natAbs_mul, Int.natAbs_pow]; rfl
 by_cases h0 : x + y = 0
 · rw [h0]
   simp only [Int.zero_mul, if_true]
   have hst : (s && t) = false := by
    subst hs ht
    by_cases hx : x < 0
    · have : ¬ y < 0 := by omega
      simp [this]
    · simp [hx]
   rw [hst]; simp only [Format.write, Format.nearest, Int.natAbs_zero, if_true]
   rfl
 · have hne : (x + y) * 2 ^ max k j ≠ 0 := Int.mul_ne_zero h0 (by omega)
   rw [if_neg hne, hna]
   have hneg : decide ((x + y) * 2 ^ max k j < 0) = decide (x + y < 0) := by
    by_cases hlt : x + y < 0
    · have : (x + y) * 2 ^ max k j < 0 := Int.mul_neg_of_neg_of_pos hlt hp
      simp [hlt, this]
    · have : ¬ (x + y) * 2 ^ max k j < 0 := by
       have := Int.mul_nonneg (show 0 <= x + y by omega) (Int.le_of_lt hp); omega
      simp [hlt, this]
   rw [hneg]
   simp only [Format.write]
   rw [JbT _ (by omega) hxy, JpK h0 hxy]
theorem JiI {d e : Datum} {x y : Int} (h : Jfy d x) (g : Jfy e y) : d.order e = some (compare x y) := by
 obtain ⟨s, m, k, rfl, rfl, hs⟩ := h
 obtain ⟨t, n, j, rfl, rfl, ht⟩ := g
 unfold Datum.order
 have e1 : (-(k : Int) - min (-(k : Int)) (-(j : Int))).toNat = max k j - k := by omega
 have e2 : (-(j : Int) - min (-(k : Int)) (-(j : Int))).toNat = max k j - j := by omega
 have f1 : k + (max k j - k) = max k j := by omega
 have f2 : j + (max k j - j) = max k j := by omega
 simp only [e1, e2, Xi rfl hs, Xi rfl ht, f1, f2]
 have hp := JpL (max k j)
 congr 1
 simp only [compare, compareOfLessAndEq]
 have l1 : (x * 2 ^ max k j < y * 2 ^ max k j) ↔ x < y := ⟨fun h => Int.lt_of_mul_lt_mul_right h (Int.le_of_lt hp), fun h => Int.mul_lt_mul_of_pos_right h hp⟩
 have l2 : (x * 2 ^ max k j = y * 2 ^ max k j) ↔ x = y := ⟨fun h => Int.eq_of_mul_eq_mul_right (by omega) h, fun h => by rw [h]⟩
 simp only [l1, l2]
theorem JEw {x y : Int} (hx : x.natAbs < 2 ^ 53) (hy : y.natAbs < 2 ^ 53) (hxy : (x + y).natAbs < 2 ^ 53) : FloatKind.f64.format.add (fz x) (fz y) = some (fz (x + y)) :=
 JnC (V3 hx) (V3 hy) hxy
theorem Jfz {x y : Int} (hx : x.natAbs < 2 ^ 53) (hy : y.natAbs < 2 ^ 53) : FloatKind.f64.format.order (fz x) (fz y) = some (compare x y) := JiI (V3 hx) (V3 hy)
theorem JuF (x : Int) : fOf .f64 x = fz x := JqD .f64 x
end Go.Proofs.Ythpmachmnoljeaa.Rx
end

namespace Go.Proofs.Ythpmachmnoljeaa.Rx
noncomputable section
open Go
set_option linter.unusedVariables false
set_option linter.unusedSimpArgs false
set_option maxRecDepth 100000
set_option maxHeartbeats 0
theorem JgF : fz 0 = 0 := by decide +kernel
theorem Jka {a b : Int} (h0 : 0 <= a) (h1 : a <= 1000000) (g0 : 0 <= b) (g1 : b <= 1000000) : FloatKind.f64.format.add (fz a) (fz b) = some (fz (a + b)) :=
  JEw (by
      have : (2 : Nat) ^ 53 = 9007199254740992 := by decide
      rw [this]; omega) (by have : (2 : Nat) ^ 53 = 9007199254740992 := by decide
                            rw [this]; omega) (by have : (2 : Nat) ^ 53 = 9007199254740992 := by decide
                                                  rw [this]; omega)
theorem JKT {a : Int} (h0 : 0 <= a) (h1 : a <= 1000000) : FloatKind.f64.format.add (fz a) 0 = some (fz a) := by
 have := Jka h0 h1 (Int.le_refl 0) (by decide)
 rwa [JgF, Int.add_zero] at this
theorem JuG (l : List PV) (ha : aOk l = true) (f : Nat) (k0 : Nat -> Nat -> OR) (z fl : Bool) : ∀ (d i n : Nat) (a b : Int), i + d = l.length -> d < n -> 0 <= a -> a <= 120 * i -> 0 <= b -> b <= 120 * i ->
  ZF f k0 n (fz a) (fz b) z fl l (zi l.length) (i : Int) = k0 (fz (a + inL (l.drop i))) (fz (b + outL (l.drop i)))
 | 0, i, n + 1, a, b, hi, hn, a0, a1, b0, b1 => by
   rw [List.drop_of_length_le (by omega)]
   simp only [ZF, VA, WA, Wz, Wy, Wx, Ww, Wv, JE, Wu, Wt, inL, outL, Int.add_zero]
   exact Jd (by simp [zi]; omega)
 | d + 1, i, n + 1, a, b, hi, hn, a0, a1, b0, b1 => by
   obtain ⟨h1, hl, _⟩ := Q7.1 ha
   have g1 := tI i
   have w1 := wI (i := i) (by omega)
   have hc := JjZ h1 (i := i) (by omega)
   unfold GX at hc
   have hk := (YU ha (i := i) (by omega)).2
   rw [Qb (by omega)]
   simp only [ZF, VA, WA, Wz, Wy, Wx, Ww, Wv, JE, Wu, Wt, g1, w1]
   refine (Ja (by simp [zi]; omega)).trans ((Ja hc).trans ?_)
   generalize l.getD i .top = p at *
   have i1 := Jfc hk
   have o1 := Jbz hk
   have e1 : (PV.child 0 p).int = (cv p).kd := rfl
   have e2 : (PV.child (0 + 1) p).int = (cv p).n := rfl
   have e3 : (PV.child (0 + 1 + 1) p).str = (cv p).s := rfl
   have c1 : ∀ x y : Nat, (PV.sc (Value.complex FloatKind.f64 x y)).cre = x := fun _ _ => rfl
   have c2 : ∀ x y : Nat, (PV.sc (Value.complex FloatKind.f64 x y)).cim = y := fun _ _ => rfl
   simp only [e1, e2, e3, c1, c2, JuF, inL, outL, ← Int.add_assoc]
   have IH := fun a b => JuG l ha f k0 z fl d (i + 1) n a b (by omega) (by omega)
   rcases Xo hk with ⟨q1, q2, q3, q4⟩ | ⟨q1, q2, q3, q4⟩
   · rcases q1 with q1 | q1
     · have ei : inC (cv p) = (cv p).n := by unfold inC; rw [q1]; rfl
       have eo : QN (cv p) = (cv p).n := by unfold QN; rw [q1]; rfl
       have r1 := Jka (a := a) (b := (cv p).n) a0 (by omega) (by omega) (by omega)
       have r2 := Jka (a := b) (b := (cv p).n) b0 (by omega) (by omega) (by omega)
       rw [ei, eo]
       simp only [q1, r1, r2, Option.isSome_some, Option.getD_some]
       exact (Jd rfl).trans ((Ja rfl).trans ((Ja rfl).trans (IH _ _ (by omega) (by omega) (by omega) (by omega))))
     · have ei : inC (cv p) = (cv p).n := by unfold inC; rw [q1]; rfl
       have eo : QN (cv p) = 0 := by unfold QN; rw [q1]; show ((cv p).s.size : Int) = 0; omega
       have r1 := Jka (a := a) (b := (cv p).n) a0 (by omega) (by omega) (by omega)
       have r2 := JKT (a := b) b0 (by omega)
       rw [ei, eo]
       simp only [q1, r1, r2, Option.isSome_some, Option.getD_some, Int.add_zero]
       exact (Jd rfl).trans ((Jd rfl).trans ((Jd rfl).trans ((Ja rfl).trans ((Ja rfl).trans (IH _ _ (by omega) (by omega) (by omega) (by omega))))))
   · have ei : inC (cv p) = 0 := by unfold inC; rw [q1]; rfl
     have eo : QN (cv p) = (cv p).s.size := by unfold QN; rw [q1]; rfl
     have r1 := JKT (a := a) a0 (by omega)
     have r2 := Jka (a := b) (b := zi (cv p).s.size) b0 (by omega) (by simp only [zi]; omega) (by simp only [zi]; omega)
     have hz : zi (cv p).s.size = ((cv p).s.size : Int) := rfl
     rw [ei, eo, ← hz]
     simp only [q1, r1, r2, Option.isSome_some, Option.getD_some, Int.add_zero]
     exact (Ja rfl).trans ((Jd rfl).trans ((Ja rfl).trans ((Ja rfl).trans (IH _ _ (by omega) (by omega) (by omega) (by omega)))))
def szI : List PV -> Nat := hid fun l => fz (inL l)
def szO : List PV -> Nat := hid fun l => fz (outL l)
theorem JuH (l : List PV) : szI l = fz (inL l) := by rw [szI, hid_eq]
theorem JuI (l : List PV) : szO l = fz (outL l) := by rw [szO, hid_eq]
def JiJ : JA
 | [.ro 113 z f o], [], k => bif aOk o then k ⟨.sc (.complex .f64 (szI o) (szO o)), [], []⟩ else none
 | _, _, _ => none
def JAd : Sig := { own := [], run := JiJ }
theorem JEx : Jc tau Try.prog 125 JAd := Jc.mk' fun xs es k res hl hr => by
 change JiJ xs es k = some res at hr
 unfold JiJ at hr
 split at hr
 · rename_i z f o
   obtain ⟨hc, hr⟩ := Jw hr
   have hl2 := (Q7.1 hc).2.1
   refine J6 Jn JpG Jo JAb JAc (JpH (Jaf 50)) [.ro] 0 0 (JKR 50) hl rfl ((JOv 50 z f o k).trans (Eq.trans ?_ hr))
   unfold JKP
   have h0 := JuG o hc 50 (fun x0_0 x1_0 => k (Res.mk (.sc (Value.complex FloatKind.f64 x0_0 x1_0)) [] [])) z f o.length 0 50 0 0 (by omega) (by omega) (by omega) (by omega) (by omega) (by omega)
   rw [JgF] at h0
   refine h0.trans ?_
   rw [List.drop_zero, Int.zero_add, Int.zero_add, JuH, JuI]
 · cases hr
def N89 : Nat := 71
def F89 : Fns := Js 126 JEv (Js 125 JAd (F0))
theorem JuJ : Jq tau Try.prog F89 := ((Jt).add JEx JKS).add JAa Jz9
def Jkb : Code := Qj (Try.f89.body.get!) [1, 0]
def JfA : Nm := [(0, .any), (1, .any), (7, .own), (8, .any)]
def JnD : Nm := [(4, .any), (5, .any)]
def JpM : An := (.seq .leaf (.seq (.block none (.seq .leaf (.cond (.seq .leaf .leaf) (.seq .leaf (.cond (.seq .leaf .leaf) .leaf))))) (.seq .leaf (.seq .leaf (.seq .leaf (.seq (.seq .leaf (.cond (.seq .leaf .leaf) .leaf)) (.seq .leaf (.seq (.seq .leaf (.block none (.seq .leaf (.cond .leaf (.seq .leaf (.cond .leaf (.seq .leaf (.cond .leaf .leaf)))))))) (.seq .leaf .leaf)))))))))
def JxO (r0 : Jq3) : An := (.seq .leaf (.ssum JfA N89 (JpM) r0))
abbrev JuK := ByteArray -> Bool -> Bool -> List PV -> Nat -> Int -> Bool -> List PV -> OR
abbrev J1 (v3 : List PV) (v5 : Int) := (PV.child (0 + 1 + 1) (v3.getD v5.toNat PV.top))
abbrev Q3 (v3 : List PV) (v5 : Int) := (PV.isSt 113 #[Field.mk "Kind" 3 0 false "" "" 0, Field.mk "N" 3 1 false "" "" 8, Field.mk "S" 9 2 false "" "" 16].size (v3.getD v5.toNat PV.top) && (PV.isInt IntKind.i64 (PV.child 0 (v3.getD v5.toNat PV.top)) && (PV.isInt IntKind.i64 (PV.child (0 + 1) (v3.getD v5.toNat PV.top)) && ((J1 v3 v5).isStr && true))))
abbrev Qp (v3 : List PV) (v5 : Int) := (V5 (PV.child (0 + 1) (v3.getD v5.toNat PV.top)).int 0)
abbrev Qq (v0 : ByteArray) (v3 : List PV) (v5 : Int) := (Qh (V5 (zi (J1 v3 v5).str.size) 0) (zi v0.size))
abbrev Wl (v0 : ByteArray) (v3 : List PV) (v5 : Int) := (v0.extract 0 (Qh (Qp v3 v5) (zi v0.size)).toNat)
def XG (f : Nat) (rc : JuK) (k0 : ByteArray -> Int -> OR) (v0 : ByteArray) (v1 v2 : Bool) (v3 : List PV) (v4 : Nat) (v5 : Int) (v6 : Bool) (v7 : List PV) : OR := bif v5 == zi v3.length then bif Jl IntKind.u8 (List.take v4 v7) && true then k0 (ByteArray.mk (Array.mk (JY ((Ent.vec false 5 v6 v7).nil, List.take v4 (List.drop 0 v7)).snd))) (0) else none else bif decide (0 <= v5) && decide (v5 < zi v3.length) && (Q3 v3 v5) && true then bif (PV.child 0 (v3.getD v5.toNat PV.top)).int == 2 then bif decide (0 <= v5) && decide (v5 < zi v3.length) && (Q3 v3 v5) && true then bif (PV.child 0 (v3.getD v5.toNat PV.top)).int == 1 then bif decide (0 <= Qh (V5 (zi (J1 v3 v5).str.size) 0) (zi v0.size)) && true && decide ((Qq v0 v3 v5).toNat <= v0.size) && true then bif Je (v4 + (Ji (v0.extract 0 (Qq v0 v3 v5).toNat)).length) 1 && true then bif decide (0 <= Qh (V5 (zi (J1 v3 v5).str.size) 0) (zi v0.size)) && true && decide ((Qq v0 v3 v5).toNat <= v0.size) && decide (v0.size <= v0.size) && true then rc (v0.extract (Qq v0 v3 v5).toNat v0.size) v1 v2 v3 (v4 + (Ji (v0.extract 0 (Qq v0 v3 v5).toNat)).length) (IntKind.i64.wrap (v5 + 1)) (v6 && (Ji (v0.extract 0 (Qq v0 v3 v5).toNat)).isEmpty) (List.take v4 v7 ++ Ji (v0.extract 0 (Qq v0 v3 v5).toNat)) else none else none else none else bif (PV.child 0 (v3.getD v5.toNat PV.top)).int == 2 then bif decide (0 <= v5) && decide (v5 < zi v3.length) && (Q3 v3 v5) && true then bif Je (v4 + (Ji (J1 v3 v5).str).length) 1 && true then rc v0 v1 v2 v3 (v4 + (Ji (J1 v3 v5).str).length) (IntKind.i64.wrap (v5 + 1)) (v6 && (Ji (J1 v3 v5).str).isEmpty) (List.take v4 v7 ++ Ji (J1 v3 v5).str) else none else none else bif (PV.child 0 (v3.getD v5.toNat PV.top)).int == 3 then bif decide (0 <= Qh (V5 (zi (J1 v3 v5).str.size) 0) (zi v0.size)) && true && decide ((Qq v0 v3 v5).toNat <= v0.size) && decide (v0.size <= v0.size) && true then rc (v0.extract (Qq v0 v3 v5).toNat v0.size) v1 v2 v3 v4 (IntKind.i64.wrap (v5 + 1)) v6 v7 else none else rc v0 v1 v2 v3 v4 (IntKind.i64.wrap (v5 + 1)) v6 v7 else none else bif decide (0 <= v5) && decide (v5 < zi v3.length) && (Q3 v3 v5) && true then bif (PV.child 0 (v3.getD v5.toNat PV.top)).int == 1 then bif decide (0 <= Qh (Qp v3 v5) (zi v0.size)) && true && decide ((Qh (Qp v3 v5) (zi v0.size)).toNat <= v0.size) && true then bif Je (v4 + (Ji (Wl v0 v3 v5)).length) 1 && true then bif decide (0 <= Qh (Qp v3 v5) (zi v0.size)) && true && decide ((Qh (Qp v3 v5) (zi v0.size)).toNat <= v0.size) && decide (v0.size <= v0.size) && true then rc (v0.extract (Qh (Qp v3 v5) (zi v0.size)).toNat v0.size) v1 v2 v3 (v4 + (Ji (Wl v0 v3 v5)).length) (IntKind.i64.wrap (v5 + 1)) (v6 && (Ji (Wl v0 v3 v5)).isEmpty) (List.take v4 v7 ++ Ji (Wl v0 v3 v5)) else none else none else none else bif (PV.child 0 (v3.getD v5.toNat PV.top)).int == 2 then bif decide (0 <= v5) && decide (v5 < zi v3.length) && (Q3 v3 v5) && true then bif Je (v4 + (Ji (J1 v3 v5).str).length) 1 && true then rc v0 v1 v2 v3 (v4 + (Ji (J1 v3 v5).str).length) (IntKind.i64.wrap (v5 + 1)) (v6 && (Ji (J1 v3 v5).str).isEmpty) (List.take v4 v7 ++ Ji (J1 v3 v5).str) else none else none else bif (PV.child 0 (v3.getD v5.toNat PV.top)).int == 3 then bif decide (0 <= Qh (Qp v3 v5) (zi v0.size)) && true && decide ((Qh (Qp v3 v5) (zi v0.size)).toNat <= v0.size) && decide (v0.size <= v0.size) && true then rc (v0.extract (Qh (Qp v3 v5) (zi v0.size)).toNat v0.size) v1 v2 v3 v4 (IntKind.i64.wrap (v5 + 1)) v6 v7 else none else rc v0 v1 v2 v3 v4 (IntKind.i64.wrap (v5 + 1)) v6 v7 else none else none
def Q9 (f : Nat) (k0 : ByteArray -> Int -> OR) : Nat -> JuK
 | 0 => fun _ _ _ _ _ _ _ _ => none
 | n + 1 => XG f (Q9 f k0 n) k0
def JbU (k : Kont) := fun x0 x1 => k Ex.ret (Jj JnD N89 [.sc (.string x0), .sc (.int .i64 x1)] [])
def JnE (f : Nat) (k : Kont) (n : Nat) (v0 : ByteArray) (v1 v2 : Bool) (v3 : List PV) (v4 : Nat) (v5 : Int) (v6 : Bool) (v7 : List PV) : OR := Q4 tau 0 JfA (hasLabel Jkb) (fun l s k => Qi tau F89 0 0 Jkb (JpM ) l s k) n 0 (Jj JfA N89 [.sc (.string v0), .ro 113 v1 v2 v3, .ow 5 1152 [] 0 v4 none, .sc (.int .i64 v5)] [(1152, .vec false 5 v6 v7)]) (JI tau 0 JnD k)
theorem JxP (f : Nat) (k : Kont) (n : Nat) : JnE f k (n + 1) = XG f (JnE f k n) (JbU k) := by kernel_rfl
theorem JpN (f : Nat) (k : Kont) : ∀ n, JnE f k n = Q9 f (JbU k) n
 | 0 => rfl
 | n + 1 => (JxP f k n).trans (congrArg (fun r => XG f r (JbU k)) (JpN f k n))
def JfB (f : Nat) : Nat -> List PV -> List (Nat × Ent) -> Kont -> OR
 | 0, [.sc (.string v0), .ro 113 v1 v2 v3, .ow 5 1152 [] 0 v4 none,
 PV.sc
  (Value.int IntKind.i64
   v5)], [(1152, .vec false 5 v6 v7)], k => Q9 f (JbU k) f v0 v1 v2 v3 v4 v5 v6 v7
 | _, _, _, _ => none
theorem JEy (f : Nat) : Jg Jkb JpM = [] := by kernel_rfl
theorem JEz (f : Nat) : (Item.s Jkb JfA N89 (JfB f)).Ok tau Try.prog 0 := XU Jn JuJ Jo (x := JpM) (nm2 := JnD) (Jk _ _ (by rw [JEy f]; intro q hq; cases hq)) fun l vs hp k res hr => by
 unfold JfB at hr
 split at hr
 · rw [← JpN f] at hr; exact ⟨f, 0, hr⟩
 · cases hr
abbrev WM (o : List PV) := (PV.child (0 + 1 + 1) (o.getD 0 PV.top))
abbrev JcC (o : List PV) := (PV.isSt 113 #[Field.mk "Kind" 3 0 false "" "" 0, Field.mk "N" 3 1 false "" "" 8, Field.mk "S" 9 2 false "" "" 16].size (o.getD (Int.toNat 0) PV.top) && (PV.isInt IntKind.i64 (PV.child 0 (o.getD 0 PV.top)) && (PV.isInt IntKind.i64 (PV.child (0 + 1) (o.getD 0 PV.top)) && ((WM o).isStr && true))))
abbrev YE (o : List PV) := (V5 (PV.child (0 + 1) (o.getD 0 PV.top)).int 0)
abbrev YF (doc : ByteArray) (o : List PV) := (Qh (V5 (zi (WM o).str.size) 0) (zi doc.size))
abbrev JfC (doc : ByteArray) (o : List PV) := (Ji (doc.extract 0 (Qh (YE o) (zi doc.size)).toNat))
def g89 (f : Nat) (doc : ByteArray) (o_z o_f : Bool) (o : List PV) (k : KR) : OR := bif aOk o then bif !(FloatKind.f64.format.order (PV.sc (Value.complex FloatKind.f64 (fOf FloatKind.f64 (zi doc.size)) (szO o))).cre (PV.sc (Value.complex FloatKind.f64 (szI o) (szO o))).cre == some Ordering.eq && FloatKind.f64.format.order (PV.sc (Value.complex FloatKind.f64 (fOf FloatKind.f64 (zi doc.size)) (szO o))).cim (PV.sc (Value.complex FloatKind.f64 (szI o) (szO o))).cim == some Ordering.eq) then k (Res.mk (.tup [.sc (.string (ByteArray.mk (Array.mk []))), .sc (.int .i64 7)]) [] []) else bif FloatKind.f64.format.order (PV.sc (Value.float FloatKind.f64 (szO o))).flo (PV.sc (Value.float FloatKind.f64 4638144666238189568)).flo == some Ordering.gt then k (Res.mk (.tup [.sc (.string (ByteArray.mk (Array.mk []))), .sc (.int .i64 5)]) [] []) else bif 0 == zi o.length then k (Res.mk (.tup [.sc (.string (ByteArray.mk (Array.mk (JY (true, []).snd)))), .sc (.int .i64 0)]) [] []) else bif decide (0 < zi o.length) && (JcC o) && true then bif (PV.child 0 (o.getD 0 PV.top)).int == 2 then bif decide (0 < zi o.length) && (JcC o) && true then bif (PV.child 0 (o.getD 0 PV.top)).int == 1 then bif decide (0 <= Qh (V5 (zi (WM o).str.size) 0) (zi doc.size)) && true && decide ((YF doc o).toNat <= doc.size) && true then bif Je (Ji (doc.extract 0 (YF doc o).toNat)).length 1 && true then bif decide (0 <= Qh (V5 (zi (WM o).str.size) 0) (zi doc.size)) && true && decide ((YF doc o).toNat <= doc.size) && decide (doc.size <= doc.size) && true then Q9 f (fun x0_0 x1_0 => k (Res.mk (.tup [.sc (.string x0_0), .sc (.int .i64 x1_0)]) [] [])) f (doc.extract (YF doc o).toNat doc.size) o_z o_f o ((Ji (doc.extract 0 (YF doc o).toNat)).length) (IntKind.i64.wrap (0 + 1)) ((Ji (doc.extract 0 (YF doc o).toNat)).isEmpty) (Ji (doc.extract 0 (YF doc o).toNat)) else none else none else none else bif (PV.child 0 (o.getD 0 PV.top)).int == 2 then bif decide (0 < zi o.length) && (JcC o) && true then bif Je (Ji (WM o).str).length 1 && true then Q9 f (fun x0_1 x1_1 => k (Res.mk (.tup [.sc (.string x0_1), .sc (.int .i64 x1_1)]) [] [])) f doc o_z o_f o ((Ji (WM o).str).length) (IntKind.i64.wrap (0 + 1)) ((Ji (WM o).str).isEmpty) (Ji (WM o).str) else none else none else bif (PV.child 0 (o.getD 0 PV.top)).int == 3 then bif decide (0 <= Qh (V5 (zi (WM o).str.size) 0) (zi doc.size)) && true && decide ((YF doc o).toNat <= doc.size) && decide (doc.size <= doc.size) && true then Q9 f (fun x0_2 x1_2 => k (Res.mk (.tup [.sc (.string x0_2), .sc (.int .i64 x1_2)]) [] [])) f (doc.extract (YF doc o).toNat doc.size) o_z o_f o (0) (IntKind.i64.wrap (0 + 1)) true ([]) else none else Q9 f (fun x0_3 x1_3 => k (Res.mk (.tup [.sc (.string x0_3), .sc (.int .i64 x1_3)]) [] [])) f doc o_z o_f o (0) (IntKind.i64.wrap (0 + 1)) true ([]) else none else bif decide (0 < zi o.length) && (JcC o) && true then bif (PV.child 0 (o.getD 0 PV.top)).int == 1 then bif decide (0 <= Qh (YE o) (zi doc.size)) && true && decide ((Qh (YE o) (zi doc.size)).toNat <= doc.size) && true then bif Je (JfC doc o).length 1 && true then bif decide (0 <= Qh (YE o) (zi doc.size)) && true && decide ((Qh (YE o) (zi doc.size)).toNat <= doc.size) && decide (doc.size <= doc.size) && true then Q9 f (fun x0_4 x1_4 => k (Res.mk (.tup [.sc (.string x0_4), .sc (.int .i64 x1_4)]) [] [])) f (doc.extract (Qh (YE o) (zi doc.size)).toNat doc.size) o_z o_f o ((JfC doc o).length) (IntKind.i64.wrap (0 + 1)) ((JfC doc o).isEmpty) (JfC doc o) else none else none else none else bif (PV.child 0 (o.getD 0 PV.top)).int == 2 then bif decide (0 < zi o.length) && (JcC o) && true then bif Je (Ji (WM o).str).length 1 && true then Q9 f (fun x0_5 x1_5 => k (Res.mk (.tup [.sc (.string x0_5), .sc (.int .i64 x1_5)]) [] [])) f doc o_z o_f o ((Ji (WM o).str).length) (IntKind.i64.wrap (0 + 1)) ((Ji (WM o).str).isEmpty) (Ji (WM o).str) else none else none else bif (PV.child 0 (o.getD 0 PV.top)).int == 3 then bif decide (0 <= Qh (YE o) (zi doc.size)) && true && decide ((Qh (YE o) (zi doc.size)).toNat <= doc.size) && decide (doc.size <= doc.size) && true then Q9 f (fun x0_6 x1_6 => k (Res.mk (.tup [.sc (.string x0_6), .sc (.int .i64 x1_6)]) [] [])) f (doc.extract (Qh (YE o) (zi doc.size)).toNat doc.size) o_z o_f o (0) (IntKind.i64.wrap (0 + 1)) true ([]) else none else Q9 f (fun x0_7 x1_7 => k (Res.mk (.tup [.sc (.string x0_7), .sc (.int .i64 x1_7)]) [] [])) f doc o_z o_f o (0) (IntKind.i64.wrap (0 + 1)) true ([]) else none else none else none
theorem e89 (f : Nat) (doc : ByteArray) (o_z o_f : Bool) (o : List PV) (k : KR) : JK tau F89 Try.f89 (Try.f89.body.get!) (JxO (JfB f)) [.ro, .ro] 0 [.sc (.string doc), .ro 113 o_z o_f o] [] k = g89 f doc o_z o_f o k := by kernel_rfl
theorem JOw (f : Nat) : Jg (Try.f89.body.get!) (JxO (JfB f)) = [.s Jkb JfA N89 (JfB f)] := by kernel_rfl
theorem JOx (f : Nat) : ∀ q ∈ Jg (Try.f89.body.get!) (JxO (JfB f)), q.Ok tau Try.prog 0 := by rw [JOw f]; exact JL (JEz f) (fun _ h => nomatch h)
theorem JKU : Try.prog.funcs[89]? = some Try.f89 := by kernel_rfl
theorem JKV : Try.f89.body = some (Try.f89.body.get!) := by kernel_rfl
theorem JOy : Enters Try.prog 89 := enters_of JKU (by kernel_rfl) JKV
def JfS : List PV -> List UInt8 -> List UInt8
 | [], _ => []
 | p :: ps, t =>
  bif (cv p).kd == 1 then t.take (cv p).n.toNat ++ JfS ps (t.drop (cv p).n.toNat)
  else bif (cv p).kd == 2 then (cv p).s.data.toList ++ JfS ps t
  else JfS ps (t.drop (cv p).n.toNat)
theorem JbV : ∀ (l : List PV) (doc : ByteArray) (at1 : Nat) (out : ByteArray), (apl l doc at1 out).data.toList = out.data.toList ++ JfS l (doc.data.toList.drop at1)
 | [], doc, at1, out => by simp [apl, JfS]
 | p :: ps, doc, at1, out => by
  simp only [apl, JfS]
  cases (cv p).kd == 1 with
  | true =>
   simp only [cond_true]
   rw [JbV, ByteArray.data_append, Array.toList_append, ByteArray.data_extract, Array.toList_extract, List.extract_eq_take_drop, List.append_assoc, List.drop_drop]
   have e : at1 + (cv p).n.toNat - at1 = (cv p).n.toNat := by omega
   rw [e]
  | false =>
   simp only [cond_false]
   cases (cv p).kd == 2 with
   | true => simp only [cond_true]; rw [JbV, ByteArray.data_append, Array.toList_append, List.append_assoc]
   | false => simp only [cond_false]; rw [JbV, List.drop_drop]
def ob (l : List UInt8) : List PV := l.map fun b => .sc (.int .u8 b.toNat)
theorem JKW (s : ByteArray) : Ji s = ob s.data.toList := rfl
theorem JEA (a b : List UInt8) : ob a ++ ob b = ob (a ++ b) := by simp [ob]
theorem JnF (a : List UInt8) : (ob a).length = a.length := by simp [ob]
theorem JAe : ∀ l : List UInt8, JY (ob l) = l
 | [] => rfl
 | b :: l => by
  show UInt8.ofNat ((b.toNat : Int)).toNat :: JY (ob l) = _
  rw [JAe l, Int.toNat_natCast, UInt8.ofNat_toNat]
theorem JuL : ∀ l : List UInt8, Jl .u8 (ob l) = true
 | [] => rfl
 | b :: l => by
  show (PV.isInt .u8 (.sc (.int .u8 b.toNat)) && Jl .u8 (ob l)) = true
  rw [JuL l]; rfl
theorem JEB {a b : ByteArray} (h : a.data.toList = b.data.toList) : a = b := by
 cases a with
 | mk x => cases b with
  | mk y => exact congrArg ByteArray.mk (Array.ext' h)
theorem JAf {n m : Int} (h0 : 0 <= n) (h1 : n <= m) : Qh (V5 n 0) m = n := by
 unfold Qh V5
 by_cases h : n < 0
 · omega
 · rw [if_neg h]
   by_cases g : m < n
   · omega
   · rw [if_neg g]
theorem JxQ (f : Nat) (rc : ByteArray -> Bool -> Bool -> List PV -> Nat -> Int -> Bool -> List PV -> OR) (k0 : ByteArray -> Int -> OR) (r : ByteArray) (z fl : Bool) (l : List PV) (out : List UInt8) (q : Bool) :
  XG f rc k0 r z fl l out.length (l.length : Int) q (ob out) = k0 ⟨⟨out⟩⟩ 0 := by
 have e : List.take out.length (ob out) = ob out := by rw [← JnF out]; exact List.take_length
 simp only [XG, Wl, Qq, Qp, Q3, J1, List.drop_zero, e, JAe, JuL]
 exact Ja (beq_self_eq_true _)
theorem JuM (f : Nat) (rc : ByteArray -> Bool -> Bool -> List PV -> Nat -> Int -> Bool -> List PV -> OR) (k0 : ByteArray -> Int -> OR) (r : ByteArray) (z fl : Bool) (l : List PV) (ha : aOk l = true) (out : List UInt8) (q : Bool) (i : Nat) (hi : i < l.length) (X : OR)
   (hr : inC (cv (l.getD i .top)) <= r.size) (ho : (out.length : Int) + QN (cv (l.getD i .top)) <= 1000)
   (h : ∀ (r2 : ByteArray) (o2 : List UInt8) (q2 : Bool),
     (bif (cv (l.getD i .top)).kd == 1 then r2.data.toList = r.data.toList.drop (cv (l.getD i .top)).n.toNat /\ o2 = out ++ r.data.toList.take (cv (l.getD i .top)).n.toNat
       else bif (cv (l.getD i .top)).kd == 2 then r2.data.toList = r.data.toList /\ o2 = out ++ (cv (l.getD i .top)).s.data.toList
       else r2.data.toList = r.data.toList.drop (cv (l.getD i .top)).n.toNat /\ o2 = out : Prop) ->
     rc r2 z fl l o2.length ((i + 1 : Nat) : Int) q2 (ob o2) = X) :
   XG f rc k0 r z fl l out.length (i : Int) q (ob out) = X := by
 obtain ⟨h1, hl, hck⟩ := Q7.1 ha
 have g1 := tI i
 have w1 := wI (i := i) (by omega)
 have hc := JjZ h1 (i := i) (by omega)
 unfold GX at hc
 have hk := (YU ha (i := i) (by omega)).2
 have e : List.take out.length (ob out) = ob out := by rw [← JnF out]; exact List.take_length
 simp only [XG, Wl, Qq, Qp, Q3, J1, g1, w1, e, JKW, JEA, JnF, ← List.length_append]
 generalize l.getD i .top = p at *
 have e1 : (PV.child 0 p).int = (cv p).kd := rfl
 have e2 : (PV.child (0 + 1) p).int = (cv p).n := rfl
 have e3 : (PV.child (0 + 1 + 1) p).str = (cv p).s := rfl
 simp only [e1, e2, e3]
 refine (Jd (beq_false_of_ne (by simp only [zi]; omega))).trans ((Ja hc).trans ?_)
 have hn0 : ∀ (n : Nat), n <= r.size -> (r.extract 0 n).data.toList = r.data.toList.take n := fun n hn => by
   rw [ByteArray.data_extract, Array.toList_extract, List.extract_eq_take_drop, List.drop_zero, Nat.sub_zero]
 have hn1 : ∀ (n : Nat), (r.extract n r.size).data.toList = r.data.toList.drop n := fun n => by
   rw [ByteArray.data_extract, Array.toList_extract, List.extract_eq_take_drop]
   exact List.take_of_length_le (by rw [List.length_drop]; exact Nat.le_refl _)
 have hlen : r.data.toList.length = r.size := rfl
 rcases Xo hk with ⟨q1, q2, q3, q4⟩ | ⟨q1, q2, q3, q4⟩
 · rcases q1 with q1 | q1
   · have ei : inC (cv p) = (cv p).n := by unfold inC; rw [q1]; rfl
     have eo : QN (cv p) = (cv p).n := by unfold QN; rw [q1]; rfl
     rw [ei] at hr
     rw [eo] at ho
     have mm := JAf (n := (cv p).n) (m := zi r.size) (by omega) (by simp only [zi]; omega)
     have hx := hn0 (cv p).n.toNat (by omega)
     rw [q1] at h ⊢
     simp only [mm, hx]
     refine (Jd rfl).trans ((Ja hc).trans ((Ja rfl).trans ?_))
     refine (Ja (by simp [zi]; omega)).trans ((Ja ?_).trans ((Ja (by simp [zi]; omega)).trans ?_))
     · simp [Je]; omega
     · exact h _ _ _ ⟨hn1 _, rfl⟩
   · have ei : inC (cv p) = (cv p).n := by unfold inC; rw [q1]; rfl
     rw [ei] at hr
     have mm := JAf (n := (cv p).n) (m := zi r.size) (by omega) (by simp only [zi]; omega)
     rw [q1] at h ⊢
     simp only [mm]
     refine (Jd rfl).trans ((Ja hc).trans ((Jd rfl).trans ((Jd rfl).trans ((Ja rfl).trans ?_))))
     refine (Ja (by simp [zi]; omega)).trans ?_
     exact h _ _ _ ⟨hn1 _, rfl⟩
 · have eo : QN (cv p) = (cv p).s.size := by unfold QN; rw [q1]; rfl
   rw [eo] at ho
   have hs : (cv p).s.data.toList.length = (cv p).s.size := rfl
   rw [q1] at h ⊢
   refine (Ja rfl).trans ((Ja hc).trans ((Jd rfl).trans ((Ja rfl).trans ((Ja hc).trans ?_))))
   refine (Ja ?_).trans ?_
   · simp [Je]; omega
   · exact h _ _ _ ⟨rfl, rfl⟩
theorem JpO (l : List PV) (ha : aOk l = true) (f : Nat) (k0 : ByteArray -> Int -> OR) (z fl : Bool) : ∀ (d i n : Nat) (r : ByteArray) (out : List UInt8) (q : Bool), i + d = l.length -> d < n -> inL (l.drop i) <= r.size -> (out.length : Int) + outL (l.drop i) <= 1000 ->
  Q9 f k0 n r z fl l out.length (i : Int) q (ob out) = k0 ⟨⟨out ++ JfS (l.drop i) r.data.toList⟩⟩ 0
 | 0, i, n + 1, r, out, q, hi, hn, h3, h4 => by
   rw [List.drop_of_length_le (by omega)]
   obtain rfl : i = l.length := by omega
   simp only [Q9, JfS, List.append_nil]
   exact JxQ f _ k0 r z fl l out q
 | d + 1, i, n + 1, r, out, q, hi, hn, h3, h4 => by
   obtain ⟨h1, hl, hck⟩ := Q7.1 ha
   have hck' : ∀ q ∈ l.drop (i + 1), ckC (cv q) = 0 := fun q hq => hck q (List.mem_of_mem_drop hq)
   have hin := X8 hck'
   have hon := Yt hck'
   have hk := (YU ha (i := i) (by omega)).2
   rw [Qb (by omega)] at h3 h4 ⊢
   simp only [Q9, JfS]
   simp only [inL, outL] at h3 h4
   have i1 := Jfc hk
   have o1 := Jbz hk
   refine JuM f _ k0 r z fl l ha out q i (by omega) _ (by omega) (by omega) fun r2 o2 q2 h => ?_
   generalize l.getD i .top = p at *
   have sz : ∀ x : ByteArray, x.data.toList.length = x.size := fun _ => rfl
   rcases Xo hk with ⟨q1, q3, q4, q5⟩ | ⟨q1, q3, q4, q5⟩
   · rcases q1 with q1 | q1
     · have ei : inC (cv p) = (cv p).n := by unfold inC; rw [q1]; rfl
       have eo : QN (cv p) = (cv p).n := by unfold QN; rw [q1]; rfl
       rw [q1] at h ⊢
       obtain ⟨e1, e2⟩ := h
       have l1 := congrArg List.length e1
       have l2 := congrArg List.length e2
       rw [List.length_drop, sz, sz] at l1
       rw [List.length_append, List.length_take, sz] at l2
       rw [JpO l ha f k0 z fl d (i + 1) n r2 o2 q2 (by omega) (by omega) (by omega) (by omega), e1, e2, List.append_assoc]
       rfl
     · have ei : inC (cv p) = (cv p).n := by unfold inC; rw [q1]; rfl
       rw [q1] at h ⊢
       obtain ⟨e1, e2⟩ := h
       have l1 := congrArg List.length e1
       rw [List.length_drop, sz, sz] at l1
       subst e2
       rw [JpO l ha f k0 z fl d (i + 1) n r2 _ q2 (by omega) (by omega) (by omega) (by omega), e1]
       rfl
   · have ei : inC (cv p) = 0 := by unfold inC; rw [q1]; rfl
     have eo : QN (cv p) = (cv p).s.size := by unfold QN; rw [q1]; rfl
     rw [q1] at h ⊢
     obtain ⟨e1, e2⟩ := h
     have l1 := congrArg List.length e1
     have l2 := congrArg List.length e2
     rw [sz, sz] at l1
     rw [List.length_append, sz] at l2
     rw [JpO l ha f k0 z fl d (i + 1) n r2 o2 q2 (by omega) (by omega) (by omega) (by omega), e1, e2, List.append_assoc]
     rfl
theorem JEC (f : Nat) (doc : ByteArray) (z fl : Bool) (o : List PV) (k : KR) : g89 f doc z fl o k =
  bif aOk o then
   bif !(FloatKind.f64.format.order (fOf .f64 (zi doc.size)) (szI o) == some Ordering.eq && FloatKind.f64.format.order (szO o) (szO o) == some Ordering.eq) then k ⟨.tup [.sc (.string (ByteArray.mk (Array.mk []))), .sc (.int .i64 7)], [], []⟩
   else bif FloatKind.f64.format.order (szO o) 4638144666238189568 == some Ordering.gt then k ⟨.tup [.sc (.string (ByteArray.mk (Array.mk []))), .sc (.int .i64 5)], [], []⟩
   else XG f (Q9 f (fun x y => k ⟨.tup [.sc (.string x), .sc (.int .i64 y)], [], []⟩) f) (fun x y => k ⟨.tup [.sc (.string x), .sc (.int .i64 y)], [], []⟩) doc z fl o 0 0 true []
  else none := by
 unfold g89 JfC YF YE JcC WM XG Wl Qq Qp Q3 J1
 simp only [Nat.zero_add]
 rfl
theorem JKX (a b : Int) : compare a b = if a < b then .lt else if a = b then .eq else .gt := rfl
theorem JiK {a b : Int} : compare a b = .eq ↔ a = b := by
 rw [JKX]
 by_cases h : a < b
 · rw [if_pos h]; exact ⟨fun e => (nomatch e), fun e => by omega⟩
 · rw [if_neg h]
   by_cases g : a = b
   · rw [if_pos g]; exact ⟨fun _ => g, fun _ => rfl⟩
   · rw [if_neg g]; exact ⟨fun e => (nomatch e), fun e => absurd e g⟩
theorem JpP {a b : Int} : compare a b = .gt ↔ a > b := by
 rw [JKX]
 by_cases h : a < b
 · rw [if_pos h]; exact ⟨fun e => (nomatch e), fun e => by omega⟩
 · rw [if_neg h]
   by_cases g : a = b
   · rw [if_pos g]; exact ⟨fun e => (nomatch e), fun e => by omega⟩
   · rw [if_neg g]; exact ⟨fun _ => by omega, fun _ => rfl⟩
theorem f120 : fz 120 = 4638144666238189568 := by decide +kernel
def JnG : JA
 | [.sc (.string doc), .ro 113 z f o], [], k => bif aOk o && decide (doc.size <= 10000) then k ⟨.tup [.sc (.string (apD ⟨doc, o⟩)), .sc (.int .i64 (apE ⟨doc, o⟩))], [], []⟩ else none
 | _, _, _ => none
def JKY : Sig := { own := [], run := JnG }
theorem JED (doc : ByteArray) (z f : Bool) (o : List PV) (h : aOk o = true) (hd : doc.size <= 10000) (k : KR) : g89 50 doc z f o k = k ⟨.tup [.sc (.string (apD ⟨doc, o⟩)), .sc (.int .i64 (apE ⟨doc, o⟩))], [], []⟩ := by
 obtain ⟨h1, h2, h3⟩ := Q7.1 h
 have p53 : (2 : Nat) ^ 53 = 9007199254740992 := by decide
 have hle := Jm0 h3
 have hI := X8 h3
 have hO := Yt h3
 have hOle : ∀ {l : List PV}, (∀ p ∈ l, ckC (cv p) = 0) -> outL l <= 120 * l.length := by
   intro l
   induction l with
   | nil => intro _; simp [outL]
   | cons p l ih =>
     intro h
     have h1 := (Jbz (h p List.mem_cons_self)).2
     have h2 := ih fun q hq => h q (List.mem_cons_of_mem _ hq)
     simp only [outL, List.length_cons]; omega
 have hOl := hOle h3
 rw [JEC, JmZ, JtE, Jj0, JuF, JuH, JuI, ← f120]
 have r1 : FloatKind.f64.format.order (fz (zi doc.size)) (fz (inL o)) = some (compare (zi doc.size) (inL o)) := Jfz (by rw [p53]; simp only [zi]; omega) (by rw [p53]; omega)
 have r2 : FloatKind.f64.format.order (fz (outL o)) (fz (outL o)) = some (compare (outL o) (outL o)) := Jfz (by rw [p53]; omega) (by rw [p53]; omega)
 have r3 : FloatKind.f64.format.order (fz (outL o)) (fz 120) = some (compare (outL o) 120) := Jfz (by rw [p53]; omega) (by rw [p53]; decide)
 have r4 : compare (outL o) (outL o) = .eq := JiK.2 rfl
 rw [r1, r2, r3, r4]
 refine (Ja h).trans ?_
 by_cases hi : inL o = zi doc.size
 · have c1 : compare (zi doc.size) (inL o) = .eq := JiK.2 hi.symm
   have c2 : (inL o != zi doc.size) = false := by rw [hi]; simp
   rw [c1, c2]
   refine (Jd rfl).trans ?_
   by_cases ho : outL o > 120
   · have c3 : compare (outL o) 120 = .gt := JpP.2 ho
     rw [c3, decide_eq_true ho]
     rfl
   · have c3 : (some (compare (outL o) 120) == some Ordering.gt) = false := beq_false_of_ne fun e => ho (JpP.1 (Option.some.inj e))
     rw [c3, decide_eq_false ho]
     refine (Jd rfl).trans ?_
     have := JpO o h 50 (fun x y => k ⟨.tup [.sc (.string x), .sc (.int .i64 y)], [], []⟩) z f o.length 0 51 doc [] true (by omega) (by omega) (by rw [List.drop_zero, hi]; simp [zi]) (by rw [List.drop_zero]; simp; omega)
     simp only [Q9, List.drop_zero, List.nil_append] at this
     have e2 : apl o doc 0 (ByteArray.mk (Array.mk [])) = ⟨⟨JfS o doc.data.toList⟩⟩ := JEB (by rw [JbV, List.drop_zero]; rfl)
     refine this.trans ?_
     rw [← e2]; rfl
 · have c1 : (some (compare (zi doc.size) (inL o)) == some Ordering.eq) = false := beq_false_of_ne fun e => hi (JiK.1 (Option.some.inj e)).symm
   have c2 : (inL o != zi doc.size) = true := by simp [bne, hi]
   rw [c1, c2]
   rfl
theorem JKZ : Jc tau Try.prog 89 JKY := Jc.mk' fun xs es k res hl hr => by
 change JnG xs es k = some res at hr
 unfold JnG at hr
 split at hr
 · rename_i doc z f o
   obtain ⟨hc, hr⟩ := Jw hr
   have hd := (Bool.and_eq_true _ _ ▸ hc).2
   have hc := (Bool.and_eq_true _ _ ▸ hc).1
   exact J6 Jn JuJ Jo JKU JKV (JxO (JfB 50)) [.ro, .ro] 0 0 (JOx 50) hl rfl ((e89 50 doc z f o k).trans ((JED doc z f o hc (of_decide_eq_true hd) k).trans hr))
 · cases hr
def N40 : Nat := 79
def F40 : Fns := Js 91 JKK (Js 90 JKI (Js 89 JKY (Js 88 Jvw (F0))))
theorem JuN : Jq tau Try.prog F40 := ((((Jt).add Jrj JAy).add JKZ JOy).add JKJ JOp).add JKL JOs
def Jkc : Code := Qj (Try.f40.body.get!) [1, 0]
def JfD : Nm := [(0, .any), (1, .any)]
def JnH : Nm := [(4, .any)]
def JpQ : An := (.seq (.seq .leaf (.block none (.seq .leaf (.cond (.seq (.seq .leaf (.seq .leaf (.cond (.seq .leaf .leaf) .leaf))) (.seq .leaf (.seq .leaf .leaf))) (.seq .leaf (.cond (.seq (.seq .leaf (.cond .leaf .leaf)) (.seq .leaf (.seq .leaf .leaf))) .leaf)))))) (.seq (.seq .leaf (.cond .leaf .leaf)) (.seq .leaf (.seq (.seq .leaf .leaf) (.seq .leaf (.seq .leaf .leaf))))))
def JxR (r0 : Jq3) : An := (.seq .leaf (.ssum JfD N40 (JpQ) r0))
abbrev JuO := Bool -> Bool -> List PV -> Int -> Int -> ByteArray -> Bool -> Bool -> List PV -> Int -> List PV -> Int -> Int -> Int -> Int -> List PV -> Int -> Bool -> Bool -> List PV -> Int -> Int -> OR
def JdC (f : Nat) (rc : JuO) (k0 : Int -> Int -> Int -> ByteArray -> Bool -> Bool -> List PV -> Int -> List PV -> Int -> Int -> Int -> Int -> List PV -> Int -> Bool -> Bool -> List PV -> Int -> Int -> OR) (v0 v1 : Bool) (v2 : List PV) (v3 v4 : Int) (v5 : ByteArray) (v6 v7 : Bool) (v8 : List PV) (v9 : Int) (v10 : List PV) (v11 v12 v13 v14 : Int) (v15 : List PV) (v16 : Int) (v17 v18 : Bool) (v19 : List PV) (v20 v21 : Int) : OR := k0 (1) v3 v4 v5 v6 v7 v8 v9 v10 v11 v12 v13 v14 v15 v16 v17 v18 v19 v20 v21
def JcD (f : Nat) (k0 : Int -> Int -> Int -> ByteArray -> Bool -> Bool -> List PV -> Int -> List PV -> Int -> Int -> Int -> Int -> List PV -> Int -> Bool -> Bool -> List PV -> Int -> Int -> OR) : Nat -> JuO
 | 0 => fun _ _ _ _ _ _ _ _ _ _ _ _ _ _ _ _ _ _ _ _ _ _ => none
 | n + 1 => JdC f (JcD f k0 n) k0
def JbW (k : Kont) := fun x0 x1 x2 x3 x4 x5 x6 x7 x8 x9 x10 x11 x12 x13 x14 x15 x16 x17 x18 x19 => k Ex.ret (Jj JnH N40 [.sc (.int .i64 x0)] [(0, .box false 98 (PV.st 98 [.st 39 [.st 34 [.sc (.int .i64 x1), .sc (.int .i64 x2)], .sc (.string x3), .ro 42 x4 x5 x6, .sc (.int .i64 x7), .ar 37 x8], .st 53 [.st 42 [.sc (.int .i64 x9), .sc (.int .i64 x10)], .sc (.int .i64 x11), .sc (.int .i64 x12), .ar 37 x13, .sc (.int .i64 x14), .ro 113 x15 x16 x17, .st 42 [.sc (.int .i64 x18), .sc (.int .i64 x19)]]]))])
def JnI (f : Nat) (k : Kont) (n : Nat) (v0 v1 : Bool) (v2 : List PV) (v3 v4 : Int) (v5 : ByteArray) (v6 v7 : Bool) (v8 : List PV) (v9 : Int) (v10 : List PV) (v11 v12 v13 v14 : Int) (v15 : List PV) (v16 : Int) (v17 v18 : Bool) (v19 : List PV) (v20 v21 : Int) : OR := Q4 tau 1 JfD (hasLabel Jkc) (fun l s k => Qi tau F40 1 0 Jkc (JpQ ) l s k) n 0 (Jj JfD N40 [.ptr 0 [], .ro 113 v0 v1 v2] [(0, .box false 98 (PV.st 98 [.st 39 [.st 34 [.sc (.int .i64 v3), .sc (.int .i64 v4)], .sc (.string v5), .ro 42 v6 v7 v8, .sc (.int .i64 v9), .ar 37 v10], .st 53 [.st 42 [.sc (.int .i64 v11), .sc (.int .i64 v12)], .sc (.int .i64 v13), .sc (.int .i64 v14), .ar 37 v15, .sc (.int .i64 v16), .ro 113 v17 v18 v19, .st 42 [.sc (.int .i64 v20), .sc (.int .i64 v21)]]]))]) (JI tau 1 JnH k)
theorem JxS (f : Nat) (k : Kont) (n : Nat) : JnI f k (n + 1) = JdC f (JnI f k n) (JbW k) := by kernel_rfl
theorem JpR (f : Nat) (k : Kont) : ∀ n, JnI f k n = JcD f (JbW k) n
 | 0 => rfl
 | n + 1 => (JxS f k n).trans (congrArg (fun r => JdC f r (JbW k)) (JpR f k n))
def JfE (f : Nat) : Nat -> List PV -> List (Nat × Ent) -> Kont -> OR
 | 0, [.ptr 0 [],
 PV.ro 113 v0 v1
  v2], [(0,
  Ent.box false 98
   (PV.st 98
    [.st 39 [.st 34 [.sc (.int .i64 v3), .sc (.int .i64 v4)], .sc (.string v5), .ro 42 v6 v7 v8, .sc (.int .i64 v9), .ar 37 v10],
     PV.st 53
      [.st 42 [.sc (.int .i64 v11), .sc (.int .i64 v12)], .sc (.int .i64 v13), .sc (.int .i64 v14), .ar 37 v15,
       .sc (.int .i64 v16), .ro 113 v17 v18 v19,
       PV.st 42
        [.sc (.int .i64 v20),
         PV.sc
          (Value.int IntKind.i64
           v21)]]]))], k => JcD f (JbW k) f v0 v1 v2 v3 v4 v5 v6 v7 v8 v9 v10 v11 v12 v13 v14 v15 v16 v17 v18 v19 v20 v21
 | _, _, _, _ => none
theorem JEE (f : Nat) : Jg Jkc JpQ = [] := by kernel_rfl
theorem JEF (f : Nat) : (Item.s Jkc JfD N40 (JfE f)).Ok tau Try.prog 1 := XU Jn JuN Jo (x := JpQ) (nm2 := JnH) (Jk _ _ (by rw [JEE f]; intro q hq; cases hq)) fun l vs hp k res hr => by
 unfold JfE at hr
 split at hr
 · rw [← JpR f] at hr; exact ⟨f, 0, hr⟩
 · cases hr
def g40 (f : Nat) (y0 y1 : Int) (y2 : ByteArray) (y3 y4 : Bool) (y5 : List PV) (y6 : Int) (y7 : List PV) (y8 y9 y10 y11 : Int) (y12 : List PV) (y13 : Int) (y14 y15 : Bool) (y16 : List PV) (y17 y18 : Int) (o_z o_f : Bool) (o : List PV) (k : KR) : OR := bif y13 == 1 then bif cOk o then bif ckO o != 0 then k (Res.mk (.sc (.int .i64 (ckO o))) [.box false 98 (PV.st 98 [.st 39 [.st 34 [.sc (.int .i64 y0), .sc (.int .i64 y1)], .sc (.string y2), .ro 42 y3 y4 y5, .sc (.int .i64 y6), .ar 37 y7], .st 53 [.st 42 [.sc (.int .i64 y8), .sc (.int .i64 y9)], .sc (.int .i64 y10), .sc (.int .i64 y11), .ar 37 y12, .sc (.int .i64 y13), .ro 113 y14 y15 y16, .st 42 [.sc (.int .i64 y17), .sc (.int .i64 y18)]]])] []) else bif aOk o && decide (y2.size <= 10000) then k (Res.mk (.sc (.int .i64 (apE (AP.mk y2 o)))) [.box false 98 (PV.st 98 [.st 39 [.st 34 [.sc (.int .i64 y0), .sc (.int .i64 y1)], .sc (.string (apD (AP.mk y2 o))), .ro 42 y3 y4 y5, .sc (.int .i64 y6), .ar 37 y7], .st 53 [.st 42 [.sc (.int .i64 y8), .sc (.int .i64 y9)], .sc (.int .i64 y10), .sc (.int .i64 y11), .ar 37 y12, .sc (.int .i64 y13), .ro 113 y14 y15 y16, .st 42 [.sc (.int .i64 y17), .sc (.int .i64 y18)]]])] []) else none else none else bif y13 == 2 then bif decide (zi o.length > 0) then JcD f (fun x0_0 x1_0 x2_0 JR x4_0 x5_0 x6_0 x7_0 x8_0 x9_0 x10_0 Jp x12_0 Wr x14_0 x15_0 x16_0 x17_0 x18_0 x19_0 => k (Res.mk (.sc (.int .i64 x0_0)) [.box false 98 (PV.st 98 [.st 39 [.st 34 [.sc (.int .i64 x1_0), .sc (.int .i64 x2_0)], .sc (.string JR), .ro 42 x4_0 x5_0 x6_0, .sc (.int .i64 x7_0), .ar 37 x8_0], .st 53 [.st 42 [.sc (.int .i64 x9_0), .sc (.int .i64 x10_0)], .sc (.int .i64 Jp), .sc (.int .i64 x12_0), .ar 37 Wr, .sc (.int .i64 x14_0), .ro 113 x15_0 x16_0 x17_0, .st 42 [.sc (.int .i64 x18_0), .sc (.int .i64 x19_0)]]])] [])) f o_z o_f o y0 y1 y2 y3 y4 y5 y6 y7 y8 y9 y10 y11 y12 y13 y14 y15 y16 y17 y18 else bif pOk y5 && zOk y3 y5 then k (Res.mk (.sc (.int .i64 (adE (PH.mk y5 (AV.mk y17 y18))))) [.box false 98 (PV.st 98 [.st 39 [.st 34 [.sc (.int .i64 y0), .sc (.int .i64 y1)], .sc (.string y2), .ro 42 (adF (PH.mk y5 (AV.mk y17 y18)) && y3) (adF (PH.mk y5 (AV.mk y17 y18)) && y3) (adL (PH.mk y5 (AV.mk y17 y18))), .sc (.int .i64 y6), .ar 37 y7], .st 53 [.st 42 [.sc (.int .i64 y8), .sc (.int .i64 y9)], .sc (.int .i64 y10), .sc (.int .i64 y11), .ar 37 y12, .sc (.int .i64 y13), .ro 113 y14 y15 y16, .st 42 [.sc (.int .i64 y17), .sc (.int .i64 y18)]]])] []) else none else bif decide (zi o.length > 0) then JcD f (fun x0_1 x1_1 x2_1 JcE x4_1 x5_1 x6_1 x7_1 x8_1 x9_1 x10_1 x11_1 x12_1 x13_1 x14_1 x15_1 x16_1 x17_1 x18_1 x19_1 => k (Res.mk (.sc (.int .i64 x0_1)) [.box false 98 (PV.st 98 [.st 39 [.st 34 [.sc (.int .i64 x1_1), .sc (.int .i64 x2_1)], .sc (.string JcE), .ro 42 x4_1 x5_1 x6_1, .sc (.int .i64 x7_1), .ar 37 x8_1], .st 53 [.st 42 [.sc (.int .i64 x9_1), .sc (.int .i64 x10_1)], .sc (.int .i64 x11_1), .sc (.int .i64 x12_1), .ar 37 x13_1, .sc (.int .i64 x14_1), .ro 113 x15_1 x16_1 x17_1, .st 42 [.sc (.int .i64 x18_1), .sc (.int .i64 x19_1)]]])] [])) f o_z o_f o y0 y1 y2 y3 y4 y5 y6 y7 y8 y9 y10 y11 y12 y13 y14 y15 y16 y17 y18 else bif pOk y5 && zOk y3 y5 then k (Res.mk (.sc (.int .i64 (rmE (PH.mk y5 (AV.mk y17 y18))))) [.box false 98 (PV.st 98 [.st 39 [.st 34 [.sc (.int .i64 y0), .sc (.int .i64 y1)], .sc (.string y2), .ro 42 (rmZ (PH.mk y5 (AV.mk y17 y18)) y3) (rmF (PH.mk y5 (AV.mk y17 y18)) y3) (rmL (PH.mk y5 (AV.mk y17 y18))), .sc (.int .i64 y6), .ar 37 y7], .st 53 [.st 42 [.sc (.int .i64 y8), .sc (.int .i64 y9)], .sc (.int .i64 y10), .sc (.int .i64 y11), .ar 37 y12, .sc (.int .i64 y13), .ro 113 y14 y15 y16, .st 42 [.sc (.int .i64 y17), .sc (.int .i64 y18)]]])] []) else none
theorem e40 (f : Nat) (y0 y1 : Int) (y2 : ByteArray) (y3 y4 : Bool) (y5 : List PV) (y6 : Int) (y7 : List PV) (y8 y9 y10 y11 : Int) (y12 : List PV) (y13 : Int) (y14 y15 : Bool) (y16 : List PV) (y17 y18 : Int) (o_z o_f : Bool) (o : List PV) (k : KR) : JK tau F40 Try.f40 (Try.f40.body.get!) (JxR (JfE f)) [.ro] 0 [.ptr 0 [], .ro 113 o_z o_f o] [.box false 98 (.st 98 [.st 39 [.st 34 [.sc (.int .i64 y0), .sc (.int .i64 y1)], .sc (.string y2), .ro 42 y3 y4 y5, .sc (.int .i64 y6), .ar 37 y7], .st 53 [.st 42 [.sc (.int .i64 y8), .sc (.int .i64 y9)], .sc (.int .i64 y10), .sc (.int .i64 y11), .ar 37 y12, .sc (.int .i64 y13), .ro 113 y14 y15 y16, .st 42 [.sc (.int .i64 y17), .sc (.int .i64 y18)]]])] k = g40 f y0 y1 y2 y3 y4 y5 y6 y7 y8 y9 y10 y11 y12 y13 y14 y15 y16 y17 y18 o_z o_f o k := by kernel_rfl
theorem JOz (f : Nat) : Jg (Try.f40.body.get!) (JxR (JfE f)) = [.s Jkc JfD N40 (JfE f)] := by kernel_rfl
theorem JOA (f : Nat) : ∀ q ∈ Jg (Try.f40.body.get!) (JxR (JfE f)), q.Ok tau Try.prog 1 := by rw [JOz f]; exact JL (JEF f) (fun _ h => nomatch h)
theorem JK0 : Try.prog.funcs[40]? = some Try.f40 := by kernel_rfl
theorem JK1 : Try.f40.body = some (Try.f40.body.get!) := by kernel_rfl
theorem JOB : Enters Try.prog 40 := enters_of JK0 (by kernel_rfl) JK1
structure CX where
 (kd : Int) (w : AV) (doc : ByteArray) (l o : List PV)
def JxT (x : CX) : Int := bif x.kd == 1 then (bif ckO x.o != 0 then ckO x.o else apE ⟨x.doc, x.o⟩) else bif decide (zi x.o.length > 0) then 1 else bif x.kd == 2 then adE ⟨x.l, x.w⟩ else rmE ⟨x.l, x.w⟩
def JxU (x : CX) : ByteArray := bif x.kd == 1 then (bif ckO x.o != 0 then x.doc else apD ⟨x.doc, x.o⟩) else x.doc
def JxV (x : CX) : List PV := bif x.kd == 1 then x.l else bif decide (zi x.o.length > 0) then x.l else bif x.kd == 2 then adL ⟨x.l, x.w⟩ else rmL ⟨x.l, x.w⟩
def JxW (x : CX) (z : Bool) : Bool := bif x.kd == 1 then z else bif decide (zi x.o.length > 0) then z else bif x.kd == 2 then (adF ⟨x.l, x.w⟩ && z) else rmZ ⟨x.l, x.w⟩ z
def JEG (x : CX) (z f : Bool) : Bool := bif x.kd == 1 then f else bif decide (zi x.o.length > 0) then f else bif x.kd == 2 then (adF ⟨x.l, x.w⟩ && z) else rmF ⟨x.l, x.w⟩ z
def ccE : CX -> Int := hid JxT
def ccD : CX -> ByteArray := hid JxU
def ccL : CX -> List PV := hid JxV
def ccZ : CX -> Bool -> Bool := hid JxW
def ccF : CX -> Bool -> Bool -> Bool := hid JEG
theorem JuP (x : CX) : ccE x = JxT x := by rw [ccE, hid_eq]
theorem JuQ (x : CX) : ccD x = JxU x := by rw [ccD, hid_eq]
theorem JuR (x : CX) : ccL x = JxV x := by rw [ccL, hid_eq]
theorem JuS (x : CX) (z : Bool) : ccZ x z = JxW x z := by rw [ccZ, hid_eq]
theorem JEH (x : CX) (z f : Bool) : ccF x z f = JEG x z f := by rw [ccF, hid_eq]
def doP (ih iN : Int) (doc : ByteArray) (z f : Bool) (l : List PV) (ver : Int) (hash : List PV) (aD aU dI dV : Int) (dh : List PV) (kd : Int) (pz pf : Bool) (po : List PV) (wD wU : Int) : PV :=
 .st 98 [.st 39 [.st 34 [.sc (.int .i64 ih), .sc (.int .i64 iN)], .sc (.string doc), .ro 42 z f l, .sc (.int .i64 ver), .ar 37 hash],
  .st 53 [.st 42 [.sc (.int .i64 aD), .sc (.int .i64 aU)], .sc (.int .i64 dI), .sc (.int .i64 dV), .ar 37 dh, .sc (.int .i64 kd), .ro 113 pz pf po, .st 42 [.sc (.int .i64 wD), .sc (.int .i64 wU)]]]
theorem JEI (ih iN : Int) (doc : ByteArray) (z f : Bool) (l : List PV) (ver : Int) (hash : List PV) (aD aU dI dV : Int) (dh : List PV) (kd : Int) (pz pf : Bool) (po : List PV) (wD wU : Int) (oz of : Bool) (o : List PV)
  (ho : cOk o = true) (hd : doc.size <= 10000) (hl : pOk l = true) (hz : zOk z l = true) (k : KR) :
  g40 1 ih iN doc z f l ver hash aD aU dI dV dh kd pz pf po wD wU oz of o k =
   k ⟨.sc (.int .i64 (ccE ⟨kd, ⟨wD, wU⟩, doc, l, o⟩)), [.box false 98 (doP ih iN (ccD ⟨kd, ⟨wD, wU⟩, doc, l, o⟩) (ccZ ⟨kd, ⟨wD, wU⟩, doc, l, o⟩ z) (ccF ⟨kd, ⟨wD, wU⟩, doc, l, o⟩ z f) (ccL ⟨kd, ⟨wD, wU⟩, doc, l, o⟩) ver hash aD aU dI dV dh kd pz pf po wD wU)], []⟩ := by
 have hlz : (pOk l && zOk z l) = true := by rw [hl, hz]; rfl
 unfold g40 doP
 rw [JuP, JuQ, JuR, JuS, JEH, JxT, JxU, JxV, JxW, JEG]
 simp only [JcD, JdC]
 cases h1 : (kd == 1) with
 | true =>
  simp only [cond_true]
  refine (Ja ho).trans ?_
  cases h2 : (ckO o != 0) with
  | true => rfl
  | false =>
   refine (Jd rfl).trans (Ja ?_)
   rw [JmU ho (by simpa using h2), decide_eq_true hd]; rfl
 | false =>
  simp only [cond_false]
  cases h3 : decide (zi o.length > 0) with
  | true => cases h2 : (kd == 2) <;> rfl
  | false =>
   cases h2 : (kd == 2) <;> exact Ja hlz
def JnJ : JA
 | [.ptr 0 [], .ro 113 oz of o], [.box false 98 (.st 98 [.st 39 [.st 34 [.sc (.int .i64 ih), .sc (.int .i64 iN)], .sc (.string doc), .ro 42 z f l, .sc (.int .i64 ver), .ar 37 hash], .st 53 [.st 42 [.sc (.int .i64 aD), .sc (.int .i64 aU)], .sc (.int .i64 dI), .sc (.int .i64 dV), .ar 37 dh, .sc (.int .i64 kd), .ro 113 pz pf po, .st 42 [.sc (.int .i64 wD), .sc (.int .i64 wU)]]])], k =>
  bif cOk o && (decide (doc.size <= 10000) && (pOk l && zOk z l)) then k ⟨.sc (.int .i64 (ccE ⟨kd, ⟨wD, wU⟩, doc, l, o⟩)), [.box false 98 (.st 98 [.st 39 [.st 34 [.sc (.int .i64 ih), .sc (.int .i64 iN)], .sc (.string (ccD ⟨kd, ⟨wD, wU⟩, doc, l, o⟩)), .ro 42 (ccZ ⟨kd, ⟨wD, wU⟩, doc, l, o⟩ z) (ccF ⟨kd, ⟨wD, wU⟩, doc, l, o⟩ z f) (ccL ⟨kd, ⟨wD, wU⟩, doc, l, o⟩), .sc (.int .i64 ver), .ar 37 hash], .st 53 [.st 42 [.sc (.int .i64 aD), .sc (.int .i64 aU)], .sc (.int .i64 dI), .sc (.int .i64 dV), .ar 37 dh, .sc (.int .i64 kd), .ro 113 pz pf po, .st 42 [.sc (.int .i64 wD), .sc (.int .i64 wU)]]])], []⟩ else none
 | _, _, _ => none
def JK2 : Sig := { own := [true], run := JnJ }
theorem JK3 : Jc tau Try.prog 40 JK2 := Jc.mk' fun xs es k res hl hr => by
 change JnJ xs es k = some res at hr
 unfold JnJ at hr
 split at hr
 · rename_i oz of o ih iN doc z f l ver hash aD aU dI dV dh kd pz pf po wD wU
   obtain ⟨hc, hr⟩ := Jw hr
   simp only [Bool.and_eq_true, decide_eq_true_eq] at hc
   obtain ⟨c1, c2, c3, c4⟩ := hc
   exact J6 Jn JuN Jo JK0 JK1 (JxR (JfE 1)) [.ro] 1 0 (JOA 1) hl rfl ((e40 1 ih iN doc z f l ver hash aD aU dI dV dh kd pz pf po wD wU oz of o k).trans ((JEI ih iN doc z f l ver hash aD aU dI dV dh kd pz pf po wD wU oz of o c1 c2 c3 c4 k).trans hr))
 · cases hr
def F14 : Fns := Js 41 JHu (Js 40 JK2 (Js 39 JKG (Js 38 s38 (Js 37 JII (Js 36 JCu (F0))))))
theorem JEJ : Jq tau Try.prog F14 := ((((((Jt).add Jzi JHY).add JIJ JM8).add JOb JOa).add JKH JOk).add JK3 JOB).add JHv JMB
def JEK : An := (.seq .leaf (.seq .leaf (.seq (.seq .leaf (.cond (.seq .leaf .leaf) .leaf)) (.seq .leaf (.seq (.block none (.seq .leaf (.cond (.seq .leaf .leaf) (.seq .leaf (.cond (.seq .leaf .leaf) .leaf))))) (.seq (.seq .leaf (.seq .leaf (.cond (.seq .leaf .leaf) .leaf))) (.seq (.seq .leaf (.cond (.seq .leaf .leaf) .leaf)) (.seq .leaf (.seq .leaf (.seq .leaf .leaf))))))))))
abbrev QB (y0 : Int) (y1 : Int) := [PV.sc (.int .i64 y0), PV.sc (.int .i64 y1)]
abbrev Yb (y7 : List PV) (y10 : List PV) (y11 : List PV) (e_At : Int) (e_Op : List PV) := (JH [PV.ro 5 false false (List.take 32 y7), PV.ro 5 false false (pu IntKind.u8 (J0 (EV.mk y10 y11 e_At e_Op)))])
abbrev YG (y2 : ByteArray) (y5 : List PV) (y10 : List PV) (e_Op : List PV) := (CX.mk (dF 4 y10) (AV.mk (dF 5 y10) (dF 6 y10)) y2 (List.take (0 + y5.length) y5) e_Op)
abbrev JfF (y0 : Int) (y1 : Int) (y2 : ByteArray) (y5 : List PV) (y6 : Int) (y7 : List PV) := (Res.mk (PV.tup [PV.st 39 [PV.st 34 (QB y0 y1), PV.sc (.string y2), PV.ro 42 false false (List.take (0 + y5.length) y5), PV.sc (.int .i64 y6), PV.ar 37 y7], PV.sc (.int .i64 15)]) [] [])
abbrev JfG (y0 : Int) (y1 : Int) (y2 : ByteArray) (y6 : Int) (y7 : List PV) := (Res.mk (PV.tup [PV.st 39 [PV.st 34 (QB y0 y1), PV.sc (.string y2), PV.ro 42 true true [], PV.sc (.int .i64 y6), PV.ar 37 y7], PV.sc (.int .i64 15)]) [] [])
abbrev YH (y2 : ByteArray) (y10 : List PV) (e_Op : List PV) := (CX.mk (dF 4 y10) (AV.mk (dF 5 y10) (dF 6 y10)) y2 [] e_Op)
def g14 (f : Nat) (y0 y1 : Int) (y2 : ByteArray) (y3 y4 : Bool) (y5 : List PV) (y6 : Int) (y7 : List PV) (y8 y9 : Bool) (y10 y11 : List PV) (e_At : Int) (y12 y13 : Bool) (e_Op y14 y15 : List PV) (k : KR) : OR := bif slB y8 y10 && byB y10 then bif dE y10 != 0 then bif y3 then k (Res.mk (.tup [.st 39 [.st 34 (QB y0 y1), .sc (.string y2), .ro 42 true true [], .sc (.int .i64 y6), .ar 37 y7], .sc (.int .i64 (dE y10))]) [] []) else bif Je (0 + y5.length) 16 && true then k (Res.mk (.tup [.st 39 [.st 34 (QB y0 y1), .sc (.string y2), .ro 42 false false (List.take (0 + y5.length) y5), .sc (.int .i64 y6), .ar 37 y7], .sc (.int .i64 (dE y10))]) [] []) else none else bif y3 then bif e_At != y6 then bif y3 then k (JfG y0 y1 y2 y6 y7) else bif Je (0 + y5.length) 16 && true then k (JfF y0 y1 y2 y5 y6 y7) else none else bif decide (dF 3 y10 > y6) then bif y3 then k (JfG y0 y1 y2 y6 y7) else bif Je (0 + y5.length) 16 && true then k (JfF y0 y1 y2 y5 y6 y7) else none else bif pOk y5 then bif !hasP (PH.mk y5 (AV.mk (dF 0 y10) (dF 1 y10))) then bif y3 then k (Res.mk (.tup [.st 39 [.st 34 (QB y0 y1), .sc (.string y2), .ro 42 true true [], .sc (.int .i64 y6), .ar 37 y7], .sc (.int .i64 13)]) [] []) else bif Je (0 + y5.length) 16 && true then k (Res.mk (.tup [.st 39 [.st 34 (QB y0 y1), .sc (.string y2), .ro 42 false false (List.take (0 + y5.length) y5), .sc (.int .i64 y6), .ar 37 y7], .sc (.int .i64 13)]) [] []) else none else bif cOk e_Op && (decide (y2.size <= 10000) && (pOk [] && zOk true [])) then bif ccE (YH y2 y10 e_Op) != 0 then bif y3 then k (Res.mk (.tup [.st 39 [.st 34 (QB y0 y1), .sc (.string y2), .ro 42 true true [], .sc (.int .i64 y6), .ar 37 y7], .sc (.int .i64 (ccE (YH y2 y10 e_Op)))]) [] []) else bif Je (0 + y5.length) 16 && true then k (Res.mk (.tup [.st 39 [.st 34 (QB y0 y1), .sc (.string y2), .ro 42 false false (List.take (0 + y5.length) y5), .sc (.int .i64 y6), .ar 37 y7], .sc (.int .i64 (ccE (YH y2 y10 e_Op)))]) [] []) else none else bif eOk (EV.mk y10 y11 e_At e_Op) then bif Jl IntKind.u8 (Yb y7 y10 y11 e_At e_Op) && decide ((Yb y7 y10 y11 e_At e_Op).length <= 140737488355000) then bif decide (y14.length = 32) && decide ((pu IntKind.u8 (JZ (JD (Yb y7 y10 y11 e_At e_Op)))).length = 32) && Jl IntKind.u8 y14 && Jl IntKind.u8 (pu IntKind.u8 (JZ (JD (Yb y7 y10 y11 e_At e_Op)))) && true then bif !Qf y14 (pu IntKind.u8 (JZ (JD (Yb y7 y10 y11 e_At e_Op)))) then bif y3 then k (Res.mk (.tup [.st 39 [.st 34 (QB y0 y1), .sc (.string y2), .ro 42 true true [], .sc (.int .i64 y6), .ar 37 y7], .sc (.int .i64 16)]) [] []) else bif Je (0 + y5.length) 16 && true then k (Res.mk (.tup [.st 39 [.st 34 (QB y0 y1), .sc (.string y2), .ro 42 false false (List.take (0 + y5.length) y5), .sc (.int .i64 y6), .ar 37 y7], .sc (.int .i64 16)]) [] []) else none else bif ccZ (YH y2 y10 e_Op) true then k (Res.mk (.tup [.st 39 [.st 34 (QB y0 y1), .sc (.string (ccD (YH y2 y10 e_Op))), .ro 42 true true [], .sc (.int .i64 (IntKind.i64.wrap (y6 + 1))), .ar 37 y14], .sc (.int .i64 0)]) [] []) else bif Je (0 + (ccL (YH y2 y10 e_Op)).length) 16 && true then k (Res.mk (.tup [.st 39 [.st 34 (QB y0 y1), .sc (.string (ccD (YH y2 y10 e_Op))), .ro 42 false false (List.take (0 + (ccL (YH y2 y10 e_Op)).length) (ccL (YH y2 y10 e_Op))), .sc (.int .i64 (IntKind.i64.wrap (y6 + 1))), .ar 37 y14], .sc (.int .i64 0)]) [] []) else none else none else none else none else none else none else bif Je (0 + y5.length) 16 && true then bif e_At != y6 then bif y3 then k (JfG y0 y1 y2 y6 y7) else bif Je (0 + y5.length) 16 && true then k (JfF y0 y1 y2 y5 y6 y7) else none else bif decide (dF 3 y10 > y6) then bif y3 then k (JfG y0 y1 y2 y6 y7) else bif Je (0 + y5.length) 16 && true then k (JfF y0 y1 y2 y5 y6 y7) else none else bif pOk y5 then bif !hasP (PH.mk y5 (AV.mk (dF 0 y10) (dF 1 y10))) then bif y3 then k (Res.mk (.tup [.st 39 [.st 34 (QB y0 y1), .sc (.string y2), .ro 42 true true [], .sc (.int .i64 y6), .ar 37 y7], .sc (.int .i64 13)]) [] []) else bif Je (0 + y5.length) 16 && true then k (Res.mk (.tup [.st 39 [.st 34 (QB y0 y1), .sc (.string y2), .ro 42 false false (List.take (0 + y5.length) y5), .sc (.int .i64 y6), .ar 37 y7], .sc (.int .i64 13)]) [] []) else none else bif cOk e_Op && (decide (y2.size <= 10000) && (pOk (List.take (0 + y5.length) y5) && zOk false (List.take (0 + y5.length) y5))) then bif ccE (YG y2 y5 y10 e_Op) != 0 then bif y3 then k (Res.mk (.tup [.st 39 [.st 34 (QB y0 y1), .sc (.string y2), .ro 42 true true [], .sc (.int .i64 y6), .ar 37 y7], .sc (.int .i64 (ccE (YG y2 y5 y10 e_Op)))]) [] []) else bif Je (0 + y5.length) 16 && true then k (Res.mk (.tup [.st 39 [.st 34 (QB y0 y1), .sc (.string y2), .ro 42 false false (List.take (0 + y5.length) y5), .sc (.int .i64 y6), .ar 37 y7], .sc (.int .i64 (ccE (YG y2 y5 y10 e_Op)))]) [] []) else none else bif eOk (EV.mk y10 y11 e_At e_Op) then bif Jl IntKind.u8 (Yb y7 y10 y11 e_At e_Op) && decide ((Yb y7 y10 y11 e_At e_Op).length <= 140737488355000) then bif decide (y14.length = 32) && decide ((pu IntKind.u8 (JZ (JD (Yb y7 y10 y11 e_At e_Op)))).length = 32) && Jl IntKind.u8 y14 && Jl IntKind.u8 (pu IntKind.u8 (JZ (JD (Yb y7 y10 y11 e_At e_Op)))) && true then bif !Qf y14 (pu IntKind.u8 (JZ (JD (Yb y7 y10 y11 e_At e_Op)))) then bif y3 then k (Res.mk (.tup [.st 39 [.st 34 (QB y0 y1), .sc (.string y2), .ro 42 true true [], .sc (.int .i64 y6), .ar 37 y7], .sc (.int .i64 16)]) [] []) else bif Je (0 + y5.length) 16 && true then k (Res.mk (.tup [.st 39 [.st 34 (QB y0 y1), .sc (.string y2), .ro 42 false false (List.take (0 + y5.length) y5), .sc (.int .i64 y6), .ar 37 y7], .sc (.int .i64 16)]) [] []) else none else bif ccZ (YG y2 y5 y10 e_Op) false then k (Res.mk (.tup [.st 39 [.st 34 (QB y0 y1), .sc (.string (ccD (YG y2 y5 y10 e_Op))), .ro 42 true true [], .sc (.int .i64 (IntKind.i64.wrap (y6 + 1))), .ar 37 y14], .sc (.int .i64 0)]) [] []) else bif Je (0 + (ccL (YG y2 y5 y10 e_Op)).length) 16 && true then k (Res.mk (.tup [.st 39 [.st 34 (QB y0 y1), .sc (.string (ccD (YG y2 y5 y10 e_Op))), .ro 42 false false (List.take (0 + (ccL (YG y2 y5 y10 e_Op)).length) (ccL (YG y2 y5 y10 e_Op))), .sc (.int .i64 (IntKind.i64.wrap (y6 + 1))), .ar 37 y14], .sc (.int .i64 0)]) [] []) else none else none else none else none else none else none else none else none
theorem e14 (f : Nat) (y0 y1 : Int) (y2 : ByteArray) (y3 y4 : Bool) (y5 : List PV) (y6 : Int) (y7 : List PV) (y8 y9 : Bool) (y10 y11 : List PV) (e_At : Int) (y12 y13 : Bool) (e_Op y14 y15 : List PV) (k : KR) : JK tau F14 Try.f14 (Try.f14.body.get!) JEK [.ro, .ro] 0 [.st 39 [.st 34 [.sc (.int .i64 y0), .sc (.int .i64 y1)], .sc (.string y2), .ro 42 y3 y4 y5, .sc (.int .i64 y6), .ar 37 y7], .st 51 [.st 47 [.ro 5 y8 y9 y10, .ar 37 y11], .sc (.int .i64 e_At), .ro 113 y12 y13 e_Op, .ar 37 y14, .ar 37 y15]] [] k = g14 f y0 y1 y2 y3 y4 y5 y6 y7 y8 y9 y10 y11 e_At y12 y13 e_Op y14 y15 k := by kernel_rfl
theorem JOC (f : Nat) : ∀ q ∈ Jg (Try.f14.body.get!) JEK, q.Ok tau Try.prog 0 := Jx (by kernel_rfl)
theorem JK4 : Try.prog.funcs[14]? = some Try.f14 := by kernel_rfl
theorem JK5 : Try.f14.body = some (Try.f14.body.get!) := by kernel_rfl
theorem JOD : Enters Try.prog 14 := enters_of JK4 (by kernel_rfl) JK5
def cxO (x : DX) : CX := ⟨dF 4 x.e.b, whA x.e.b, x.s.doc, x.s.l, x.e.o⟩
theorem JK6 (x : DX) : ccE (cxO x) = chE x := by
 rw [JuP]
 unfold JxT chE cxO
 cases dF 4 x.e.b == 1 with
 | false => rfl
 | true => simp only [cond_true, bne]; cases ckO x.e.o == 0 <;> rfl
theorem JK7 {x : DX} (h : chE x = 0) : ccD (cxO x) = chD x := by
 rw [JuQ]
 unfold JxU chD cxO
 unfold chE at h
 cases h1 : dF 4 x.e.b == 1 with
 | false => rfl
 | true =>
  rw [h1] at h
  simp only [cond_true, bne] at h ⊢
  cases h2 : ckO x.e.o == 0 with
  | true => rfl
  | false => rw [h2] at h; simp only [cond_false] at h; rw [h] at h2; exact absurd h2 (by decide)
theorem JuT {x : DX} (h : chE x = 0) : decide (zi x.e.o.length > 0) = true -> (dF 4 x.e.b == 1) = true := by
 intro g
 unfold chE at h
 cases h1 : dF 4 x.e.b == 1 with
 | true => rfl
 | false => rw [h1, g] at h; exact absurd (show (1 : Int) = 0 from h) (by decide)
theorem JK8 {x : DX} (h : chE x = 0) : ccL (cxO x) = chL x := by
 rw [JuR]
 have g := JuT h
 unfold JxV chL cxO
 cases h1 : dF 4 x.e.b == 1 with
 | true => rfl
 | false =>
  simp only [cond_false]
  cases h2 : decide (zi x.e.o.length > 0) with
  | false => rfl
  | true => rw [g h2] at h1; cases h1
theorem JK9 {x : DX} (h : chE x = 0) (z : Bool) : ccZ (cxO x) z = chZ x z := by
 rw [JuS]
 have g := JuT h
 unfold JxW chZ cxO
 cases h1 : dF 4 x.e.b == 1 with
 | true => rfl
 | false =>
  simp only [cond_false]
  cases h2 : decide (zi x.e.o.length > 0) with
  | false => rfl
  | true => rw [g h2] at h1; cases h1
theorem JnK {x : DX} {z : Bool} (hz : z = true -> x.s.l = []) : chZ x z = true -> chL x = [] := by
 unfold chZ chL
 cases dF 4 x.e.b == 1 with
 | true => exact hz
 | false =>
  simp only [cond_false]
  cases dF 4 x.e.b == 2 with
  | true =>
   simp only [cond_true, Jm6, Jcn]
   cases JbI ⟨x.s.l, whA x.e.b⟩ == 0 with
   | true => intro h; cases h
   | false => exact hz
  | false =>
   simp only [cond_false, Jm7, Jco]
   cases hasL x.s.l (whA x.e.b) with
   | true => exact fun h => List.isEmpty_iff.1 h
   | false => exact hz
theorem Jkd {x : DX} (h : pOk x.s.l = true) : (chL x).length <= 9 := by
 have h3 : x.s.l.length <= 8 := (QD.1 h).2.2
 unfold chL
 cases dF 4 x.e.b == 1 with
 | true => show x.s.l.length <= 9; omega
 | false =>
  simp only [cond_false]
  cases dF 4 x.e.b == 2 with
  | true =>
   simp only [cond_true, Jcn]
   cases JbI ⟨x.s.l, whA x.e.b⟩ == 0 with
   | true => show (G1 x.s.l _).length <= 9; rw [Vu]; omega
   | false => show x.s.l.length <= 9; omega
  | false =>
   simp only [cond_false, Jco]
   cases hasL x.s.l (whA x.e.b) with
   | true => show (List.filter _ x.s.l).length <= 9; have := List.length_filter_le (fun p => !eqA (av p) (whA x.e.b)) x.s.l; exact Nat.le_trans this (by omega)
   | false => show x.s.l.length <= 9; omega
def wsP (s : SV) (z f : Bool) : PV := .st 39 [.st 34 [.sc (.int .i64 s.ih), .sc (.int .i64 s.iN)], .sc (.string s.doc), .ro 42 z f s.l, .sc (.int .i64 s.ver), .ar 37 s.hash]
def dwP (x : DX) (z : Bool) : PV := .tup [wsP (dsS x) (dsZ x z) (dsZ x z), .sc (.int .i64 (dsE x))]
theorem JiL {x : DX} {e : Int} (h : dsE0 x = e) (h0 : (e == 0) = false) (z : Bool) : dwP x z = .tup [wsP x.s z z, .sc (.int .i64 e)] := by
 have h1 : (dsE0 x == 0) = false := by rw [h]; exact h0
 unfold dwP; rw [Jio h1, Jfl, Jcp, h, h0]; rfl
theorem JuU {x : DX} (h : dsE0 x = 0) (z : Bool) : dwP x z = .tup [wsP ⟨x.s.ih, x.s.iN, chD x, chL x, x.s.ver + 1, x.e.h⟩ (chZ x z) (chZ x z), .sc (.int .i64 0)] := by
 unfold dwP dsS; rw [Jfk, Jcq, Vv, G3, Jfl, Jcp, h]; rfl
theorem cl3 {z : Bool} {l : List PV} (hz : z = true -> l = []) (hl : l.length <= 1000) (K : Bool -> Bool -> List PV -> OR) : (bif z then K true true [] else bif Je l.length 16 && true then K false false l else none) = K z z l := by
 cases z with
 | true => rw [hz rfl]; rfl
 | false => exact (Jd rfl).trans (Ja (by simp [Je]; omega))
theorem JEL (ih iN : Int) (doc : ByteArray) (z f : Bool) (l : List PV) (ver : Int) (hash : List PV) (bz bf : Bool) (b m : List PV) (at1 : Int) (oz of : Bool) (o h mc : List PV)
  (hs : sOk ⟨ih, iN, doc, l, ver, hash⟩ = true) (he : eD ⟨b, m, at1, o, h, mc⟩ = true) (hzk : zOk z l = true) (hsl : slB bz b = true) (k : KR) :
  g14 0 ih iN doc z f l ver hash bz bf b m at1 oz of o h mc k = k ⟨dwP ⟨⟨ih, iN, doc, l, ver, hash⟩, ⟨b, m, at1, o, h, mc⟩⟩ z, [], []⟩ := by
 obtain ⟨s1, s2, s3, s4, s5, s6⟩ := Xf.1 hs
 obtain ⟨e1, e2, e3, e4⟩ := G4.1 he
 simp only at s1 s2 s3 s4 s5 e1 e3 e4
 have e2 : eOk ⟨b, m, at1, o⟩ = true := e2
 obtain ⟨hh1, hh2⟩ := h32_iff.1 e4
 obtain ⟨ha1, ha2⟩ := h32_iff.1 s2
 have hz := JdB.1 hzk
 have hl8 : l.length <= 8 := (QD.1 s1).2.2
 have w1 : IntKind.i64.wrap (ver + 1) = ver + 1 := wrap_i64 (by omega) (by omega)
 have hnl : (pu .u8 (nxP ⟨hash, ⟨b, m, at1, o⟩⟩)).length = 32 := by rw [JG]; exact X7 _
 have htk : List.take 32 hash = hash := by rw [← ha2]; exact List.take_length
 have hfl : JH [.ro 5 false false (List.take 32 hash), .ro 5 false false (pu .u8 (J0 ⟨b, m, at1, o⟩))] = hash ++ pu .u8 (J0 ⟨b, m, at1, o⟩) := by rw [htk]; simp [PV.els]
 have hnx : JZ (JD (hash ++ pu .u8 (J0 ⟨b, m, at1, o⟩))) = nxP ⟨hash, ⟨b, m, at1, o⟩⟩ := by
  rw [Jfb, Jc6, We]
 have hcl := XD e2
 obtain ⟨q1, q2, q3, q4, q5, q6⟩ := WH.1 e2
 have hfa : (Jl .u8 (hash ++ pu .u8 (J0 ⟨b, m, at1, o⟩)) && decide ((hash ++ pu .u8 (J0 ⟨b, m, at1, o⟩)).length <= 140737488355000)) = true := by
  rw [Wb, ha1, JO, List.length_append, JG, hcl, ha2]
  simp only at q2 q6 ⊢
  exact decide_eq_true (by omega)
 unfold g14 YH JfG JfF YG Yb QB
 simp only [Nat.zero_add, List.take_length, w1]
 refine (Ja (by rw [hsl, e1]; rfl)).trans ?_
 cases h1 : (dE b != 0) with
 | true =>
  refine (Ja rfl).trans ?_
  rw [JiL (x := ⟨⟨ih, iN, doc, l, ver, hash⟩, ⟨b, m, at1, o, h, mc⟩⟩) (e := dE b) (Ja h1) (by simpa [bne] using h1)]
  exact cl3 hz (by omega) (fun a c q => k ⟨.tup [wsP ⟨ih, iN, doc, q, ver, hash⟩ a c, .sc (.int .i64 (dE b))], [], []⟩)
 | false =>
 refine (Jd rfl).trans ?_
 cases z with
 | true =>
  obtain rfl : l = [] := hz rfl
  refine (Ja rfl).trans ?_
  have hau : AV.mk (dF 0 b) (dF 1 b) = auA b := rfl
  have hcx : CX.mk (dF 4 b) (AV.mk (dF 5 b) (dF 6 b)) doc [] o = cxO ⟨⟨ih, iN, doc, [], ver, hash⟩, ⟨b, m, at1, o, h, mc⟩⟩ := rfl
  simp only [hau, hcx, hfl, hnx, JK6]
  have BAD : ∀ (e : Int), dsE0 ⟨⟨ih, iN, doc, [], ver, hash⟩, ⟨b, m, at1, o, h, mc⟩⟩ = e -> (e == 0) = false -> (bif true then k ⟨.tup [wsP ⟨ih, iN, doc, [], ver, hash⟩ true true, .sc (.int .i64 e)], [], []⟩ else bif Je ([] : List PV).length 16 && true then k ⟨.tup [wsP ⟨ih, iN, doc, [], ver, hash⟩ false false, .sc (.int .i64 e)], [], []⟩ else none) = k ⟨dwP ⟨⟨ih, iN, doc, [], ver, hash⟩, ⟨b, m, at1, o, h, mc⟩⟩ true, [], []⟩ := fun e h1 h0 => by
   rw [JiL h1 h0]
   exact cl3 (z := true) (l := []) (by intro _; rfl) (by exact Nat.zero_le _) (fun a c q => k ⟨.tup [wsP ⟨ih, iN, doc, q, ver, hash⟩ a c, .sc (.int .i64 e)], [], []⟩)
  cases h2 : (at1 != ver) with
  | true => exact (Ja rfl).trans (BAD 15 ((Jd h1).trans (Ja h2)) rfl)
  | false =>
  refine (Jd rfl).trans ?_
  cases h3 : decide (dF 3 b > ver) with
  | true => exact (Ja rfl).trans (BAD 15 ((Jd h1).trans ((Jd h2).trans (Ja h3))) rfl)
  | false =>
  refine (Jd rfl).trans ((Ja s1).trans ?_)
  cases h4 : (!hasP ⟨[], auA b⟩) with
  | true => exact (Ja rfl).trans (BAD 13 ((Jd h1).trans ((Jd h2).trans ((Jd h3).trans (Ja h4)))) rfl)
  | false =>
  refine (Jd rfl).trans ((Ja (by rw [e3, decide_eq_true (show doc.size <= 10000 by omega), s1, hzk]; rfl)).trans ?_)
  cases h5 : (chE ⟨⟨ih, iN, doc, [], ver, hash⟩, ⟨b, m, at1, o, h, mc⟩⟩ != 0) with
  | true => exact (Ja rfl).trans (BAD _ ((Jd h1).trans ((Jd h2).trans ((Jd h3).trans ((Jd h4).trans (Ja h5))))) (by simpa [bne] using h5))
  | false =>
  have hc0 : chE ⟨⟨ih, iN, doc, [], ver, hash⟩, ⟨b, m, at1, o, h, mc⟩⟩ = 0 := by simpa [bne] using h5
  refine (Jd rfl).trans ((Ja e2).trans ((Ja hfa).trans ((Ja (by rw [hh2, hnl, hh1, JO]; rfl)).trans ?_)))
  cases h6 : (!Qf h (pu .u8 (nxP ⟨hash, ⟨b, m, at1, o⟩⟩))) with
  | true => exact (Ja rfl).trans (BAD 16 ((Jd h1).trans ((Jd h2).trans ((Jd h3).trans ((Jd h4).trans ((Jd h5).trans (Ja h6)))))) rfl)
  | false =>
  refine (Jd rfl).trans ?_
  rw [JK9 hc0, JK7 hc0, JK8 hc0, JuU (x := ⟨⟨ih, iN, doc, [], ver, hash⟩, ⟨b, m, at1, o, h, mc⟩⟩) ((Jd h1).trans ((Jd h2).trans ((Jd h3).trans ((Jd h4).trans ((Jd h5).trans (Jd h6))))))]
  have hsm := Jkd (x := ⟨⟨ih, iN, doc, [], ver, hash⟩, ⟨b, m, at1, o, h, mc⟩⟩) s1
  exact cl3 (JnK (x := ⟨⟨ih, iN, doc, [], ver, hash⟩, ⟨b, m, at1, o, h, mc⟩⟩) (z := true) (by intro _; rfl)) (by omega) (fun a c q => k ⟨.tup [wsP ⟨ih, iN, chD ⟨⟨ih, iN, doc, [], ver, hash⟩, ⟨b, m, at1, o, h, mc⟩⟩, q, ver + 1, h⟩ a c, .sc (.int .i64 0)], [], []⟩)
 | false =>
  refine (Jd rfl).trans ((Ja (by simp [Je]; omega)).trans ?_)
  have hau : AV.mk (dF 0 b) (dF 1 b) = auA b := rfl
  have hcx : CX.mk (dF 4 b) (AV.mk (dF 5 b) (dF 6 b)) doc l o = cxO ⟨⟨ih, iN, doc, l, ver, hash⟩, ⟨b, m, at1, o, h, mc⟩⟩ := rfl
  simp only [hau, hcx, hfl, hnx, JK6]
  have BAD : ∀ (e : Int), dsE0 ⟨⟨ih, iN, doc, l, ver, hash⟩, ⟨b, m, at1, o, h, mc⟩⟩ = e -> (e == 0) = false -> (bif false then k ⟨.tup [wsP ⟨ih, iN, doc, [], ver, hash⟩ true true, .sc (.int .i64 e)], [], []⟩ else bif Je (l : List PV).length 16 && true then k ⟨.tup [wsP ⟨ih, iN, doc, l, ver, hash⟩ false false, .sc (.int .i64 e)], [], []⟩ else none) = k ⟨dwP ⟨⟨ih, iN, doc, l, ver, hash⟩, ⟨b, m, at1, o, h, mc⟩⟩ false, [], []⟩ := fun e h1 h0 => by
   rw [JiL h1 h0]
   exact cl3 (z := false) (l := l) (by intro q; cases q) (by omega) (fun a c q => k ⟨.tup [wsP ⟨ih, iN, doc, q, ver, hash⟩ a c, .sc (.int .i64 e)], [], []⟩)
  cases h2 : (at1 != ver) with
  | true => exact (Ja rfl).trans (BAD 15 ((Jd h1).trans (Ja h2)) rfl)
  | false =>
  refine (Jd rfl).trans ?_
  cases h3 : decide (dF 3 b > ver) with
  | true => exact (Ja rfl).trans (BAD 15 ((Jd h1).trans ((Jd h2).trans (Ja h3))) rfl)
  | false =>
  refine (Jd rfl).trans ((Ja s1).trans ?_)
  cases h4 : (!hasP ⟨l, auA b⟩) with
  | true => exact (Ja rfl).trans (BAD 13 ((Jd h1).trans ((Jd h2).trans ((Jd h3).trans (Ja h4)))) rfl)
  | false =>
  refine (Jd rfl).trans ((Ja (by rw [e3, decide_eq_true (show doc.size <= 10000 by omega), s1, hzk]; rfl)).trans ?_)
  cases h5 : (chE ⟨⟨ih, iN, doc, l, ver, hash⟩, ⟨b, m, at1, o, h, mc⟩⟩ != 0) with
  | true => exact (Ja rfl).trans (BAD _ ((Jd h1).trans ((Jd h2).trans ((Jd h3).trans ((Jd h4).trans (Ja h5))))) (by simpa [bne] using h5))
  | false =>
  have hc0 : chE ⟨⟨ih, iN, doc, l, ver, hash⟩, ⟨b, m, at1, o, h, mc⟩⟩ = 0 := by simpa [bne] using h5
  refine (Jd rfl).trans ((Ja e2).trans ((Ja hfa).trans ((Ja (by rw [hh2, hnl, hh1, JO]; rfl)).trans ?_)))
  cases h6 : (!Qf h (pu .u8 (nxP ⟨hash, ⟨b, m, at1, o⟩⟩))) with
  | true => exact (Ja rfl).trans (BAD 16 ((Jd h1).trans ((Jd h2).trans ((Jd h3).trans ((Jd h4).trans ((Jd h5).trans (Ja h6)))))) rfl)
  | false =>
  refine (Jd rfl).trans ?_
  rw [JK9 hc0, JK7 hc0, JK8 hc0, JuU (x := ⟨⟨ih, iN, doc, l, ver, hash⟩, ⟨b, m, at1, o, h, mc⟩⟩) ((Jd h1).trans ((Jd h2).trans ((Jd h3).trans ((Jd h4).trans ((Jd h5).trans (Jd h6))))))]
  have hsm := Jkd (x := ⟨⟨ih, iN, doc, l, ver, hash⟩, ⟨b, m, at1, o, h, mc⟩⟩) s1
  exact cl3 (JnK (x := ⟨⟨ih, iN, doc, l, ver, hash⟩, ⟨b, m, at1, o, h, mc⟩⟩) (z := false) (by intro q; cases q)) (by omega) (fun a c q => k ⟨.tup [wsP ⟨ih, iN, chD ⟨⟨ih, iN, doc, l, ver, hash⟩, ⟨b, m, at1, o, h, mc⟩⟩, q, ver + 1, h⟩ a c, .sc (.int .i64 0)], [], []⟩)
def JnL : JA
 | [.st 39 [.st 34 [.sc (.int .i64 ih), .sc (.int .i64 iN)], .sc (.string doc), .ro 42 z f l, .sc (.int .i64 ver), .ar 37 hash], .st 51 [.st 47 [.ro 5 bz bf b, .ar 37 m], .sc (.int .i64 at1), .ro 113 oz of o, .ar 37 h, .ar 37 mc]], [], k =>
  bif sOk ⟨ih, iN, doc, l, ver, hash⟩ && eD ⟨b, m, at1, o, h, mc⟩ && (zOk z l && slB bz b) then k ⟨.tup [.st 39 [.st 34 [.sc (.int .i64 ih), .sc (.int .i64 iN)], .sc (.string (dsD ⟨⟨ih, iN, doc, l, ver, hash⟩, ⟨b, m, at1, o, h, mc⟩⟩)), .ro 42 (dsZ ⟨⟨ih, iN, doc, l, ver, hash⟩, ⟨b, m, at1, o, h, mc⟩⟩ z) (dsZ ⟨⟨ih, iN, doc, l, ver, hash⟩, ⟨b, m, at1, o, h, mc⟩⟩ z) (dsL ⟨⟨ih, iN, doc, l, ver, hash⟩, ⟨b, m, at1, o, h, mc⟩⟩), .sc (.int .i64 (dsV ⟨⟨ih, iN, doc, l, ver, hash⟩, ⟨b, m, at1, o, h, mc⟩⟩)), .ar 37 (dsH ⟨⟨ih, iN, doc, l, ver, hash⟩, ⟨b, m, at1, o, h, mc⟩⟩)], .sc (.int .i64 (dsE ⟨⟨ih, iN, doc, l, ver, hash⟩, ⟨b, m, at1, o, h, mc⟩⟩))], [], []⟩ else none
 | _, _, _ => none
def JLa : Sig := { own := [], run := JnL }
theorem JLb : Jc tau Try.prog 14 JLa := Jc.mk' fun xs es k res hl hr => by
 change JnL xs es k = some res at hr
 unfold JnL at hr
 split at hr
 · rename_i ih iN doc z f l ver hash bz bf b m at1 oz of o h mc
   obtain ⟨hc, hr⟩ := Jw hr
   simp only [Bool.and_eq_true] at hc
   obtain ⟨⟨c1, c2⟩, c3, c4⟩ := hc
   exact J6 Jn JEJ Jo JK4 JK5 JEK [.ro, .ro] 0 0 (JOC 0) hl rfl ((e14 0 ih iN doc z f l ver hash bz bf b m at1 oz of o h mc k).trans ((JEL ih iN doc z f l ver hash bz bf b m at1 oz of o h mc c1 c2 c3 c4 k).trans hr))
 · cases hr
def N3 : Nat := 112
def F3 : Fns := Js 16 JDr (Js 15 JC2 (Js 14 JLa (Js 13 JCz (Js 12 JJH (Js 11 JKa (Js 10 s10 (Js 9 s9' (F0))))))))
theorem JuV : Jq tau Try.prog F3 := ((((((((Jt).add JNL en9).add JNO JNN).add JKb JN7).add JJJ JNJ).add Jzj JH1).add JLb JOD).add Jzp JIF).add JzB JDn
def JxX : Code := Qj (Try.f3.body.get!) [1, 1, 1, 1, 1, 0, 1, 0, 0, 1, 0, 0, 1, 1]
def JpS : Nm := [(3, .any), (5, .any), (6, .any), (7, .any), (8, .any), (9, .any), (10, .any)]
def JpT : Nm := [(2, .any), (3, .any), (5, .any), (6, .any)]
def JcE : An := (.seq (.seq .leaf (.cond (.seq .leaf .leaf) .leaf)) (.seq (.seq .leaf (.cond (.seq .leaf .leaf) .leaf)) .leaf))
def JxY : Code := Qj (Try.f3.body.get!) [1, 1, 1, 1, 1, 0, 1, 0, 0]
def Jke : Nm := [(3, .any), (5, .any), (6, .any)]
def JpU : Nm := [(2, .any)]
def JR (r1 : Qz) : An := (.seq (.seq .leaf (.cond .leaf .leaf)) (.seq (.block none (.seq .leaf (.cut JpS N3 .leaf r1))) .leaf))
def an3 (r0 : Qz) : An := (.seq .leaf (.seq (.seq .leaf (.cond (.seq .leaf .leaf) .leaf)) (.seq (.seq .leaf (.cond (.seq .leaf .leaf) .leaf)) (.seq .leaf (.seq .leaf (.seq (.seq .leaf (.block none (.sum Jke N3 r0))) (.seq .leaf .leaf)))))))
abbrev JAg := Bool -> List PV -> Int -> Int -> Int -> Int -> Int -> ByteArray -> Bool -> Bool -> List PV -> Int -> List PV -> Int -> Int -> ByteArray -> Bool -> Bool -> List PV -> Int -> List PV -> Int -> Int -> Int -> Int -> List PV -> Int -> Bool -> Bool -> List PV -> Int -> Int -> OR
abbrev YX (v1 : List PV) (v2 : Int) := (EV.mk (PV.child 0 (PV.child 0 (v1.getD v2.toNat PV.top))).els (PV.child (0 + 1) (PV.child 0 (v1.getD v2.toNat PV.top))).els (PV.child (0 + 1) (v1.getD v2.toNat PV.top)).int (PV.child (0 + 1 + 1) (v1.getD v2.toNat PV.top)).els)
def JiM (f : Nat) (rc : JAg) (k0 : Bool -> Bool -> List PV -> Int -> Int -> Int -> ByteArray -> Bool -> Bool -> List PV -> Int -> List PV -> OR) (k1 : Bool -> List PV -> Int -> Int -> Int -> ByteArray -> Bool -> Bool -> List PV -> Int -> List PV -> OR) (v0 : Bool) (v1 : List PV) (v2 v3 v4 v5 v6 : Int) (v7 : ByteArray) (v8 v9 : Bool) (v10 : List PV) (v11 : Int) (v12 : List PV) (v13 v14 : Int) (v15 : ByteArray) (v16 v17 : Bool) (v18 : List PV) (v19 : Int) (v20 : List PV) (v21 v22 v23 v24 : Int) (v25 : List PV) (v26 : Int) (v27 v28 : Bool) (v29 : List PV) (v30 v31 : Int) : OR := bif v3 != 0 then k0 false v0 v1 v2 v5 v6 v7 v8 v9 v10 v11 v12 else bif v4 != 0 then k0 false v0 v1 v2 v5 v6 v7 v8 v9 v10 v11 v12 else bif v19 != IntKind.i64.wrap (v2 + 1) then k0 false v0 v1 v2 v5 v6 v7 v8 v9 v10 v11 v12 else bif decide (0 <= v2) && decide (v2 < zi v1.length) && (PV.isSt 51 #[Field.mk "S" 47 0 false "" "" 0, Field.mk "At" 3 33 false "" "" 56, Field.mk "Op" 49 34 false "" "" 64, Field.mk "Hash" 37 35 false "" "" 88, Field.mk "Mac" 37 67 false "" "" 120].size (v1.getD v2.toNat PV.top) && (PV.isSt (Field.mk "S" 47 0 false "" "" 0).type #[Field.mk "Body" 29 0 false "" "" 0, Field.mk "Mac" 37 1 false "" "" 24].size (PV.child 0 (v1.getD v2.toNat PV.top)) && (PV.isRo 5 (PV.child 0 (PV.child 0 (v1.getD v2.toNat PV.top))) && (PV.isAr (Field.mk "Mac" 37 1 false "" "" 24).type (PV.child (0 + 1) (PV.child 0 (v1.getD v2.toNat PV.top))) && true)) && (PV.isInt IntKind.i64 (PV.child (0 + 1) (v1.getD v2.toNat PV.top)) && (PV.isRo 113 (PV.child (0 + 1 + 1) (v1.getD v2.toNat PV.top)) && (PV.isAr (Field.mk "Hash" 37 35 false "" "" 88).type (PV.child (0 + 1 + 1 + 1) (v1.getD v2.toNat PV.top)) && (PV.isAr (Field.mk "Mac" 37 67 false "" "" 120).type (PV.child (0 + 1 + 1 + 1 + 1) (v1.getD v2.toNat PV.top)) && true)))))) && true then bif h32 v12 && eOk (YX v1 v2) then bif decide (v20.length = 32) && decide ((pu IntKind.u8 (nxP (NX.mk v12 (YX v1 v2)))).length = 32) && Jl IntKind.u8 v20 && Jl IntKind.u8 (pu IntKind.u8 (nxP (NX.mk v12 (YX v1 v2)))) && true then bif !Qf v20 (pu IntKind.u8 (nxP (NX.mk v12 (YX v1 v2)))) then k0 false v0 v1 v2 v5 v6 v7 v8 v9 v10 v11 v12 else bif decide (zi v15.size > 120) then k0 false v0 v1 v2 v5 v6 v7 v8 v9 v10 v11 v12 else bif decide (zi v18.length > 8) then k0 false v0 v1 v2 v5 v6 v7 v8 v9 v10 v11 v12 else bif v26 == 1 then bif zi v18.length != zi v10.length then k0 false v0 v1 v2 v5 v6 v7 v8 v9 v10 v11 v12 else bif v26 != 1 then bif !YZ v15 v7 then k0 false v0 v1 v2 v5 v6 v7 v8 v9 v10 v11 v12 else k1 v0 v1 v2 v13 v14 v15 v16 v17 v18 v19 v20 else k1 v0 v1 v2 v13 v14 v15 v16 v17 v18 v19 v20 else bif v26 != 1 then bif !YZ v15 v7 then k0 false v0 v1 v2 v5 v6 v7 v8 v9 v10 v11 v12 else k1 v0 v1 v2 v13 v14 v15 v16 v17 v18 v19 v20 else k1 v0 v1 v2 v13 v14 v15 v16 v17 v18 v19 v20 else none else none else none
def Jkf (f : Nat) (k0 : Bool -> Bool -> List PV -> Int -> Int -> Int -> ByteArray -> Bool -> Bool -> List PV -> Int -> List PV -> OR) (k1 : Bool -> List PV -> Int -> Int -> Int -> ByteArray -> Bool -> Bool -> List PV -> Int -> List PV -> OR) : Nat -> JAg
 | 0 => fun _ _ _ _ _ _ _ _ _ _ _ _ _ _ _ _ _ _ _ _ _ _ _ _ _ _ _ _ _ _ _ _ => none
 | n + 1 => JiM f (Jkf f k0 k1 n) k0 k1
def JdD (k : Kont) := fun x0 x1 x2 x3 x4 x5 x6 x7 x8 x9 x10 x11 => k Ex.ret (Jj JpT N3 [.sc (.bool x0), .ro 51 x1 false x2, .ptr 1808 [], .sc (.int .i64 x3)] [(1808, .box false 39 (PV.st 39 [.st 34 [.sc (.int .i64 x4), .sc (.int .i64 x5)], .sc (.string x6), .ro 42 x7 x8 x9, .sc (.int .i64 x10), .ar 37 x11]))])
def JdE (k : Kont) := fun x0 x1 x2 x3 x4 x5 x6 x7 x8 x9 x10 => k Ex.normal (Jj JpT N3 [PV.top, .ro 51 x0 false x1, .ptr 1808 [], .sc (.int .i64 x2)] [(1808, .box false 39 (PV.st 39 [.st 34 [.sc (.int .i64 x3), .sc (.int .i64 x4)], .sc (.string x5), .ro 42 x6 x7 x8, .sc (.int .i64 x9), .ar 37 x10]))])
def JuW (f : Nat) (k : Kont) (n : Nat) (v0 : Bool) (v1 : List PV) (v2 v3 v4 v5 v6 : Int) (v7 : ByteArray) (v8 v9 : Bool) (v10 : List PV) (v11 : Int) (v12 : List PV) (v13 v14 : Int) (v15 : ByteArray) (v16 v17 : Bool) (v18 : List PV) (v19 : Int) (v20 : List PV) (v21 v22 v23 v24 : Int) (v25 : List PV) (v26 : Int) (v27 v28 : Bool) (v29 : List PV) (v30 v31 : Int) : OR := Jx4 (fun s k => ev tau F3 0 0 JxX (JcE ) s k) n (Jj JpS N3 [.ro 51 v0 false v1, .ptr 1808 [], .sc (.int .i64 v2), .ptr 1809 [], .sc (.int .i64 v3), .ptr 1810 [], .sc (.int .i64 v4)] [(1808, .box false 39 (PV.st 39 [.st 34 [.sc (.int .i64 v5), .sc (.int .i64 v6)], .sc (.string v7), .ro 42 v8 v9 v10, .sc (.int .i64 v11), .ar 37 v12])), (1809, .box false 39 (PV.st 39 [.st 34 [.sc (.int .i64 v13), .sc (.int .i64 v14)], .sc (.string v15), .ro 42 v16 v17 v18, .sc (.int .i64 v19), .ar 37 v20])), (1810, .box false 53 (PV.st 53 [.st 42 [.sc (.int .i64 v21), .sc (.int .i64 v22)], .sc (.int .i64 v23), .sc (.int .i64 v24), .ar 37 v25, .sc (.int .i64 v26), .ro 113 v27 v28 v29, .st 42 [.sc (.int .i64 v30), .sc (.int .i64 v31)]]))]) (JI tau 0 JpT k)
theorem JEM (f : Nat) (k : Kont) (n : Nat) : JuW f k (n + 1) = JiM f (JuW f k n) (JdD k) (JdE k) := by kernel_rfl
theorem JuX (f : Nat) (k : Kont) : ∀ n, JuW f k n = Jkf f (JdD k) (JdE k) n
 | 0 => rfl
 | n + 1 => (JEM f k n).trans (congrArg (fun r => JiM f r (JdD k) (JdE k)) (JuX f k n))
def Jqy (f : Nat) : List PV -> List (Nat × Ent) -> Kont -> OR
 | [.ro 51 v0 false v1, .ptr 1808 [], .sc (.int .i64 v2), .ptr 1809 [], .sc (.int .i64 v3), .ptr 1810 [],
 PV.sc
  (Value.int IntKind.i64
   v4)], [(1808,
  Ent.box false 39
   (PV.st 39 [.st 34 [.sc (.int .i64 v5), .sc (.int .i64 v6)], .sc (.string v7), .ro 42 v8 v9 v10, .sc (.int .i64 v11), .ar 37 v12])),
 (1809,
  Ent.box false 39
   (PV.st 39 [.st 34 [.sc (.int .i64 v13), .sc (.int .i64 v14)], .sc (.string v15), .ro 42 v16 v17 v18, .sc (.int .i64 v19), .ar 37 v20])),
 (1810,
  Ent.box false 53
   (PV.st 53
    [.st 42 [.sc (.int .i64 v21), .sc (.int .i64 v22)], .sc (.int .i64 v23), .sc (.int .i64 v24), .ar 37 v25,
     .sc (.int .i64 v26), .ro 113 v27 v28 v29,
     PV.st 42
      [.sc (.int .i64 v30),
       PV.sc
        (Value.int IntKind.i64
         v31)]]))], k => Jkf f (JdD k) (JdE k) f v0 v1 v2 v3 v4 v5 v6 v7 v8 v9 v10 v11 v12 v13 v14 v15 v16 v17 v18 v19 v20 v21 v22 v23 v24 v25 v26 v27 v28 v29 v30 v31
 | _, _, _ => none
theorem JLc (f : Nat) : Jg JxX JcE = [] := by kernel_rfl
theorem JLd (f : Nat) : (Item.c JxX JpS N3 (Jqy f)).Ok tau Try.prog 0 := Jq4 Jn JuV Jo (x := JcE) (nm2 := JpT) (Jk _ _ (by rw [JLc f]; intro q hq; cases hq)) fun vs hp k res hr => by
 unfold Jqy at hr
 split at hr
 · rw [← JuX f] at hr; exact ⟨f, 0, hr⟩
 · cases hr
abbrev JAh := Bool -> List PV -> Int -> Int -> Int -> ByteArray -> Bool -> Bool -> List PV -> Int -> List PV -> OR
abbrev JW (v1 : List PV) (v2 : Int) := (PV.child 0 (PV.child 0 (v1.getD v2.toNat PV.top)))
abbrev QQ (v1 : List PV) (v2 : Int) := (EW.mk (JW v1 v2).els (PV.child (0 + 1) (PV.child 0 (v1.getD v2.toNat PV.top))).els (PV.child (0 + 1) (v1.getD v2.toNat PV.top)).int (PV.child (0 + 1 + 1) (v1.getD v2.toNat PV.top)).els (PV.child (0 + 1 + 1 + 1) (v1.getD v2.toNat PV.top)).els (PV.child (0 + 1 + 1 + 1 + 1) (v1.getD v2.toNat PV.top)).els)
abbrev V4 (v1 : List PV) (v2 : Int) := (PV.isSt 51 #[Field.mk "S" 47 0 false "" "" 0, Field.mk "At" 3 33 false "" "" 56, Field.mk "Op" 49 34 false "" "" 64, Field.mk "Hash" 37 35 false "" "" 88, Field.mk "Mac" 37 67 false "" "" 120].size (v1.getD v2.toNat PV.top) && (PV.isSt (Field.mk "S" 47 0 false "" "" 0).type #[Field.mk "Body" 29 0 false "" "" 0, Field.mk "Mac" 37 1 false "" "" 24].size (PV.child 0 (v1.getD v2.toNat PV.top)) && (PV.isRo 5 (JW v1 v2) && (PV.isAr (Field.mk "Mac" 37 1 false "" "" 24).type (PV.child (0 + 1) (PV.child 0 (v1.getD v2.toNat PV.top))) && true)) && (PV.isInt IntKind.i64 (PV.child (0 + 1) (v1.getD v2.toNat PV.top)) && (PV.isRo 113 (PV.child (0 + 1 + 1) (v1.getD v2.toNat PV.top)) && (PV.isAr (Field.mk "Hash" 37 35 false "" "" 88).type (PV.child (0 + 1 + 1 + 1) (v1.getD v2.toNat PV.top)) && (PV.isAr (Field.mk "Mac" 37 67 false "" "" 120).type (PV.child (0 + 1 + 1 + 1 + 1) (v1.getD v2.toNat PV.top)) && true))))))
def JfH (f : Nat) (rc : JAh) (k0 : Bool -> OR) (k1 : OR) (v0 : Bool) (v1 : List PV) (v2 v3 v4 : Int) (v5 : ByteArray) (v6 v7 : Bool) (v8 : List PV) (v9 : Int) (v10 : List PV) : OR := bif decide (v2 < zi v1.length) then bif decide (0 <= v2) && decide (v2 < zi v1.length) && (V4 v1 v2) && true then bif sOk (SV.mk v3 v4 v5 v8 v9 v10) && eD (QQ v1 v2) && (zOk v6 v8 && slB (JW v1 v2).nl (JW v1 v2).els) then bif decide (0 <= v2) && decide (v2 < zi v1.length) && (V4 v1 v2) && true then bif byB (JW v1 v2).els && (JW v1 v2).els.length.ble 1000000000 then Jkf f (fun x0_0 _ _ _ _ _ _ _ _ _ _ _ => k0 x0_0) (fun x0_1 x1_1 x2_1 JcE x4_1 x5_1 x6_1 x7_1 x8_1 x9_1 x10_1 => rc x0_1 x1_1 (IntKind.i64.wrap (x2_1 + 1)) JcE x4_1 x5_1 x6_1 x7_1 x8_1 x9_1 x10_1) f v0 v1 v2 (dsE (DX.mk (SV.mk v3 v4 v5 v8 v9 v10) (QQ v1 v2))) (dE (JW v1 v2).els) v3 v4 v5 v6 v7 v8 v9 v10 v3 v4 (dsD (DX.mk (SV.mk v3 v4 v5 v8 v9 v10) (QQ v1 v2))) (dsZ (DX.mk (SV.mk v3 v4 v5 v8 v9 v10) (QQ v1 v2)) v6) (dsZ (DX.mk (SV.mk v3 v4 v5 v8 v9 v10) (QQ v1 v2)) v6) (dsL (DX.mk (SV.mk v3 v4 v5 v8 v9 v10) (QQ v1 v2))) (dsV (DX.mk (SV.mk v3 v4 v5 v8 v9 v10) (QQ v1 v2))) (dsH (DX.mk (SV.mk v3 v4 v5 v8 v9 v10) (QQ v1 v2))) (dF 0 (JW v1 v2).els) (dF 1 (JW v1 v2).els) (dF 2 (JW v1 v2).els) (dF 3 (JW v1 v2).els) (pu IntKind.u8 (dH (JW v1 v2).els)) (dF 4 (JW v1 v2).els) ((dO (JW v1 v2).els).isEmpty) (dOF (JW v1 v2).els) (dO (JW v1 v2).els) (dF 5 (JW v1 v2).els) (dF 6 (JW v1 v2).els) else none else none else none else none else k1
def Jdb (f : Nat) (k0 : Bool -> OR) (k1 : OR) : Nat -> JAh
 | 0 => fun _ _ _ _ _ _ _ _ _ _ _ => none
 | n + 1 => JfH f (Jdb f k0 k1 n) k0 k1
def JdF (k : Kont) := fun x0 => k Ex.ret (Jj JpU N3 [.sc (.bool x0)] [])
def JdG (k : Kont) := k (Ex.exit 0) (Jj JpU N3 [PV.top] [])
def JuY (f : Nat) (k : Kont) (n : Nat) (v0 : Bool) (v1 : List PV) (v2 v3 v4 : Int) (v5 : ByteArray) (v6 v7 : Bool) (v8 : List PV) (v9 : Int) (v10 : List PV) : OR := Jy tau 0 Jke (fun s k => ev tau F3 0 0 JxY (JR (Jqy f)) s k) n (Jj Jke N3 [.ro 51 v0 false v1, .ptr 1808 [], .sc (.int .i64 v2)] [(1808, .box false 39 (PV.st 39 [.st 34 [.sc (.int .i64 v3), .sc (.int .i64 v4)], .sc (.string v5), .ro 42 v6 v7 v8, .sc (.int .i64 v9), .ar 37 v10]))]) (JI tau 0 JpU k)
theorem JEN (f : Nat) (k : Kont) (n : Nat) : JuY f k (n + 1) = JfH f (JuY f k n) (JdF k) (JdG k) := by kernel_rfl
theorem JuZ (f : Nat) (k : Kont) : ∀ n, JuY f k n = Jdb f (JdF k) (JdG k) n
 | 0 => rfl
 | n + 1 => (JEN f k n).trans (congrArg (fun r => JfH f r (JdF k) (JdG k)) (JuZ f k n))
def JnM (f : Nat) : List PV -> List (Nat × Ent) -> Kont -> OR
 | [.ro 51 v0 false v1, .ptr 1808 [],
 PV.sc
  (Value.int IntKind.i64
   v2)], [(1808,
  Ent.box false 39
   (PV.st 39
    [.st 34 [.sc (.int .i64 v3), .sc (.int .i64 v4)], .sc (.string v5), .ro 42 v6 v7 v8, .sc (.int .i64 v9),
     PV.ar 37 v10]))], k => Jdb f (JdF k) (JdG k) f v0 v1 v2 v3 v4 v5 v6 v7 v8 v9 v10
 | _, _, _ => none
theorem JLe (f : Nat) : Jg JxY (JR (Jqy f)) = [.c JxX JpS N3 (Jqy f)] := by kernel_rfl
theorem JLf (f : Nat) : (Item.l JxY Jke N3 (JnM f)).Ok tau Try.prog 0 := Ju Jn JuV Jo (x := (JR (Jqy f))) (nm2 := JpU) (Jk _ _ (by rw [JLe f]; simp only [List.forall_mem_cons, List.not_mem_nil, false_implies, implies_true, and_true]; exact JLd f)) fun vs hp k res hr => by
 unfold JnM at hr
 split at hr
 · rw [← JuZ f] at hr; exact ⟨f, 0, hr⟩
 · cases hr
def g3 (f : Nat) (l_z l_f : Bool) (l : List PV) (k : KR) : OR := bif !decide (zi l.length <= 25) then k (Res.mk (.sc (.bool true)) [] []) else bif lOk l && kO3 [.ro 5 false false (kb 0 []), .ro 5 false false (kb 1 []), .ro 5 false false (kb 2 [])] then bif Vj (Nw4.mk 0 3 0 1) then Jdb f (fun x0_2 => k (Res.mk (.sc (.bool x0_2)) [] [])) (k (Res.mk (.sc (.bool true)) [] [])) f ((bE (BL.mk [.ro 5 false false (kb 0 []), .ro 5 false false (kb 1 []), .ro 5 false false (kb 2 [])] l)).isEmpty) (bE (BL.mk [.ro 5 false false (kb 0 []), .ro 5 false false (kb 1 []), .ro 5 false false (kb 2 [])] l)) (0) (0) (3) (ByteArray.mk (Array.mk [])) false false ([.st 42 [.sc (.int .i64 0), .sc (.int .i64 1)]]) (0) (pu IntKind.u8 (Jmo (Nw4.mk 0 3 0 1))) else none else none
theorem e3 (f : Nat) (l_z l_f : Bool) (l : List PV) (k : KR) : JK tau F3 Try.f3 (Try.f3.body.get!) (an3 (JnM f)) [.ro] 0 [.ro 69 l_z l_f l] [] k = g3 f l_z l_f l k := by kernel_rfl
theorem it3 (f : Nat) : Jg (Try.f3.body.get!) (an3 (JnM f)) = [.l JxY Jke N3 (JnM f)] := by kernel_rfl
theorem ia3 (f : Nat) : ∀ q ∈ Jg (Try.f3.body.get!) (an3 (JnM f)), q.Ok tau Try.prog 0 := by rw [it3 f]; exact JL (JLf f) (fun _ h => nomatch h)
theorem fo3 : Try.prog.funcs[3]? = some Try.f3 := by kernel_rfl
theorem bo3 : Try.f3.body = some (Try.f3.body.get!) := by kernel_rfl
structure Stp (K : List PV) (q : PV) (x : PV × PV) : Prop where
 ex : ∃ p i, spOk p = true /\ x.1 = ewP (seW ⟨p, K, sv q, i⟩) /\ x.2 = stpN K p i q /\ dsE0 (stpX K p i (sv q)) = 0
def Chn (K : List PV) : PV -> List (PV × PV) -> Prop
 | _, [] => True
 | q, x :: r => Stp K q x /\ Chn K x.2 r
theorem JiN {K : List PV} : ∀ (l : List PV) (i : Int) (q : PV), (∀ p ∈ l, spOk (sp p) = true) -> Chn K q (bld K l i q)
 | [], _, _, _ => trivial
 | p :: ps, i, q, h => by
  have h1 := h p List.mem_cons_self
  have h2 : ∀ r ∈ ps, spOk (sp r) = true := fun r hr => h r (List.mem_cons_of_mem _ hr)
  simp only [bld]
  cases hc : (dsE0 (stpX K (sp p) i (sv q)) == 0) with
  | true => exact ⟨⟨⟨sp p, i, h1, rfl, rfl, by simpa using hc⟩⟩, JiN ps _ _ h2⟩
  | false => exact JiN ps _ _ h2
def sts (q : PV) (r : List (PV × PV)) : List PV := q :: r.map Prod.snd
theorem Ju0 {K : List PV} : ∀ (r : List (PV × PV)) (q : PV), Chn K q r -> ∀ (j : Nat) (hj : j < r.length), Stp K ((sts q r).getD j .top) (r[j]'hj)
 | x :: r, q, h, 0, hj => h.1
 | x :: r, q, h, j + 1, hj => Ju0 r x.2 h.2 j (by simpa using hj)
theorem Stp.ver {K : List PV} {q : PV} {x : PV × PV} (h : Stp K q x) : (sv x.2).ver = (sv q).ver + 1 := by
 obtain ⟨p, i, h1, h2, h3, h4⟩ := h.ex
 rw [h3]
 show dsV (stpX K p i (sv q)) = _
 rw [Vv, h4]; rfl
theorem JpV {K : List PV} : ∀ (r : List (PV × PV)) (q : PV), Chn K q r -> ∀ (j : Nat), j <= r.length -> (sv ((sts q r).getD j .top)).ver = (sv q).ver + j
 | r, q, h, 0, hj => by simp [sts]
 | x :: r, q, h, j + 1, hj => by
  have := JpV r x.2 h.2 j (by simpa using hj)
  have e : (sts q (x :: r)).getD (j + 1) .top = (sts x.2 r).getD j .top := rfl
  rw [e, this, h.1.ver]; omega
structure BldOk (K l : List PV) (n : Nat) : Prop where
 eE : bE ⟨K, l⟩ = (bld K l 0 q0).map Prod.fst
 eS : bS ⟨K, l⟩ = sts q0 (bld K l 0 q0)
 chn : Chn K q0 (bld K l 0 q0)
 len : (bld K l 0 q0).length = n
 le : n <= 25
 ok : ∀ j, j <= n -> BOk 25 ((bS ⟨K, l⟩).getD j .top)
 vr : ∀ j, j <= n -> (sv ((bS ⟨K, l⟩).getD j .top)).ver = j
theorem JxZ {K l : List PV} (h : lOk l = true) : BldOk K l (bld K l 0 q0).length := by
 obtain ⟨h1, h2, h3⟩ := Jdx.1 h
 have hlen := G8 (K := K) l 0 q0
 have hS : bS ⟨K, l⟩ = sts q0 (bld K l 0 q0) := JzQ _
 have hm : ∀ q ∈ sts q0 (bld K l 0 q0), BOk 25 q := fun q hq => by
   rcases List.mem_cons.1 hq with rfl | hq
   · exact Jud.up (by decide)
   · obtain ⟨x, hx, rfl⟩ := List.mem_map.1 hq
     exact (Jnp l 0 q0 h2 (Int.le_refl _) (by omega) Jud x hx).up (by omega)
 have hc := JiN (K := K) l 0 q0 h2
 have hsl : (sts q0 (bld K l 0 q0)).length = (bld K l 0 q0).length + 1 := by simp [sts]
 refine ⟨JzR _, hS, hc, rfl, by omega, fun j hj => ?_, fun j hj => ?_⟩
 · rw [hS, List.getD_eq_getElem?_getD, List.getElem?_eq_getElem (by omega)]
   exact hm _ (List.getElem_mem _)
 · rw [hS, JpV _ _ hc j hj]
   show (0 : Int) + j = j; omega
theorem BldOk.lenE {K l : List PV} {n : Nat} (h : BldOk K l n) : (bE ⟨K, l⟩).length = n := by rw [h.eE, List.length_map, h.len]
theorem BldOk.step {K l : List PV} {n : Nat} (h : BldOk K l n) {j : Nat} (hj : j < n) : Stp K ((bS ⟨K, l⟩).getD j .top) ((bE ⟨K, l⟩).getD j .top, (bS ⟨K, l⟩).getD (j + 1) .top) := by
 have hj' : j < (bld K l 0 q0).length := by rw [h.len]; exact hj
 have := Ju0 _ _ h.chn j hj'
 rw [← h.eS] at this
 have e1 : (bE ⟨K, l⟩).getD j .top = ((bld K l 0 q0)[j]'hj').1 := by
  rw [h.eE, List.getD_eq_getElem?_getD, List.getElem?_map, List.getElem?_eq_getElem hj']; rfl
 have e2 : (bS ⟨K, l⟩).getD (j + 1) .top = ((bld K l 0 q0)[j]'hj').2 := by
  rw [h.eS]
  show (List.map Prod.snd (bld K l 0 q0)).getD j .top = _
  rw [List.getD_eq_getElem?_getD, List.getElem?_map, List.getElem?_eq_getElem hj']; rfl
 rw [e1, e2]; exact this
theorem Stp.all {K : List PV} {q e q' : PV} (h : Stp K q (e, q')) (hq : BOk 25 q) : ∃ s z f w, q = stP s z f /\ e = ewP w /\ eD w = true /\ dsE0 ⟨s, w⟩ = 0 /\ q' = stP (dsS ⟨s, w⟩) (dsZ ⟨s, w⟩ z) (dsF ⟨s, w⟩ f) /\ w.at1 = s.ver /\ dE w.b = 0 /\ w.h = pu .u8 (nxP ⟨s.hash, Zy w⟩) := by
 obtain ⟨p, i, h1, h2, h3, h4⟩ := h.ex
 obtain ⟨s, z, f, rfl⟩ := Jcx.1 hq.st
 have hD := Jnk (x := ⟨p, K, s, i⟩) hq.ok h1 hq.by1
 refine ⟨s, z, f, seW ⟨p, K, s, i⟩, rfl, h2, hD, h4, h3, rfl, ?_, rfl⟩
 have h4 : dsE0 ⟨s, seW ⟨p, K, s, i⟩⟩ = 0 := h4
 unfold dsE0 at h4
 cases hc : (dE (seW ⟨p, K, s, i⟩).b != 0) with
 | false => simpa [bne] using hc
 | true => simp only [hc, cond_true] at h4; exact h4

structure UX where
 (K : List PV) (s : SV) (a w : AV) (kd : Int)
theorem JEO : kO3 [.ro 5 false false (kb 0 []), .ro 5 false false (kb 1 []), .ro 5 false false (kb 2 [])] = true := by
 have hkk : ∀ i, kOk (kb i []) = true := fun i => JJG i rfl
 exact Jo9.2 ⟨hkk 0, hkk 1, hkk 2⟩
structure WOk (n : Int) (s : SV) (z : Bool) : Prop where
 ok : sOk s = true
 by1 : byB s.hash = true
 ih : kIn s.ih = true
 zo : z = true -> s.l = []
 ver : s.ver <= n
theorem WOk.zOk {n : Int} {s : SV} {z : Bool} (h : WOk n s z) : zOk z s.l = true := JdB.2 h.zo
theorem JpW {x : DX} {z : Bool} (hz : z = true -> x.s.l = []) : dsZ x z = true -> dsL x = [] := by
 rw [Jfl, Jcq]
 cases dsE0 x == 0 with
 | true => exact JnK hz
 | false => exact hz
theorem WOk.next {n : Int} {s : SV} {z : Bool} {w : EW} (h : WOk n s z) (he : eD w = true) (hb : dsE0 ⟨s, w⟩ = 0 -> byB w.h = true) (hn : n < 1000000) : WOk (n + 1) (dsS ⟨s, w⟩) (dsZ ⟨s, w⟩ z) where
 ok := Jpp (x := ⟨s, w⟩) h.ok he (by have := h.ver; show s.ver < 1000000; omega)
 by1 := by
  show byB (dsH ⟨s, w⟩) = true
  rw [G3]
  cases hc : dsE0 ⟨s, w⟩ == 0 with
  | true => exact hb (by simpa using hc)
  | false => exact h.by1
 ih := h.ih
 zo := JpW h.zo
 ver := by
  show dsV ⟨s, w⟩ <= n + 1
  have := h.ver
  rw [Vv]
  cases dsE0 ⟨s, w⟩ == 0 with
  | true => show s.ver + 1 <= n + 1; omega
  | false => show s.ver <= n + 1; omega
theorem JLg {s : SV} {w : EW} (hw : Jl .u8 w.h = true) (h : dsE0 ⟨s, w⟩ = 0) : byB w.h = true := by
 unfold dsE0 at h
 simp only at h
 cases h1 : (dE w.b != 0) with
 | true => rw [h1] at h; have h : dE w.b = 0 := h; rw [h] at h1; exact absurd h1 (by decide)
 | false =>
 rw [h1, cond_false] at h
 cases h2 : (w.at1 != s.ver) with
 | true => rw [h2, cond_true] at h; exact absurd h (by decide)
 | false =>
 rw [h2, cond_false] at h
 cases h3 : decide (dF 3 w.b > s.ver) with
 | true => rw [h3, cond_true] at h; exact absurd h (by decide)
 | false =>
 rw [h3, cond_false] at h
 cases h4 : (!hasP ⟨s.l, auA w.b⟩) with
 | true => rw [h4, cond_true] at h; exact absurd h (by decide)
 | false =>
 rw [h4, cond_false] at h
 cases h5 : (chE ⟨s, w⟩ != 0) with
 | true => rw [h5] at h; have h : chE ⟨s, w⟩ = 0 := h; rw [h] at h5; exact absurd h5 (by decide)
 | false =>
 rw [h5, cond_false] at h
 cases h6 : (!Qf w.h (pu .u8 (nxP ⟨s.hash, Zy w⟩))) with
 | true => rw [h6] at h; exact absurd h (by decide)
 | false =>
  have h6 : Qf w.h (pu .u8 (nxP ⟨s.hash, Zy w⟩)) = true := by simpa using h6
  rw [QC hw, Jca] at h6
  have e : JD w.h = nxP ⟨s.hash, Zy w⟩ := by simpa using h6
  rw [QC hw, e]; exact Juc _
theorem WOk.next' {n : Int} {s : SV} {z : Bool} {w : EW} (h : WOk n s z) (he : eD w = true) (hn : n < 1000000) : WOk (n + 1) (dsS ⟨s, w⟩) (dsZ ⟨s, w⟩ z) :=
 h.next he (JLg (h32_iff.1 (G4.1 he).2.2.2).1) hn
theorem WOk.up {n m : Int} {s : SV} {z : Bool} (h : WOk n s z) (hm : n <= m) : WOk m s z := { h with ver := by have := h.ver; omega }
theorem JEP {w : EW} (h : eD w = true) : slB false w.b = true := by
 obtain ⟨h1, h2, h3, h4⟩ := G4.1 h
 have : w.b.length <= 65535 := (WH.1 h2).2.1
 exact Xy.2 ⟨fun h => (by cases h), by omega⟩
theorem WOk.w {n : Int} {s : SV} {z : Bool} (h : WOk n s z) : wOk s = true := by
 obtain ⟨s1, s2, _⟩ := Xf.1 h.ok
 obtain ⟨p1, p2, p3⟩ := QD.1 s1
 exact Jxi.2 ⟨Ja1.2 ⟨p1, by omega⟩, s2⟩
def zOf (q : PV) : Bool := (q.child 2).nl
theorem JAi {K : List PV} : ∀ (r : List (PV × PV)) (q : PV), Chn K q r -> (zOf q = true -> (sv q).l = []) -> ∀ (j : Nat), j <= r.length -> zOf ((sts q r).getD j .top) = true -> (sv ((sts q r).getD j .top)).l = []
 | r, q, h, hz, 0, hj => hz
 | x :: r, q, h, hz, j + 1, hj => by
  have e : (sts q (x :: r)).getD (j + 1) .top = (sts x.2 r).getD j .top := rfl
  rw [e]
  refine JAi r x.2 h.2 ?_ j (by simpa using hj)
  obtain ⟨p, i, h1, h2, h3, h4⟩ := h.1.ex
  rw [h3]
  exact JpW (x := stpX K p i (sv q)) hz
theorem BldOk.z {K l : List PV} {n : Nat} (h : BldOk K l n) {j : Nat} (hj : j <= n) : zOf ((bS ⟨K, l⟩).getD j .top) = true -> (sv ((bS ⟨K, l⟩).getD j .top)).l = [] := by
 rw [h.eS]
 exact JAi _ _ h.chn (fun h => by cases h) j (by rw [h.len]; exact hj)
theorem BldOk.at {K l : List PV} {n : Nat} (h : BldOk K l n) {j : Nat} (hj : j <= n) : ∃ s z f, (bS ⟨K, l⟩).getD j .top = stP s z f /\ WOk 25 s z /\ s.ver = j /\ s.ih = 0 /\ s.iN = 3 := by
 have hb := h.ok j hj
 have hv := h.vr j hj
 have hz := h.z hj
 obtain ⟨s, z, f, hs⟩ := Jcx.1 hb.st
 rw [hs] at hb hv hz
 exact ⟨s, z, f, hs, ⟨hb.ok, hb.by1, by rw [show s.ih = 0 from hb.ih, Jfa]; rfl, hz, hb.ver⟩, hv, hb.ih, hb.iN⟩
theorem JpX {s t : SV} {z f z' f' : Bool} (h : stP s z f = stP t z' f') : s = t /\ z = z' := by
 have h1 := congrArg sv h
 have h2 := congrArg zOf h
 exact ⟨by rwa [Jno, Jno] at h1, h2⟩
theorem Jqz {x : DX} (h : dsE0 x = 0) : dsD x = chD x /\ dsL x = chL x /\ dsV x = x.s.ver + 1 /\ dsH x = x.e.h := by
 rw [Jfk, Jcq, Vv, G3, h]; exact ⟨rfl, rfl, rfl, rfl⟩
theorem JpY {n : Nat} {p : PV} (h : Ty tau (n + 3) 69 p) : Jj4 p = true /\ spOk (sp p) = true := by
 obtain ⟨fs, rfl, hf⟩ := Jqr (n := n + 2) (T := 69) (tys := [3, 3, 3, 57]) (by kernel_rfl) (List.cons_ne_nil _ _) h
 obtain ⟨p1, r1, rfl, h1, hf⟩ := JtU hf
 obtain ⟨p2, p3, p4, rfl, h2, h3, h4⟩ := JNH hf
 obtain ⟨a, rfl, _⟩ := Jnb h1
 obtain ⟨b, rfl, _⟩ := Jnb h2
 obtain ⟨c, rfl, _⟩ := Jnb h3
 obtain ⟨z, ns, rfl, _, h5, h6⟩ := Jxf h4
 have e1 : maxLen <= 9223372036854775807 := by decide
 exact ⟨rfl, Jfq.2 ⟨h6, by show ns.length <= _; omega⟩⟩
theorem Ju1 {n : Nat} {p : PV} (h : Ty tau (n + 4) 22 p) : ∃ z l, p = .ro 69 z false l /\ l.all Jj4 = true /\ (∀ q ∈ l, spOk (sp q) = true) := by
 have u : tau.und 22 = some (.slice 69) := by kernel_rfl
 obtain ⟨z, b, rfl, h1, h2, h3⟩ := Jjn u h
 exact ⟨z, b, rfl, List.all_eq_true.2 fun q hq => (JpY (h3 q hq)).1, fun q hq => (JpY (h3 q hq)).2⟩
theorem h4_ints (a b c d : Int) : JD (apI (apI (apI (apI [] a) b) c) d) = JhZ ⟨a, b, c, d⟩ := by
 simp only [Yx, JhZ, Jc6, We]
 rfl
theorem Jx0 : Jmo ⟨0, 3, 0, 1⟩ = JZ (JD (List.take h0L.length h0L)) := by
 rw [JoJ, List.take_length, ← h4_ints]; rfl
theorem JLh {l : List PV} {m : Nat} (B : BldOk [.ro 5 false false (kb 0 []), .ro 5 false false (kb 1 []), .ro 5 false false (kb 2 [])] l m) (F : Nat) (k0 : Bool -> OR) (k1 : OR) (ez : Bool) : ∀ (d i n : Nat) (s : SV) (z f : Bool), i + d = m -> d < n -> (bS ⟨[.ro 5 false false (kb 0 []), .ro 5 false false (kb 1 []), .ro 5 false false (kb 2 [])], l⟩).getD i .top = stP s z f ->
  Jdb (F + 1) k0 k1 n ez (bE ⟨[.ro 5 false false (kb 0 []), .ro 5 false false (kb 1 []), .ro 5 false false (kb 2 [])], l⟩) (i : Int) s.ih s.iN s.doc z z s.l s.ver s.hash = k1
 | 0, i, n + 1, s, z, f, hi, hn, hs => by
   simp only [Jdb, JfH, V4, QQ, JW]
   exact Jd (by have := B.lenE; simp [zi]; omega)
 | d + 1, i, n + 1, s, z, f, hi, hn, hs => by
   have hle := B.le
   have IH := JLh B F k0 k1 ez d (i + 1) n
   have g1 := tI i
   have w1 := wI (i := i) (by omega)
   obtain ⟨si, zi1, fi, w, a1, a2, a3, a4, a5, a6, a7, a8⟩ := (B.step (j := i) (by omega)).all (B.ok i (by omega))
   obtain ⟨s', z', fl, b1, b2, b3, b4, b5⟩ := B.at (j := i) (by omega)
   obtain ⟨rfl, rfl⟩ := JpX (hs.symm.trans a1)
   obtain ⟨rfl, rfl⟩ := JpX (hs.symm.trans b1)
   have hE := B.lenE
   have hw := b2.next' a3 (by decide)
   obtain ⟨o1, o2, o3, o4, o5, o6⟩ := Xf.1 hw.ok
   obtain ⟨p1, p2, p3⟩ := QD.1 o1
   obtain ⟨q1, q2, q3, q4⟩ := Jqz a4
   obtain ⟨t1, t2, t3, t4⟩ := G4.1 a3
   have hbl : w.b.length <= 65535 := (WH.1 t2).2.1
   have eS : SV.mk s.ih s.iN s.doc s.l s.ver s.hash = s := rfl
   have eW : EW.mk (PV.child 0 (PV.child 0 (ewP w))).els (PV.child (0 + 1) (PV.child 0 (ewP w))).els (PV.child (0 + 1) (ewP w)).int (PV.child (0 + 1 + 1) (ewP w)).els (PV.child (0 + 1 + 1 + 1) (ewP w)).els (PV.child (0 + 1 + 1 + 1 + 1) (ewP w)).els = w := rfl
   have eV : EV.mk (PV.child 0 (PV.child 0 (ewP w))).els (PV.child (0 + 1) (PV.child 0 (ewP w))).els (PV.child (0 + 1) (ewP w)).int (PV.child (0 + 1 + 1) (ewP w)).els = Zy w := rfl
   have c3 : (PV.child 0 (PV.child 0 (ewP w))).nl = false := rfl
   have c4 : (PV.child 0 (PV.child 0 (ewP w))).els = w.b := rfl
   simp only [Jdb, JfH, V4, QQ, JW, Jkf, JiM, YX, g1, a2, eW, eV, eS]
   simp only [c3, c4, Jcp, a4, a7, w1]
   have hr : (decide (0 <= (i : Int)) && decide ((i : Int) < zi (bE ⟨[.ro 5 false false (kb 0 []), .ro 5 false false (kb 1 []), .ro 5 false false (kb 2 [])], l⟩).length) && true && true) = true := by simp [zi]; omega
   refine (Ja (by simp [zi]; omega)).trans ((Ja ?_).trans ((Ja ?_).trans ((Ja ?_).trans ((Ja ?_).trans ((Jd rfl).trans ((Jd rfl).trans ((Jd ?_).trans ((Ja ?_).trans ((Ja ?_).trans ((Ja ?_).trans ((Jd ?_).trans ((Jd ?_).trans ((Jd ?_).trans ?_)))))))))))))
   · exact hr
   · rw [b2.ok, a3, b2.zOk, JEP a3]; rfl
   · exact hr
   · rw [t1, Bool.true_and, Nat.ble_eq]; omega
   · rw [q3, show (SV.ver s) = (i : Int) from b3]; simp
   · exact hr
   · rw [(Xf.1 b2.ok).2.1, t2]; rfl
   · rw [q4, (h32_iff.1 t4).1, (h32_iff.1 t4).2, JO, JG, X7]; rfl
   · rw [q4]
     show (!Qf w.h _) = false
     rw [a8, Jj2 (JO _ _)]; rfl
   · exact decide_eq_false (by show ¬ (((dsD ⟨s, w⟩).size : Int) > 120); have : (dsD ⟨s, w⟩).size <= 120 := o5; omega)
   · exact decide_eq_false (by show ¬ (((dsL ⟨s, w⟩).length : Int) > 8); have : (dsL ⟨s, w⟩).length <= 8 := p3; omega)
   have fin : Jdb (F + 1) k0 k1 n ez (bE ⟨[.ro 5 false false (kb 0 []), .ro 5 false false (kb 1 []), .ro 5 false false (kb 2 [])], l⟩) ((i + 1 : Nat) : Int) s.ih s.iN (dsD ⟨s, w⟩) (dsZ ⟨s, w⟩ z) (dsZ ⟨s, w⟩ z) (dsL ⟨s, w⟩) (dsV ⟨s, w⟩) (dsH ⟨s, w⟩) = k1 := IH (dsS ⟨s, w⟩) (dsZ ⟨s, w⟩ z) (dsF ⟨s, w⟩ fi) (by omega) (by omega) a5
   cases h5 : (dF 4 w.b == 1) with
   | true =>
     have e : dsL ⟨s, w⟩ = s.l := by rw [q2]; unfold chL; exact Ja h5
     have h6 : (dF 4 w.b != 1) = false := by simp only [bne, h5]; rfl
     rw [h6]
     refine (Ja rfl).trans ((Jd ?_).trans ((Jd rfl).trans fin))
     rw [e]; exact bne_self_eq_false _
   | false =>
     have e : dsD ⟨s, w⟩ = s.doc := by rw [q1]; unfold chD; exact Jd h5
     have h6 : (dF 4 w.b != 1) = true := by simp only [bne, h5]; rfl
     rw [h6]
     refine (Jd rfl).trans ((Ja rfl).trans ((Jd ?_).trans fin))
     rw [e, Jqs]; rfl
theorem Jx1 (z f : Bool) (l : List PV) (h1 : l.all Jj4 = true) (h2 : ∀ p ∈ l, spOk (sp p) = true) (k : KR) : g3 50 z f l k = k ⟨.sc (.bool true), [], []⟩ := by
 unfold g3
 by_cases hl : ¬ l.length <= 25
 · exact Ja (by simp [zi]; omega)
 have hl := Decidable.not_not.1 hl
 have hlo : lOk l = true := Jdx.2 ⟨h1, h2, hl⟩
 have B := JxZ (K := [.ro 5 false false (kb 0 []), .ro 5 false false (kb 1 []), .ro 5 false false (kb 2 [])]) hlo
 generalize (bld [.ro 5 false false (kb 0 []), .ro 5 false false (kb 1 []), .ro 5 false false (kb 2 [])] l 0 q0).length = m at B
 have hs4 : Vj ⟨0, 3, 0, 1⟩ = true := by rw [Vj, hid_eq]; rfl
 refine (Jd (by simp [zi]; omega)).trans ((Ja (by rw [hlo, JEO]; rfl)).trans ((Ja hs4).trans ?_))
 have hle := B.le
 have h0 : (bS ⟨[.ro 5 false false (kb 0 []), .ro 5 false false (kb 1 []), .ro 5 false false (kb 2 [])], l⟩).getD 0 .top = stP ⟨0, 3, ByteArray.mk (Array.mk []), [adP ⟨0, 1⟩], 0, pu .u8 (Jmo ⟨0, 3, 0, 1⟩)⟩ false false := by
   rw [B.eS, Jx0]; rfl
 exact JLh B 49 _ _ _ m 0 50 _ false false (by omega) (by omega) h0
def Ju2 : JA
 | [.ro 69 z f l], [], k => bif l.all Jj4 && l.all (fun p => spOk (sp p)) then k ⟨.sc (.bool true), [], []⟩ else none
 | _, _, _ => none
def s3' : Sig := { own := [], run := Ju2 }
theorem JOE : Jc tau Try.prog 3 s3' := Jc.mk' fun xs es k res hl hr => by
 change Ju2 xs es k = some res at hr
 unfold Ju2 at hr
 split at hr
 · rename_i z f l
   obtain ⟨hc, hr⟩ := Jw hr
   rw [Bool.and_eq_true] at hc
   exact J6 Jn JuV Jo fo3 bo3 (an3 (JnM 50)) [.ro] 0 0 (ia3 50) hl rfl ((e3 50 z f l k).trans ((Jx1 z f l hc.1 (List.all_eq_true.1 hc.2) k).trans hr))
 · cases hr
theorem JqA : ∀ pvs, TyL tau 6 [22] pvs -> s3'.run pvs [] some = some ⟨.sc (.bool true), [], []⟩ := by
 intro pvs h
 obtain ⟨p1, rfl, h1⟩ := JNG h
 obtain ⟨z, l, rfl, a1, a2⟩ := Ju1 (n := 2) h1
 exact Ja (by rw [a1, List.all_eq_true.2 a2]; rfl)
end
end Go.Proofs.Ythpmachmnoljeaa.Rx
