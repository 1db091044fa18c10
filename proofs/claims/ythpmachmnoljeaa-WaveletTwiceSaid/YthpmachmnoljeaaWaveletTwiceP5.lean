/- What the functions of this law compute, and their plain laws. Conditions: none. -/
import Derived.Test.YthpmachmnoljeaaWaveletTwiceP4
namespace Go.Proofs.Ythpmachmnoljeaa.Rx
noncomputable section
open Go
set_option linter.unusedVariables false
set_option linter.unusedSimpArgs false
set_option maxRecDepth 100000
set_option maxHeartbeats 0
def JuI : Nat := 53
def JEG : Fns := F0
theorem JpP : Jq tau Try.prog JEG := Js
def JfA : Code := Qf (Try.f127.body.get!) [1, 0]
def JbT : Nm := [(0, .any), (3, .any), (6, .any)]
def JiJ : Nm := [(4, .any), (5, .any)]
def JiK : An := (.seq .leaf (.seq .leaf (.seq (.block none (.seq .leaf (.cond (.seq .leaf .leaf) (.seq .leaf (.cond (.seq .leaf .leaf) .leaf))))) (.seq .leaf .leaf))))
def JpQ (r0 : Jrl) : An := (.seq .leaf (.ssum JbT JuI (JiK) r0))
abbrev JpR := Bool -> Bool -> List PV -> Int -> Int -> Int -> OR
abbrev QF (v2 : List PV) (v3 : Int) := (PV.isSt 42 #[Field.mk "D" 3 0 false "" "" 0, Field.mk "U" 3 1 false "" "" 8].size (v2.getD v3.toNat PV.top) && (PV.isInt IntKind.i64 (PV.child 0 (v2.getD v3.toNat PV.top)) && (PV.isInt IntKind.i64 (PV.child (0 + 1) (v2.getD v3.toNat PV.top)) && true)))
def WL (f : Nat) (rc : JpR) (k0 : Int -> Bool -> OR) (v0 v1 : Bool) (v2 : List PV) (v3 v4 v5 : Int) : OR := bif v3 == zi v2.length then k0 v3 false else bif decide (0 <= v3) && decide (v3 < zi v2.length) && (QF v2 v3) && true then bif decide ((PV.child 0 (v2.getD v3.toNat PV.top)).int > v4) then k0 v3 false else bif decide (0 <= v3) && decide (v3 < zi v2.length) && (QF v2 v3) && true then bif (PV.child 0 (v2.getD v3.toNat PV.top)).int == v4 then bif decide (0 <= v3) && decide (v3 < zi v2.length) && (QF v2 v3) && true then bif decide ((PV.child (0 + 1) (v2.getD v3.toNat PV.top)).int > v5) then k0 v3 false else bif decide (0 <= v3) && decide (v3 < zi v2.length) && (QF v2 v3) && true then bif (PV.child 0 (v2.getD v3.toNat PV.top)).int == v4 && ((PV.child (0 + 1) (v2.getD v3.toNat PV.top)).int == v5 && true) then k0 v3 true else rc v0 v1 v2 (IntKind.i64.wrap (v3 + 1)) v4 v5 else none else none else bif decide (0 <= v3) && decide (v3 < zi v2.length) && (QF v2 v3) && true then bif (PV.child 0 (v2.getD v3.toNat PV.top)).int == v4 && ((PV.child (0 + 1) (v2.getD v3.toNat PV.top)).int == v5 && true) then k0 v3 true else rc v0 v1 v2 (IntKind.i64.wrap (v3 + 1)) v4 v5 else none else none else none
def Xi (f : Nat) (k0 : Int -> Bool -> OR) : Nat -> JpR
 | 0 => fun _ _ _ _ _ _ => none
 | n + 1 => WL f (Xi f k0 n) k0
def V3 (k : Kont) := fun x0 x1 => k Ex.ret (Jj JiJ JuI [.sc (.int .i64 x0), .sc (.bool x1)] [])
def JiL (f : Nat) (k : Kont) (n : Nat) (v0 v1 : Bool) (v2 : List PV) (v3 v4 v5 : Int) : OR := Q2 tau 0 JbT (hasLabel JfA) (fun l s k => Qi tau JEG 0 0 JfA (JiK ) l s k) n 0 (Jj JbT JuI [.ro 42 v0 v1 v2, .ptr 864 [], .sc (.int .i64 v3)] [(864, .box false 42 (PV.st 42 [.sc (.int .i64 v4), .sc (.int .i64 v5)]))]) (JG tau 0 JiJ k)
theorem JuJ (f : Nat) (k : Kont) (n : Nat) : JiL f k (n + 1) = WL f (JiL f k n) (V3 k) := by kernel_rfl
theorem Jko (f : Nat) (k : Kont) : ∀ n, JiL f k n = Xi f (V3 k) n
 | 0 => rfl
 | n + 1 => (JuJ f k n).trans (congrArg (fun r => WL f r (V3 k)) (Jko f k n))
def Jac (f : Nat) : Nat -> List PV -> List (Nat × Ent) -> Kont -> OR
 | 0, [.ro 42 v0 v1 v2, .ptr 864 [],
 PV.sc
  (Value.int IntKind.i64
   v3)], [(864,
  Ent.box false 42
   (PV.st 42
    [.sc (.int .i64 v4),
     .sc (.int .i64 v5)]))], k => Xi f (V3 k) f v0 v1 v2 v3 v4 v5
 | _, _, _, _ => none
theorem Jx2 (f : Nat) : Jg JfA JiK = [] := by kernel_rfl
theorem Jx3 (f : Nat) : (Item.s JfA JbT JuI (Jac f)).Ok tau Try.prog 0 := XV Jn JpP Jo (x := JiK) (nm2 := JiJ) (Jk _ _ (by rw [Jx2 f]; intro q hq; cases hq)) fun l vs hp k res hr => by
 unfold Jac at hr
 split at hr
 · rw [← Jko f] at hr; exact ⟨f, 0, hr⟩
 · cases hr
abbrev V4 (l : List PV) := (PV.isSt 42 #[Field.mk "D" 3 0 false "" "" 0, Field.mk "U" 3 1 false "" "" 8].size (l.getD (Int.toNat 0) PV.top) && (PV.isInt IntKind.i64 (PV.child 0 (l.getD 0 PV.top)) && (PV.isInt IntKind.i64 (PV.child (0 + 1) (l.getD 0 PV.top)) && true)))
abbrev JdF := (Res.mk (PV.tup [PV.sc (.int .i64 0), PV.sc (.bool false)]) [] [])
def Jx4 (f : Nat) (l_z l_f : Bool) (l : List PV) (a_D a_U : Int) (k : KR) : OR := bif 0 == zi l.length then k JdF else bif decide (0 < zi l.length) && (V4 l) && true then bif decide ((PV.child 0 (l.getD 0 PV.top)).int > a_D) then k JdF else bif decide (0 < zi l.length) && (V4 l) && true then bif (PV.child 0 (l.getD 0 PV.top)).int == a_D then bif decide (0 < zi l.length) && (V4 l) && true then bif decide ((PV.child (0 + 1) (l.getD 0 PV.top)).int > a_U) then k JdF else bif decide (0 < zi l.length) && (V4 l) && true then bif (PV.child 0 (l.getD 0 PV.top)).int == a_D && ((PV.child (0 + 1) (l.getD 0 PV.top)).int == a_U && true) then k (Res.mk (.tup [.sc (.int .i64 0), .sc (.bool true)]) [] []) else Xi f (fun x0_0 x1_0 => k (Res.mk (.tup [.sc (.int .i64 x0_0), .sc (.bool x1_0)]) [] [])) f l_z l_f l (IntKind.i64.wrap (0 + 1)) a_D a_U else none else none else bif decide (0 < zi l.length) && (V4 l) && true then bif (PV.child 0 (l.getD 0 PV.top)).int == a_D && ((PV.child (0 + 1) (l.getD 0 PV.top)).int == a_U && true) then k (Res.mk (.tup [.sc (.int .i64 0), .sc (.bool true)]) [] []) else Xi f (fun x0_1 x1_1 => k (Res.mk (.tup [.sc (.int .i64 x0_1), .sc (.bool x1_1)]) [] [])) f l_z l_f l (IntKind.i64.wrap (0 + 1)) a_D a_U else none else none else none
theorem JOX (f : Nat) (l_z l_f : Bool) (l : List PV) (a_D a_U : Int) (k : KR) : JJ tau JEG Try.f127 (Try.f127.body.get!) (JpQ (Jac f)) [.ro, .ro] 0 [.ro 42 l_z l_f l, .st 42 [.sc (.int .i64 a_D), .sc (.int .i64 a_U)]] [] k = Jx4 f l_z l_f l a_D a_U k := by kernel_rfl
theorem JKV (f : Nat) : Jg (Try.f127.body.get!) (JpQ (Jac f)) = [.s JfA JbT JuI (Jac f)] := by kernel_rfl
theorem JKW (f : Nat) : ∀ q ∈ Jg (Try.f127.body.get!) (JpQ (Jac f)), q.Ok tau Try.prog 0 := by rw [JKV f]; exact JL (Jx3 f) (fun _ h => nomatch h)
theorem JAt : Try.prog.funcs[127]? = some Try.f127 := by kernel_rfl
theorem JAu : Try.f127.body = some (Try.f127.body.get!) := by kernel_rfl
theorem JAv : Enters Try.prog 127 := enters_of JAt (by kernel_rfl) JAu
def Jad (l : List PV) (a : AV) : Bool := Nat.blt (Q8 l a) l.length && eqA (av (l.getD (Q8 l a) .top)) a
theorem JdG {a : AV} : ltA a a = false := by
 cases h : ltA a a with
 | false => rfl
 | true => rw [Yr] at h; omega
theorem hasL_above {a : AV} : ∀ {l : List PV}, (∀ q ∈ l, ltA a (av q) = true) -> hasL l a = false
 | [], _ => rfl
 | p :: l, h => by
  have h1 : eqA (av p) a = false := by
   cases he : eqA (av p) a with
   | false => rfl
   | true => have := h p List.mem_cons_self; rw [QH.1 he, JdG] at this; cases this
  have h2 := hasL_above fun q hq => h q (List.mem_cons_of_mem _ hq)
  show (eqA (av p) a || hasL l a) = false
  rw [h1, h2]; rfl
theorem JgQ {a : AV} : ∀ {l : List PV}, hasL l a = false -> rmA l a = l
 | [], _ => rfl
 | p :: l, h => by
  have h : (eqA (av p) a || hasL l a) = false := h
  rw [Bool.or_eq_false_iff] at h
  unfold rmA
  rw [List.filter_cons, h.1]
  exact congrArg (p :: ·) (JgQ h.2)
theorem YZ {a : AV} : ∀ {l : List PV}, srt l = true -> Jad l a = hasL l a
 | [], _ => rfl
 | p :: l, h => by
  obtain ⟨h1, h2⟩ := X9.1 h
  show Jad (p :: l) a = (eqA (av p) a || hasL l a)
  unfold Jad
  simp only [Q8]
  cases hc : ltA (av p) a with
  | true =>
   have he : eqA (av p) a = false := by
    cases he : eqA (av p) a with
    | false => rfl
    | true => rw [QH.1 he, JdG] at hc; cases hc
   have ih := YZ (a := a) h2
   unfold Jad at ih
   rw [cond_true, he, Bool.false_or, ← ih, List.getD_cons_succ]
   rfl
  | false =>
   rw [cond_false]
   have hd : Nat.blt 0 (p :: l).length = true := rfl
   rw [hd, Bool.true_and, List.getD_cons_zero]
   cases he : eqA (av p) a with
   | true => rfl
   | false =>
    have hl := Jud hc he
    rw [hasL_above fun q hq => JgN hl (h1 q hq)]; rfl
theorem JpS {a : AV} : ∀ {l : List PV}, srt l = true -> Jad l a = true -> l.take (Q8 l a) ++ l.drop (Q8 l a + 1) = rmA l a
 | [], _, h => by cases h
 | p :: l, h, hf => by
  obtain ⟨h1, h2⟩ := X9.1 h
  have hf2 := hf
  unfold Jad at hf
  simp only [Q8] at hf ⊢
  cases hc : ltA (av p) a with
  | true =>
   have he : eqA (av p) a = false := by
    cases he : eqA (av p) a with
    | false => rfl
    | true => rw [QH.1 he, JdG] at hc; cases hc
   have hf' : Jad l a = true := by
    rw [YZ h] at hf2
    rw [YZ h2]
    have : (eqA (av p) a || hasL l a) = true := hf2
    rwa [he, Bool.false_or] at this
   have ih := JpS h2 hf'
   unfold rmA at ih ⊢
   rw [cond_true, List.take_succ_cons, List.drop_succ_cons, List.filter_cons, he, List.cons_append, ih]; rfl
  | false =>
   rw [hc, cond_false, Bool.and_eq_true] at hf
   have he : eqA (av p) a = true := hf.2
   rw [cond_false, List.take_zero, List.nil_append, List.drop_succ_cons, List.drop_zero]
   have ha := QH.1 he
   have := JgQ (a := a) (hasL_above (l := l) fun q hq => by have := h1 q hq; rwa [ha] at this)
   unfold rmA at this ⊢
   rw [List.filter_cons, he]
   exact this.symm
theorem JuK (a b : AV) : eqA a b = eqA b a := by
 cases h : eqA b a with
 | true => exact QH.2 (QH.1 h).symm
 | false =>
  cases h2 : eqA a b with
  | false => rfl
  | true => rw [QH.2 (QH.1 h2).symm] at h; cases h
theorem JqM (p : PV) (l : List PV) (a : AV) : Jad (p :: l) a = bif ltA (av p) a then Jad l a else eqA (av p) a := by
 unfold Jad
 simp only [Q8]
 cases ltA (av p) a with
 | true => rfl
 | false => rfl
def Gd : PH -> Int := hid fun x => (Q8 x.l x.a : Int)
def JqN : PH -> Bool := hid fun x => Jad x.l x.a
theorem JiM (x : PH) : Gd x = (Q8 x.l x.a : Int) := by rw [Gd, hid_eq]
theorem JiN (x : PH) : JqN x = Jad x.l x.a := by rw [JqN, hid_eq]
theorem JuL (f : Nat) (rc : Bool -> Bool -> List PV -> Int -> Int -> Int -> OR) (k0 : Int -> Bool -> OR) (z fl : Bool) (l : List PV) (d u : Int) : WL f rc k0 z fl l (l.length : Int) d u = k0 (l.length : Int) false := by
 simp only [WL, QF]
 exact Ja (beq_self_eq_true _)
theorem JqO (f : Nat) (rc : Bool -> Bool -> List PV -> Int -> Int -> Int -> OR) (k0 : Int -> Bool -> OR) (z fl : Bool) (l : List PV) (hl : l.all Zk = true) (h2 : l.length <= 1000) (i : Nat) (hi : i < l.length) (d u : Int) :
   WL f rc k0 z fl l (i : Int) d u = bif ltA (av (l.getD i .top)) ⟨d, u⟩ then rc z fl l ((i + 1 : Nat) : Int) d u else k0 (i : Int) (eqA (av (l.getD i .top)) ⟨d, u⟩) := by
 have g1 := tI i
 have w1 := wI (i := i) (by omega)
 have hc := W5 (W6 hl hi)
 unfold Vf at hc
 simp only [WL, QF, g1, w1]
 generalize l.getD i .top = p at *
 have hr : (decide (0 <= (i : Int)) && decide ((i : Int) < zi l.length) && (PV.isSt 42 #[Field.mk "D" 3 0 false "" "" 0, Field.mk "U" 3 1 false "" "" 8].size p && (PV.isInt IntKind.i64 (PV.child 0 p) && (PV.isInt IntKind.i64 (PV.child (0 + 1) p) && true))) && true) = true := by rw [hc]; simp [zi]; omega
 have e1 : (PV.child 0 p).int = (av p).d := rfl
 have e2 : (PV.child (0 + 1) p).int = (av p).u := rfl
 have e3 : ((av p).d == d && ((av p).u == u && true)) = eqA (av p) ⟨d, u⟩ := rfl
 rw [e1, e2, e3]
 refine (Jd (beq_false_of_ne (by simp only [zi]; omega))).trans ((Ja hr).trans ?_)
 by_cases h1 : (av p).d > d
 · have hlt : ltA (av p) ⟨d, u⟩ = false := Bool.eq_false_iff.2 fun h => by have h := Yr.1 h; simp only at h; omega
   have heq : eqA (av p) ⟨d, u⟩ = false := Bool.eq_false_iff.2 fun h => by have h := QH.1 h; rw [h] at h1; simp only at h1; omega
   rw [hlt, heq]
   exact Ja (decide_eq_true h1)
 refine (Jd (decide_eq_false h1)).trans ((Ja hr).trans ?_)
 by_cases h2 : (av p).d = d
 · refine (Ja (by simpa using h2)).trans ((Ja hr).trans ?_)
   by_cases h3 : (av p).u > u
   · have hlt : ltA (av p) ⟨d, u⟩ = false := Bool.eq_false_iff.2 fun h => by have h := Yr.1 h; simp only at h; omega
     have heq : eqA (av p) ⟨d, u⟩ = false := Bool.eq_false_iff.2 fun h => by have h := QH.1 h; rw [h] at h3; simp only at h3; omega
     rw [hlt, heq]
     exact Ja (decide_eq_true h3)
   · refine (Jd (decide_eq_false h3)).trans ((Ja hr).trans ?_)
     cases he : eqA (av p) ⟨d, u⟩ with
     | true =>
      have hlt : ltA (av p) ⟨d, u⟩ = false := by rw [QH.1 he]; exact JdG
      rw [hlt]; rfl
     | false =>
      have hlt : ltA (av p) ⟨d, u⟩ = true := Yr.2 (by
       rcases Int.lt_or_le (av p).u u with g | g
       · exact .inr ⟨h2, g⟩
       · exfalso
         have : eqA (av p) ⟨d, u⟩ = true := QH.2 (by
          have : (av p).u = u := by omega
          cases hp : av p with
          | mk x y => rw [hp] at h2 this; simp only at h2 this; rw [h2, this])
         rw [this] at he; cases he)
      rw [hlt]; rfl
 · refine (Jd (by simpa using h2)).trans ((Ja hr).trans ?_)
   have hlt : ltA (av p) ⟨d, u⟩ = true := Yr.2 (.inl (by show (av p).d < d; omega))
   have heq : eqA (av p) ⟨d, u⟩ = false := Bool.eq_false_iff.2 fun h => by have h := QH.1 h; rw [h] at h2; exact h2 rfl
   rw [hlt, heq]; rfl
theorem JuM (l : List PV) (hl : l.all Zk = true) (h2 : l.length <= 1000) (d u : Int) (f : Nat) (k0 : Int -> Bool -> OR) (z fl : Bool) : ∀ (e i n : Nat), i + e = l.length -> e < n ->
  Xi f k0 n z fl l (i : Int) d u = k0 ((i + Q8 (l.drop i) ⟨d, u⟩ : Nat) : Int) (Jad (l.drop i) ⟨d, u⟩)
 | 0, i, n + 1, hi, hn => by
   rw [List.drop_of_length_le (by omega)]
   obtain rfl : i = l.length := by omega
   simp only [Xi]
   exact JuL f _ k0 z fl l d u
 | e + 1, i, n + 1, hi, hn => by
   simp only [Xi]
   rw [JqO f _ k0 z fl l hl h2 i (by omega) d u, J0 (by omega), JqM, Q8]
   cases ltA (av (l.getD i .top)) ⟨d, u⟩ with
   | false => rfl
   | true =>
    simp only [cond_true]
    rw [JuM l hl h2 d u f k0 z fl e (i + 1) n (by omega) (by omega)]
    rw [show i + 1 + Q8 (l.drop (i + 1)) ⟨d, u⟩ = i + (Q8 (l.drop (i + 1)) ⟨d, u⟩ + 1) from by omega]
theorem Jx5 (f : Nat) (z fl : Bool) (l : List PV) (d u : Int) (k : KR) : Jx4 f z fl l d u k = WL f (Xi f (fun x y => k ⟨.tup [.sc (.int .i64 x), .sc (.bool y)], [], []⟩) f) (fun x y => k ⟨.tup [.sc (.int .i64 x), .sc (.bool y)], [], []⟩) z fl l 0 d u := by
 unfold Jx4 JdF V4 WL QF
 rfl
def JiO : Jz
 | [.ro 42 z f l, .st 42 [.sc (.int .i64 d), .sc (.int .i64 u)]], [], k => bif Jcp l then k ⟨.tup [.sc (.int .i64 (Gd ⟨l, ⟨d, u⟩⟩)), .sc (.bool (JqN ⟨l, ⟨d, u⟩⟩))], [], []⟩ else none
 | _, _, _ => none
def JuN : Sig := { own := [], run := JiO }
theorem Jx6 (z f : Bool) (l : List PV) (d u : Int) (h : Jcp l = true) (k : KR) : Jx4 (l.length + 1) z f l d u k = k ⟨.tup [.sc (.int .i64 (Gd ⟨l, ⟨d, u⟩⟩)), .sc (.bool (JqN ⟨l, ⟨d, u⟩⟩))], [], []⟩ := by
 obtain ⟨h1, h2⟩ := YV.1 h
 rw [Jx5, JiM, JiN]
 have := JuM l h1 h2 d u (l.length + 1) (fun x y => k ⟨.tup [.sc (.int .i64 x), .sc (.bool y)], [], []⟩) z f l.length 0 (l.length + 1 + 1) (by omega) (by omega)
 simp only [Xi, List.drop_zero, Nat.zero_add] at this
 exact this
theorem JuO : Jc tau Try.prog 127 JuN := Jc.mk' fun xs es k res hl hr => by
 change JiO xs es k = some res at hr
 unfold JiO at hr
 split at hr
 · rename_i z f l d u
   obtain ⟨hc, hr⟩ := Jv hr
   exact J3 Jn JpP Jo JAt JAu (JpQ (Jac (l.length + 1))) [.ro, .ro] 0 0 (JKW (l.length + 1)) hl rfl ((JOX (l.length + 1) z f l d u k).trans ((Jx6 z f l d u hc k).trans hr))
 · cases hr
def JnJ : List PV -> AV -> Nat
 | [], _ => 0
 | p :: ps, a => bif eqA a (av p) then 0 else JnJ ps a + 1
def JnK : PH -> Int := hid fun x => bif hasL x.l x.a then (JnJ x.l x.a : Int) else -1
theorem JpT (x : PH) : JnK x = bif hasL x.l x.a then (JnJ x.l x.a : Int) else -1 := by rw [JnK, hid_eq]
theorem JuP (x : PH) : decide (JnK x >= 0) = hasP x := by
 rw [JpT, hasP_eq]
 cases hasL x.l x.a with
 | true => exact decide_eq_true (Int.natCast_nonneg _)
 | false => rfl
theorem JuQ (l : List PV) (hl : l.all Zk = true) (h2 : l.length <= 1000) (d u : Int) (f : Nat) (k0 : Int -> OR) (k1 : OR) (z fl : Bool) : ∀ (e i n : Nat), i + e = l.length -> e < n ->
  ZG f k0 k1 n z fl l (zi l.length) (i : Int) d u = bif hasL (l.drop i) ⟨d, u⟩ then k0 ((i + JnJ (l.drop i) ⟨d, u⟩ : Nat) : Int) else k1
 | 0, i, n + 1, hi, hn => by
   rw [List.drop_of_length_le (by omega)]
   simp only [ZG, VA]
   exact Jd (by simp [zi]; omega)
 | e + 1, i, n + 1, hi, hn => by
   have g1 := tI i
   have w1 := wI (i := i) (by omega)
   have hc := W5 (W6 hl (i := i) (by omega))
   unfold Vf at hc
   rw [J0 (by omega)]
   simp only [ZG, VA, g1, w1]
   refine (Ja (by simp [zi]; omega)).trans ((Ja (by rw [hc]; simp [zi]; omega)).trans ?_)
   have he : (d == (PV.child 0 (l.getD i PV.top)).int && (u == (PV.child (0 + 1) (l.getD i PV.top)).int && true)) = eqA ⟨d, u⟩ (av (l.getD i .top)) := rfl
   have hh : hasL (l.getD i .top :: l.drop (i + 1)) ⟨d, u⟩ = (eqA ⟨d, u⟩ (av (l.getD i .top)) || hasL (l.drop (i + 1)) ⟨d, u⟩) := by
    rw [JuK]; rfl
   rw [he, hh, JnJ]
   cases eqA ⟨d, u⟩ (av (l.getD i .top)) with
   | true => rfl
   | false =>
    refine (Jd rfl).trans ((JuQ l hl h2 d u f k0 k1 z fl e (i + 1) n (by omega) (by omega)).trans ?_)
    rw [Bool.false_or, cond_false, show i + 1 + JnJ (l.drop (i + 1)) ⟨d, u⟩ = i + (JnJ (l.drop (i + 1)) ⟨d, u⟩ + 1) from by omega]
def JiP : Jz
 | [.ro 42 z f l, .st 42 [.sc (.int .i64 d), .sc (.int .i64 u)]], [], k => bif Jcp l then k ⟨.sc (.int .i64 (JnK ⟨l, ⟨d, u⟩⟩)), [], []⟩ else none
 | _, _, _ => none
def JAw : Sig := { own := [], run := JiP }
theorem Jx7 (z f : Bool) (l : List PV) (d u : Int) (h : Jcp l = true) (k : KR) : JEF (l.length + 1) z f l d u k = k ⟨.sc (.int .i64 (JnK ⟨l, ⟨d, u⟩⟩)), [], []⟩ := by
 obtain ⟨h1, h2⟩ := YV.1 h
 unfold JEF
 rw [JpT]
 refine (JuQ l h1 h2 d u (l.length + 1) _ _ z f l.length 0 (l.length + 1) (by omega) (by omega)).trans ?_
 rw [List.drop_zero, Nat.zero_add]
 cases hasL l ⟨d, u⟩ <;> rfl
theorem JEH : Jc tau Try.prog 123 JAw := Jc.mk' fun xs es k res hl hr => by
 change JiP xs es k = some res at hr
 unfold JiP at hr
 split at hr
 · rename_i z f l d u
   obtain ⟨hc, hr⟩ := Jv hr
   exact J3 Jn JpM Jo JAr JAs (JpN (Jab (l.length + 1))) [.ro] 0 0 (JKT (l.length + 1)) hl rfl ((JOW (l.length + 1) z f l d u k).trans ((Jx7 z f l d u hc k).trans hr))
 · cases hr
def JiQ : Jz
 | [.st 42 [.sc (.int .i64 a), .sc (.int .i64 b)]], [], k => k ⟨.sc (.bool (inA [a, 2, b, 7])), [], []⟩
 | _, _, _ => none
def JAx : Sig := { own := [], run := JiQ }
theorem JEI : Jc tau Try.prog 128 JAx := JKR.of fun xs es k res hr => by
 change JiQ xs es k = some res at hr
 unfold JiQ at hr
 split at hr
 · rename_i a b
   show JxZ 0 a b k = some res
   rw [JjH] at hr
   unfold JxZ
   unfold inZ at hr
   by_cases h1 : a >= 0 <;> by_cases h2 : a < 3 <;> by_cases h3 : b >= 0 <;> by_cases h4 : b < 8 <;> simp [h1, h2, h3, h4, show (a <= 2) ↔ (a < 3) from by omega, show (b <= 7) ↔ (b < 8) from by omega] at hr ⊢ <;> exact hr
 · cases hr
def F87 : Fns := Jt 123 JAw (F0)
theorem JEJ : Jq tau Try.prog F87 := (Js).add JEH JKU
def JEK : An := (.seq .leaf (.seq .leaf .leaf))
def g87 (f : Nat) (s_z s_f : Bool) (s : List PV) (v_D v_U : Int) (k : KR) : OR := bif Jcp s then k (Res.mk (.sc (.bool (decide (JnK (PH.mk s (AV.mk v_D v_U)) >= 0)))) [] []) else none
theorem e87 (f : Nat) (s_z s_f : Bool) (s : List PV) (v_D v_U : Int) (k : KR) : JJ tau F87 Try.f87 (Try.f87.body.get!) JEK [.ro] 0 [.ro 42 s_z s_f s, .st 42 [.sc (.int .i64 v_D), .sc (.int .i64 v_U)]] [] k = g87 f s_z s_f s v_D v_U k := by kernel_rfl
theorem JOY (f : Nat) : ∀ q ∈ Jg (Try.f87.body.get!) JEK, q.Ok tau Try.prog 0 := Jw (by kernel_rfl)
theorem JKX : Try.prog.funcs[87]? = some Try.f87 := by kernel_rfl
theorem JKY : Try.f87.body = some (Try.f87.body.get!) := by kernel_rfl
theorem JOZ : Enters Try.prog 87 := enters_of JKX (by kernel_rfl) JKY
def JuR : Jz
 | [.ro 42 s_z s_f s, .st 42 [.sc (.int .i64 v_D), .sc (.int .i64 v_U)]], [], k => g87 0 s_z s_f s v_D v_U k
 | _, _, _ => none
def s87 : Sig := { own := [], run := JuR }
theorem JO0 : Jc tau Try.prog 87 s87 := JO Jn JEJ Jo JKX JKY JEK [.ro] 0 [] JuR (JOY 0) fun xs es k res hr => by
 unfold JuR at hr
 split at hr
 · exact ⟨rfl, 0, (e87 0 _ _ _ _ _  _).trans hr⟩
 · cases hr
def F39 : Fns := Jt 87 s87 (F0)
theorem JEL : Jq tau Try.prog F39 := (Js).add JO0 JOZ
def JEM : An := (.seq .leaf (.seq .leaf .leaf))
def g39 (f : Nat) (l_z l_f : Bool) (l : List PV) (a_D a_U : Int) (k : KR) : OR := bif Jcp l then k (Res.mk (.sc (.bool (decide (JnK (PH.mk l (AV.mk a_D a_U)) >= 0)))) [] []) else none
theorem e39 (f : Nat) (l_z l_f : Bool) (l : List PV) (a_D a_U : Int) (k : KR) : JJ tau F39 Try.f39 (Try.f39.body.get!) JEM [.ro] 0 [.ro 42 l_z l_f l, .st 42 [.sc (.int .i64 a_D), .sc (.int .i64 a_U)]] [] k = g39 f l_z l_f l a_D a_U k := by kernel_rfl
theorem JO1 (f : Nat) : ∀ q ∈ Jg (Try.f39.body.get!) JEM, q.Ok tau Try.prog 0 := Jw (by kernel_rfl)
theorem JKZ : Try.prog.funcs[39]? = some Try.f39 := by kernel_rfl
theorem JK0 : Try.f39.body = some (Try.f39.body.get!) := by kernel_rfl
theorem JO2 : Enters Try.prog 39 := enters_of JKZ (by kernel_rfl) JK0
def JuS : Jz
 | [.ro 42 l_z l_f l, .st 42 [.sc (.int .i64 a_D), .sc (.int .i64 a_U)]], [], k => g39 0 l_z l_f l a_D a_U k
 | _, _, _ => none
def s39 : Sig := { own := [], run := JuS }
theorem JO3 : Jc tau Try.prog 39 s39 := JO Jn JEL Jo JKZ JK0 JEM [.ro] 0 [] JuS (JO1 0) fun xs es k res hr => by
 unfold JuS at hr
 split at hr
 · exact ⟨rfl, 0, (e39 0 _ _ _ _ _  _).trans hr⟩
 · cases hr
def JK1 : Fns := F0
theorem Jx8 : Jq tau Try.prog JK1 := Js
def JuT : An := (.seq .leaf (.seq (.seq .leaf (.cond .leaf .leaf)) (.seq (.seq .leaf (.seq .leaf (.cond .leaf .leaf))) (.seq .leaf .leaf))))
def JK2 (f : Nat) (n : Int) (k : KR) : OR := bif decide (n < 0) then none else bif decide (IntKind.i64.wrap (n - IntKind.i64.wrap (zi 0 - zi 0)) > 0) then bif decide (0 <= IntKind.i64.wrap (n - IntKind.i64.wrap (zi 0 - zi 0))) && Je (IntKind.i64.wrap (n - IntKind.i64.wrap (zi 0 - zi 0))).toNat 16 && true then k (Res.mk (.ow 42 16 [] 0 0 none) [] [.vec false 42 (IntKind.i64.wrap (n - IntKind.i64.wrap (zi 0 - zi 0)) == 0) (List.replicate (IntKind.i64.wrap (n - IntKind.i64.wrap (zi 0 - zi 0))).toNat (PV.st 42 [.sc (.int .i64 0), .sc (.int .i64 0)]))]) else none else k (Res.mk (.ro 42 true true []) [] [])
theorem JO4 (f : Nat) (n : Int) (k : KR) : JJ tau JK1 Try.f135 (Try.f135.body.get!) JuT [] 0 [.ro 42 true true [], .sc (.int .i64 n)] [] k = JK2 f n k := by kernel_rfl
theorem JK3 (f : Nat) : ∀ q ∈ Jg (Try.f135.body.get!) JuT, q.Ok tau Try.prog 0 := Jw (by kernel_rfl)
theorem JAy : Try.prog.funcs[135]? = some Try.f135 := by kernel_rfl
theorem JAz : Try.f135.body = some (Try.f135.body.get!) := by kernel_rfl
theorem JK4 : Enters Try.prog 135 := enters_of JAy (by kernel_rfl) JAz
def JnL : Jz
 | [.ro 42 true true [], .sc (.int .i64 n)], [], k => JK2 0 n k
 | _, _, _ => none
def JK5 : Sig := { own := [], run := JnL }
theorem JK6 : Jc tau Try.prog 135 JK5 := JO Jn Jx8 Jo JAy JAz JuT [] 0 [] JnL (JK3 0) fun xs es k res hr => by
 unfold JnL at hr
 split at hr
 · exact ⟨rfl, 0, (JO4 0 _  _).trans hr⟩
 · cases hr
def Jae : Nat := 36
def JqP : Fns := Jt 135 JK5 (F0)
theorem JiR : Jq tau Try.prog JqP := (Js).add JK6 JK4
def JiS : Code := Qf (Try.f129.body.get!) [1, 1, 0, 1, 0, 0]
def JbU : Nm := [(0, .any), (3, .any), (9, .any), (10, .any), (11, .any)]
def JiT : Nm := [(0, .any), (3, .any)]
def JnM : An := (.seq .leaf (.seq (.cond .leaf .leaf) (.seq (.block none (.seq .leaf (.seq .leaf (.seq .leaf (.cond .leaf .leaf))))) .leaf)))
def JcE : Code := Qf (Try.f129.body.get!) [1, 1, 1, 1, 0, 1, 0, 0]
def XG : Nm := [(6, .own), (25, .any), (26, .any), (27, .any)]
def Yw : Nm := [(6, .any)]
def JfB : An := (.seq .leaf (.seq (.cond .leaf .leaf) (.seq (.block none (.seq .leaf .leaf)) .leaf)))
def JpU (r0 : Qw) (r1 : Qw) : An := (.seq .leaf (.seq .leaf (.seq (.seq .leaf (.block none (.sum JbU Jae r0))) (.seq .leaf (.seq (.seq .leaf (.block none (.sum XG Jae r1))) (.seq .leaf .leaf))))))
abbrev JpV := Bool -> Bool -> List PV -> Int -> Bool -> Bool -> List PV -> Int -> Int -> OR
def VB (f : Nat) (rc : JpV) (k0 : Bool -> Bool -> List PV -> Int -> OR) (v0 v1 : Bool) (v2 : List PV) (v3 : Int) (v4 v5 : Bool) (v6 : List PV) (v7 v8 : Int) : OR := bif decide (v8 < v7) then bif decide (0 <= v8) && decide (v8 < zi v6.length) && PV.isRo 42 (v6.getD v8.toNat PV.top) && true then bif decide (IntKind.i64.wrap (v3 + zi (v6.getD v8.toNat PV.top).els.length) < 0) then none else rc v0 v1 v2 (IntKind.i64.wrap (v3 + zi (v6.getD v8.toNat PV.top).els.length)) v4 v5 v6 v7 (IntKind.i64.wrap (v8 + 1)) else none else k0 v0 v1 v2 v3
def ZH (f : Nat) (k0 : Bool -> Bool -> List PV -> Int -> OR) : Nat -> JpV
 | 0 => fun _ _ _ _ _ _ _ _ _ => none
 | n + 1 => VB f (ZH f k0 n) k0
def V5 (k : Kont) := fun x0 x1 x2 x3 => k (Ex.exit 0) (Jj JiT Jae [.ro 35 x0 x1 x2, .sc (.int .i64 x3)] [])
def JiU (f : Nat) (k : Kont) (n : Nat) (v0 v1 : Bool) (v2 : List PV) (v3 : Int) (v4 v5 : Bool) (v6 : List PV) (v7 v8 : Int) : OR := Jy tau 0 JbU (fun s k => ev tau JqP 0 0 JiS (JnM ) s k) n (Jj JbU Jae [.ro 35 v0 v1 v2, .sc (.int .i64 v3), .ro 35 v4 v5 v6, .sc (.int .i64 v7), .sc (.int .i64 v8)] []) (JG tau 0 JiT k)
theorem JuU (f : Nat) (k : Kont) (n : Nat) : JiU f k (n + 1) = VB f (JiU f k n) (V5 k) := by kernel_rfl
theorem Jkp (f : Nat) (k : Kont) : ∀ n, JiU f k n = ZH f (V5 k) n
 | 0 => rfl
 | n + 1 => (JuU f k n).trans (congrArg (fun r => VB f r (V5 k)) (Jkp f k n))
def Jaf (f : Nat) : List PV -> List (Nat × Ent) -> Kont -> OR
 | [.ro 35 v0 v1 v2, .sc (.int .i64 v3), .ro 35 v4 v5 v6, .sc (.int .i64 v7),
 .sc (.int .i64 v8)], [], k => ZH f (V5 k) f v0 v1 v2 v3 v4 v5 v6 v7 v8
 | _, _, _ => none
theorem Jx9 (f : Nat) : Jg JiS JnM = [] := by kernel_rfl
theorem Jya (f : Nat) : (Item.l JiS JbU Jae (Jaf f)).Ok tau Try.prog 0 := Ju Jn JiR Jo (x := JnM) (nm2 := JiT) (Jk _ _ (by rw [Jx9 f]; intro q hq; cases hq)) fun vs hp k res hr => by
 unfold Jaf at hr
 split at hr
 · rw [← Jkp f] at hr; exact ⟨f, 0, hr⟩
 · cases hr
def VC (f : Nat) (rc : Nat -> Bool -> Bool -> List PV -> Int -> Int -> Bool -> List PV -> OR) (k0 : Nat -> Bool -> List PV -> OR) (v0 : Nat) (v1 v2 : Bool) (v3 : List PV) (v4 v5 : Int) (v6 : Bool) (v7 : List PV) : OR := bif decide (v5 < v4) then bif decide (0 <= v5) && decide (v5 < zi v3.length) && PV.isRo 42 (v3.getD v5.toNat PV.top) && true then bif Je (v0 + (v3.getD v5.toNat PV.top).els.length) 16 && true then rc (v0 + (v3.getD v5.toNat PV.top).els.length) v1 v2 v3 v4 (IntKind.i64.wrap (v5 + 1)) (v6 && (v3.getD v5.toNat PV.top).els.isEmpty) (List.take v0 v7 ++ (v3.getD v5.toNat PV.top).els) else none else none else k0 v0 v6 v7
def Xj (f : Nat) (k0 : Nat -> Bool -> List PV -> OR) : Nat -> Nat -> Bool -> Bool -> List PV -> Int -> Int -> Bool -> List PV -> OR
 | 0, _, _, _, _, _, _, _, _ => none
 | n + 1, v0, v1, v2, v3, v4, v5, v6, v7 => VC f (Xj f k0 n) k0 v0 v1 v2 v3 v4 v5 v6 v7
theorem JuV (f : Nat) (k : Kont) (n v0 : Nat) (v1 v2 : Bool) (v3 : List PV) (v4 v5 : Int) (v6 : Bool) (v7 : List PV) : Jy tau 0 XG (fun s k => ev tau JqP 0 0 JcE (JfB ) s k) (n + 1) (Jj XG Jae [.ow 42 592 [] 0 v0 none, .ro 35 v1 v2 v3, .sc (.int .i64 v4), .sc (.int .i64 v5)] [(592, .vec false 42 v6 v7)]) (JG tau 0 Yw k) = VC f (fun v0 v1 v2 v3 v4 v5 v6 v7 => Jy tau 0 XG (fun s k => ev tau JqP 0 0 JcE (JfB ) s k) n (Jj XG Jae [.ow 42 592 [] 0 v0 none, .ro 35 v1 v2 v3, .sc (.int .i64 v4), .sc (.int .i64 v5)] [(592, .vec false 42 v6 v7)]) (JG tau 0 Yw k)) (fun x0 x1 x2 => k (Ex.exit 2) (Jj Yw Jae [.ow 42 592 [] 0 x0 none] [(592, .vec false 42 x1 x2)])) v0 v1 v2 v3 v4 v5 v6 v7 := by kernel_rfl
theorem Jkq (f : Nat) (k : Kont) : ∀ (n v0 : Nat) (v1 v2 : Bool) (v3 : List PV) (v4 v5 : Int) (v6 : Bool) (v7 : List PV), Jy tau 0 XG (fun s k => ev tau JqP 0 0 JcE (JfB ) s k) n (Jj XG Jae [.ow 42 592 [] 0 v0 none, .ro 35 v1 v2 v3, .sc (.int .i64 v4), .sc (.int .i64 v5)] [(592, .vec false 42 v6 v7)]) (JG tau 0 Yw k) = Xj f (fun x0 x1 x2 => k (Ex.exit 2) (Jj Yw Jae [.ow 42 592 [] 0 x0 none] [(592, .vec false 42 x1 x2)])) n v0 v1 v2 v3 v4 v5 v6 v7 | 0, _, _, _, _, _, _, _, _ => rfl | n + 1, v0, v1, v2, v3, v4, v5, v6, v7 => (JuV f k n v0 v1 v2 v3 v4 v5 v6 v7).trans (congrArg (fun r => VC f r (fun x0 x1 x2 => k (Ex.exit 2) (Jj Yw Jae [.ow 42 592 [] 0 x0 none] [(592, .vec false 42 x1 x2)])) v0 v1 v2 v3 v4 v5 v6 v7) (by funext v0 v1 v2 v3 v4 v5 v6 v7; exact Jkq f k n v0 v1 v2 v3 v4 v5 v6 v7))
def Jag (f : Nat) : List PV -> List (Nat × Ent) -> Kont -> OR
 | [.ow 42 592 [] 0 v0 none, .ro 35 v1 v2 v3, .sc (.int .i64 v4),
 PV.sc
  (Value.int IntKind.i64
   v5)], [(592, .vec false 42 v6 v7)], k => Xj f (fun x0 x1 x2 => k (Ex.exit 2) (Jj Yw Jae [.ow 42 592 [] 0 x0 none] [(592, .vec false 42 x1 x2)])) f v0 v1 v2 v3 v4 v5 v6 v7
 | _, _, _ => none
theorem Jyb (f : Nat) : Jg JcE JfB = [] := by kernel_rfl
theorem Jyc (f : Nat) : (Item.l JcE XG Jae (Jag f)).Ok tau Try.prog 0 := Ju Jn JiR Jo (x := JfB) (nm2 := Yw) (Jk _ _ (by rw [Jyb f]; intro q hq; cases hq)) fun vs hp k res hr => by
 unfold Jag at hr
 split at hr
 · exact ⟨f, 0, (Jkq f _ f _ _ _ _ _ _ _ _ ).trans hr⟩
 · cases hr
def JK7 (f : Nat) (y0 y1 : Bool) (slices : List PV) (k : KR) : OR := ZH f (fun x0_0 x1_0 x2_0 x3_0 => bif decide (x3_0 < 0) then none else bif decide (IntKind.i64.wrap (x3_0 - IntKind.i64.wrap (zi 0 - zi 0)) > 0) then bif decide (0 <= IntKind.i64.wrap (x3_0 - IntKind.i64.wrap (zi 0 - zi 0))) && Je (IntKind.i64.wrap (x3_0 - IntKind.i64.wrap (zi 0 - zi 0))).toNat 16 && true then Xj f (fun x0_1 x1_1 x2_1 => k (Res.mk (.ow 42 16 [] 0 x0_1 none) [] [.vec false 42 x1_1 x2_1])) f (0) x0_0 x1_0 x2_0 (zi x2_0.length) (0) (IntKind.i64.wrap (x3_0 - IntKind.i64.wrap (zi 0 - zi 0)) == 0) (List.replicate (IntKind.i64.wrap (x3_0 - IntKind.i64.wrap (zi 0 - zi 0))).toNat (PV.st 42 [.sc (.int .i64 0), .sc (.int .i64 0)])) else none else Xj f (fun x0_2 x1_2 x2_2 => k (Res.mk (.ow 42 16 [] 0 x0_2 none) [] [.vec false 42 x1_2 x2_2])) f (0) x0_0 x1_0 x2_0 (zi x2_0.length) (0) true ([])) f y0 y1 slices (0) y0 y1 slices (zi slices.length) (0)
theorem JO5 (f : Nat) (y0 y1 : Bool) (slices : List PV) (k : KR) : JJ tau JqP Try.f129 (Try.f129.body.get!) (JpU (Jaf f) (Jag f)) [] 0 [.ro 35 y0 y1 slices] [] k = JK7 f y0 y1 slices k := by kernel_rfl
theorem JK8 (f : Nat) : Jg (Try.f129.body.get!) (JpU (Jaf f) (Jag f)) = [.l JiS JbU Jae (Jaf f), .l JcE XG Jae (Jag f)] := by kernel_rfl
theorem JK9 (f : Nat) : ∀ q ∈ Jg (Try.f129.body.get!) (JpU (Jaf f) (Jag f)), q.Ok tau Try.prog 0 := by rw [JK8 f]; exact JL (Jya f) (JL (Jyc f) (fun _ h => nomatch h))
theorem JAA : Try.prog.funcs[129]? = some Try.f129 := by kernel_rfl
theorem JAB : Try.f129.body = some (Try.f129.body.get!) := by kernel_rfl
theorem JAC : Enters Try.prog 129 := enters_of JAA (by kernel_rfl) JAB
theorem JfC {l : List PV} (h : l.all (PV.isRo 42) = true) {i : Nat} (hi : i < l.length) : (l.getD i .top).isRo 42 = true := by
 rw [List.getD_eq_getElem?_getD, List.getElem?_eq_getElem hi]
 exact List.all_eq_true.1 h _ (List.getElem_mem hi)
theorem JuW (f : Nat) (k0 : Bool -> Bool -> List PV -> Int -> OR) (a b : Bool) (c : List PV) (nl fl : Bool) (l : List PV) (hl : l.all (PV.isRo 42) = true) (hs : (JH l).length <= 8000000000000) (hn : l.length <= 8000000000000) : ∀ (d i n : Nat), i + d = l.length -> d < n ->
  ZH f k0 n a b c ((JH (l.take i)).length : Int) nl fl l (l.length : Int) (i : Int) = k0 a b c ((JH l).length : Int)
 | 0, i, n + 1, h, hd => by
   obtain rfl : i = l.length := by omega
   simp only [ZH, VB]
   exact (Jd (by simp)).trans (by rw [List.take_length])
 | d + 1, i, n + 1, h, hd => by
   have hle := XC l (i + 1)
   have hadd : (JH (l.take (i + 1))).length = (JH (l.take i)).length + (l.getD i .top).els.length := by rw [XN l i (by omega), List.length_append]
   have h1 := wI (i := i) (by omega)
   have h2 : IntKind.i64.wrap (((JH (l.take i)).length : Int) + ((l.getD i .top).els.length : Int)) = ((JH (l.take (i + 1))).length : Int) := by rw [wrap_i64 (by omega) (by omega)]; omega
   simp only [ZH, VB, zi, Int.toNat_natCast, h1, h2]
   refine (Ja (by simp <;> omega)).trans ?_
   refine (Ja (by rw [JfC hl (by omega)]; simp; omega)).trans ?_
   refine (Jd (by simp <;> omega)).trans ?_
   exact JuW f k0 a b c nl fl l hl hs hn d (i + 1) n (by omega) (by omega)
theorem JnN (f : Nat) (k0 : Nat -> Bool -> List PV -> OR) (nl fl : Bool) (l : List PV) (hl : l.all (PV.isRo 42) = true) (hs : (JH l).length <= 8000000000000) (hn : l.length <= 8000000000000) : ∀ (d i n : Nat) (z : Bool) (v : List PV), i + d = l.length -> d < n -> v.take (JH (l.take i)).length = JH (l.take i) -> (d = 0 -> v = JH l) ->
  Xj f k0 n (JH (l.take i)).length nl fl l (l.length : Int) (i : Int) z v = k0 (JH l).length (z && (JH (l.drop i)).isEmpty) (JH l)
 | 0, i, n + 1, z, v, h, hd, hv, h0 => by
   obtain rfl : i = l.length := by omega
   simp only [Xj, VC]
   refine (Jd (by simp)).trans ?_
   rw [List.take_length, h0 rfl, List.drop_length]; simp
 | d + 1, i, n + 1, z, v, h, hd, hv, h0 => by
   have hle := XC l (i + 1)
   have hadd : (JH (l.take (i + 1))).length = (JH (l.take i)).length + (l.getD i .top).els.length := by rw [XN l i (by omega), List.length_append]
   have h1 := wI (i := i) (by omega)
   simp only [Xj, VC, zi, Int.toNat_natCast, h1, hv]
   refine (Ja (by simp <;> omega)).trans ?_
   refine (Ja (by rw [JfC hl (by omega)]; simp; omega)).trans ?_
   refine (Ja (by simp only [Je, Bool.and_true, decide_eq_true_eq]; omega)).trans ?_
   have := JnN f k0 nl fl l hl hs hn d (i + 1) n (z && (l.getD i .top).els.isEmpty) (JH (l.take (i + 1))) (by omega) (by omega) (List.take_length) (fun hd0 => by rw [show i + 1 = l.length from by omega, List.take_length])
   rw [hadd, XN l i (by omega)] at this
   rw [this, JeB l i (by omega), XM, Jc7, Bool.and_assoc]
def JiV : Jz
 | [.ro 35 nl fl l], [], k => bif l.all (PV.isRo 42) && (decide ((JH l).length <= 8000000000000) && decide (l.length <= 8000000000000)) then k ⟨.ow 42 16 [] 0 (JH l).length none, [], [.vec false 42 (JH l).isEmpty (JH l)]⟩ else none
 | _, _, _ => none
def JuX : Sig := { own := [], run := JiV }
theorem Jyd (nl fl : Bool) (l : List PV) (k : KR) (hl : l.all (PV.isRo 42) = true) (hs : (JH l).length <= 8000000000000) (hn : l.length <= 8000000000000) :
  JK7 (l.length + 1) nl fl l k = k ⟨.ow 42 16 [] 0 (JH l).length none, [], [.vec false 42 (JH l).isEmpty (JH l)]⟩ := by
 have h0 := JuW (l.length + 1) (fun x0_0 x1_0 x2_0 x3_0 =>
  bif decide (x3_0 < 0) then
   none
  else bif decide (IntKind.i64.wrap (x3_0 - IntKind.i64.wrap (zi 0 - zi 0)) > 0) then
   bif decide (0 <= IntKind.i64.wrap (x3_0 - IntKind.i64.wrap (zi 0 - zi 0))) && Je (IntKind.i64.wrap (x3_0 - IntKind.i64.wrap (zi 0 - zi 0))).toNat 16 && true then
    Xj (l.length + 1) (fun x0_1 x1_1 x2_1 =>
     k (Res.mk (PV.ow 42 16 [] 0 x0_1 none) []
      [Ent.vec false 42 x1_1
       x2_1])) (l.length + 1) (0) x0_0 x1_0 x2_0 (zi
     x2_0.length) (0) (IntKind.i64.wrap (x3_0 - IntKind.i64.wrap (zi 0 - zi 0)) ==
     0) (List.replicate (IntKind.i64.wrap (x3_0 - IntKind.i64.wrap (zi 0 - zi 0))).toNat (PV.st 42 [.sc (.int .i64 0), .sc (.int .i64 0)]))
   else none
  else Xj (l.length + 1) (fun x0_2 x1_2 x2_2 =>
   k (Res.mk (PV.ow 42 16 [] 0 x0_2 none) [] [Ent.vec false 42 x1_2 x2_2])) (l.length + 1) (0) x0_0 x1_0 x2_0 (zi x2_0.length) (0) true ([])) nl fl l nl fl l hl hs hn l.length 0 (l.length + 1) (by omega) (by omega)
 refine h0.trans ?_
 have hw : IntKind.i64.wrap (((JH l).length : Int) - IntKind.i64.wrap (zi 0 - zi 0)) = ((JH l).length : Int) := by
  have : IntKind.i64.wrap (zi 0 - zi 0) = 0 := by decide
  rw [this, wrap_i64 (by omega) (by omega)]; omega
 simp only [hw]
 refine (Jd (by simp <;> omega)).trans ?_
 cases he : (JH l).isEmpty with
 | true =>
  have he' : JH l = [] := by simpa using he
  refine (Jd (by simp [he'])).trans ?_
  have := JnN (l.length + 1) (fun x0_2 x1_2 x2_2 => k (Res.mk (PV.ow 42 16 [] 0 x0_2 none) [] [Ent.vec false 42 x1_2 x2_2])) nl fl l hl hs hn l.length 0 (l.length + 1) true [] (by omega) (by omega) (by simp) (fun _ => he'.symm)
  refine this.trans ?_
  simp [he']
 | false =>
  have he' : JH l ≠ [] := by simpa using he
  have hpos : 0 < (JH l).length := List.length_pos_iff.2 he'
  have hl0 : l.length ≠ 0 := by
   intro h; rw [List.length_eq_zero_iff] at h; subst h; simp at he'
  refine (Ja (by simp <;> omega)).trans ?_
  refine (Ja (by simp [Je] <;> omega)).trans ?_
  have := JnN (l.length + 1) (fun x0_2 x1_2 x2_2 => k (Res.mk (PV.ow 42 16 [] 0 x0_2 none) [] [Ent.vec false 42 x1_2 x2_2])) nl fl l hl hs hn l.length 0 (l.length + 1) (((JH l).length : Int) == 0) (List.replicate (((JH l).length : Int)).toNat (PV.st 42 [.sc (.int .i64 0), .sc (.int .i64 0)])) (by omega) (by omega) (by simp) (fun h => absurd h hl0)
  refine this.trans ?_
  have hz : (((JH l).length : Int) == 0) = false := by simp [he']
  rw [hz]; rfl
theorem JuY : Jc tau Try.prog 129 JuX := Jhj Jn JiR Jo JAA JAB (fun n => JpU (Jaf n) (Jag n)) [] 0 [] JiV (fun n => JK9 n) fun xs es k res hr => by
 unfold JiV at hr
 split at hr
 · rename_i nl fl l
   obtain ⟨hc, hr⟩ := Jv hr
   simp only [Bool.and_eq_true, decide_eq_true_eq] at hc
   refine ⟨rfl, l.length + 1, 0, (JO5 _ _ _ _ _).trans ?_⟩
   rw [Jyd _ _ _ _ hc.1 hc.2.1 hc.2.2]; exact hr
 · cases hr
def F90 : Fns := Jt 129 JuX (Jt 128 JAx (Jt 127 JuN (Jt 86 s86 (F0))))
theorem JEN : Jq tau Try.prog F90 := ((((Js).add JEB JEA).add JuO JAv).add JEI JKQ).add JuY JAC
def JEO : An := (.seq .leaf (.seq .leaf (.seq (.block none (.seq .leaf (.cond (.seq .leaf .leaf) (.seq .leaf (.cond (.seq .leaf .leaf) (.seq .leaf (.cond (.seq .leaf .leaf) .leaf))))))) (.seq .leaf .leaf))))
abbrev JcF (l_z : Bool) (l_f : Bool) (l : List PV) (a_D : Int) (a_U : Int) := (JH [PV.ro 42 l_z (l_z || l_f && false) (List.take (Gd (PH.mk l (AV.mk a_D a_U))).toNat l), PV.ro 42 false false [PV.st 42 [PV.sc (.int .i64 a_D), PV.sc (.int .i64 a_U)]], PV.ro 42 l_z (l_z || l_f && true) (List.drop (Gd (PH.mk l (AV.mk a_D a_U))).toNat (List.take l.length l))])
def g90 (f : Nat) (l_z l_f : Bool) (l : List PV) (a_D a_U : Int) (k : KR) : OR := bif Jcp l then bif !inA [a_D, 2, a_U, 7] then bif l_z then k (Res.mk (.tup [.ro 42 true true [], .sc (.int .i64 1)]) [] []) else bif Je (0 + l.length) 16 && true then k (Res.mk (.tup [.ro 42 false false (List.take (0 + l.length) l), .sc (.int .i64 1)]) [] []) else none else bif JqN (PH.mk l (AV.mk a_D a_U)) then bif l_z then k (Res.mk (.tup [.ro 42 true true [], .sc (.int .i64 12)]) [] []) else bif Je (0 + l.length) 16 && true then k (Res.mk (.tup [.ro 42 false false (List.take (0 + l.length) l), .sc (.int .i64 12)]) [] []) else none else bif decide (zi l.length >= 8) then bif l_z then k (Res.mk (.tup [.ro 42 true true [], .sc (.int .i64 4)]) [] []) else bif Je (0 + l.length) 16 && true then k (Res.mk (.tup [.ro 42 false false (List.take (0 + l.length) l), .sc (.int .i64 4)]) [] []) else none else bif decide (0 <= Gd (PH.mk l (AV.mk a_D a_U))) && true && decide ((Gd (PH.mk l (AV.mk a_D a_U))).toNat <= l.length) && true then bif decide (0 <= Gd (PH.mk l (AV.mk a_D a_U))) && true && decide ((Gd (PH.mk l (AV.mk a_D a_U))).toNat <= l.length) && decide (l.length <= l.length) && true then bif decide ((JcF l_z l_f l a_D a_U).length <= 8000000000000) && true then k (Res.mk (.tup [.ro 42 (Ent.vec false 42 (JcF l_z l_f l a_D a_U).isEmpty (JcF l_z l_f l a_D a_U)).nil false (List.take (JcF l_z l_f l a_D a_U).length (JcF l_z l_f l a_D a_U)), .sc (.int .i64 0)]) [] []) else none else none else none else none
theorem e90 (f : Nat) (l_z l_f : Bool) (l : List PV) (a_D a_U : Int) (k : KR) : JJ tau F90 Try.f90 (Try.f90.body.get!) JEO [.ro, .ro] 0 [.ro 42 l_z l_f l, .st 42 [.sc (.int .i64 a_D), .sc (.int .i64 a_U)]] [] k = g90 f l_z l_f l a_D a_U k := by kernel_rfl
theorem JO6 (f : Nat) : ∀ q ∈ Jg (Try.f90.body.get!) JEO, q.Ok tau Try.prog 0 := Jw (by kernel_rfl)
theorem JLa : Try.prog.funcs[90]? = some Try.f90 := by kernel_rfl
theorem JLb : Try.f90.body = some (Try.f90.body.get!) := by kernel_rfl
theorem JO7 : Enters Try.prog 90 := enters_of JLa (by kernel_rfl) JLb
def JuZ : Jz
 | [.ro 42 l_z l_f l, .st 42 [.sc (.int .i64 a_D), .sc (.int .i64 a_U)]], [], k => g90 0 l_z l_f l a_D a_U k
 | _, _, _ => none
def s90 : Sig := { own := [], run := JuZ }
theorem JO8 : Jc tau Try.prog 90 s90 := JO Jn JEN Jo JLa JLb JEO [.ro, .ro] 0 [] JuZ (JO6 0) fun xs es k res hr => by
 unfold JuZ at hr
 split at hr
 · exact ⟨rfl, 0, (e90 0 _ _ _ _ _  _).trans hr⟩
 · cases hr
def F91 : Fns := Jt 129 JuX (Jt 127 JuN (Jt 86 s86 (F0)))
theorem JEP : Jq tau Try.prog F91 := (((Js).add JEB JEA).add JuO JAv).add JuY JAC
def JEQ : An := (.seq .leaf (.seq .leaf (.seq (.seq .leaf (.cond (.seq .leaf .leaf) .leaf)) (.seq .leaf .leaf))))
abbrev JcG (l_z : Bool) (l_f : Bool) (l : List PV) (a_D : Int) (a_U : Int) := (JH [PV.ro 42 l_z (l_z || l_f && false) (List.take (Gd (PH.mk l (AV.mk a_D a_U))).toNat l), PV.ro 42 l_z (l_z || l_f && true) (List.drop (IntKind.i64.wrap (Gd (PH.mk l (AV.mk a_D a_U)) + 1)).toNat (List.take l.length l))])
def g91 (f : Nat) (l_z l_f : Bool) (l : List PV) (a_D a_U : Int) (k : KR) : OR := bif Jcp l then bif !JqN (PH.mk l (AV.mk a_D a_U)) then bif l_z then k (Res.mk (.tup [.ro 42 true true [], .sc (.int .i64 2)]) [] []) else bif Je (0 + l.length) 16 && true then k (Res.mk (.tup [.ro 42 false false (List.take (0 + l.length) l), .sc (.int .i64 2)]) [] []) else none else bif decide (0 <= Gd (PH.mk l (AV.mk a_D a_U))) && true && decide ((Gd (PH.mk l (AV.mk a_D a_U))).toNat <= l.length) && true then bif decide (0 <= IntKind.i64.wrap (Gd (PH.mk l (AV.mk a_D a_U)) + 1)) && true && decide ((IntKind.i64.wrap (Gd (PH.mk l (AV.mk a_D a_U)) + 1)).toNat <= l.length) && decide (l.length <= l.length) && true then bif decide ((JcG l_z l_f l a_D a_U).length <= 8000000000000) && true then k (Res.mk (.tup [.ro 42 (Ent.vec false 42 (JcG l_z l_f l a_D a_U).isEmpty (JcG l_z l_f l a_D a_U)).nil false (List.take (JcG l_z l_f l a_D a_U).length (JcG l_z l_f l a_D a_U)), .sc (.int .i64 0)]) [] []) else none else none else none else none
theorem e91 (f : Nat) (l_z l_f : Bool) (l : List PV) (a_D a_U : Int) (k : KR) : JJ tau F91 Try.f91 (Try.f91.body.get!) JEQ [.ro, .ro] 0 [.ro 42 l_z l_f l, .st 42 [.sc (.int .i64 a_D), .sc (.int .i64 a_U)]] [] k = g91 f l_z l_f l a_D a_U k := by kernel_rfl
theorem JO9 (f : Nat) : ∀ q ∈ Jg (Try.f91.body.get!) JEQ, q.Ok tau Try.prog 0 := Jw (by kernel_rfl)
theorem JLc : Try.prog.funcs[91]? = some Try.f91 := by kernel_rfl
theorem JLd : Try.f91.body = some (Try.f91.body.get!) := by kernel_rfl
theorem JPa : Enters Try.prog 91 := enters_of JLc (by kernel_rfl) JLd
def Ju0 : Jz
 | [.ro 42 l_z l_f l, .st 42 [.sc (.int .i64 a_D), .sc (.int .i64 a_U)]], [], k => g91 0 l_z l_f l a_D a_U k
 | _, _, _ => none
def s91 : Sig := { own := [], run := Ju0 }
theorem JPb : Jc tau Try.prog 91 s91 := JO Jn JEP Jo JLc JLd JEQ [.ro, .ro] 0 [] Ju0 (JO9 0) fun xs es k res hr => by
 unfold Ju0 at hr
 split at hr
 · exact ⟨rfl, 0, (e91 0 _ _ _ _ _  _).trans hr⟩
 · cases hr
def zOk : Bool -> List PV -> Bool := hid fun z l => !z || l.isEmpty
theorem JdH {z : Bool} {l : List PV} : zOk z l = true ↔ (z = true -> l = []) := by
 rw [zOk, hid_eq]
 cases z <;> simp
theorem JfD {l : List PV} (h : pOk l = true) : Jcp l = true := by
 obtain ⟨h1, _, h3⟩ := QI.1 h
 exact YV.2 ⟨h1, by omega⟩
theorem JpW {z : Bool} {l : List PV} (hz : z = true -> l = []) (hl : l.length <= 1000) (e : Int) (k : KR) : (bif z then k ⟨.tup [.ro 42 true true [], .sc (.int .i64 e)], [], []⟩ else bif Je (0 + l.length) 16 && true then k ⟨.tup [.ro 42 false false (List.take (0 + l.length) l), .sc (.int .i64 e)], [], []⟩ else none) = k ⟨.tup [.ro 42 z z l, .sc (.int .i64 e)], [], []⟩ := by
 cases z with
 | true => rw [hz rfl]; rfl
 | false =>
  refine (Jd rfl).trans ((Ja (by simp [Je]; omega)).trans ?_)
  rw [List.take_of_length_le (by omega)]
def JnO : Jz
 | [.ro 42 z f l, .st 42 [.sc (.int .i64 d), .sc (.int .i64 u)]], [], k => bif pOk l then k ⟨.sc (.bool (hasP ⟨l, ⟨d, u⟩⟩)), [], []⟩ else none
 | _, _, _ => none
def JLe : Sig := { own := [], run := JnO }
theorem JLf : Jc tau Try.prog 39 JLe := JO3.of fun xs es k res hr => by
 change JnO xs es k = some res at hr
 unfold JnO at hr
 split at hr
 · rename_i z f l d u
   obtain ⟨hc, hr⟩ := Jv hr
   refine Eq.trans ?_ hr
   show g39 0 z f l d u k = _
   unfold g39
   rw [JuP]
   exact Ja (JfD hc)
 · cases hr
def JnP : Jz
 | [.ro 42 z f l, .st 42 [.sc (.int .i64 d), .sc (.int .i64 u)]], [], k => bif pOk l && zOk z l then k ⟨.tup [.ro 42 (adF ⟨l, ⟨d, u⟩⟩ && z) (adF ⟨l, ⟨d, u⟩⟩ && z) (adL ⟨l, ⟨d, u⟩⟩), .sc (.int .i64 (adE ⟨l, ⟨d, u⟩⟩))], [], []⟩ else none
 | _, _, _ => none
def JLg : Sig := { own := [], run := JnP }
theorem JER (z f : Bool) (l : List PV) (d u : Int) (h : pOk l = true) (hz : z = true -> l = []) (k : KR) : g90 0 z f l d u k = k ⟨.tup [.ro 42 (adF ⟨l, ⟨d, u⟩⟩ && z) (adF ⟨l, ⟨d, u⟩⟩ && z) (adL ⟨l, ⟨d, u⟩⟩), .sc (.int .i64 (adE ⟨l, ⟨d, u⟩⟩))], [], []⟩ := by
 obtain ⟨h1, h2, h3⟩ := QI.1 h
 unfold g90 JcF
 rw [JiN, Jt9, Jct, Jnn]
 simp only [YZ h2]
 unfold JbK
 refine (Ja (JfD h)).trans ?_
 cases hu : inA [d, 2, u, 7] with
 | false => exact (Ja rfl).trans (JpW hz (by omega) 1 k)
 | true =>
  refine (Jd rfl).trans ?_
  cases hh : hasL l ⟨d, u⟩ with
  | true => exact (Ja rfl).trans (JpW hz (by omega) 12 k)
  | false =>
   refine (Jd rfl).trans ?_
   by_cases h8 : l.length >= 8
   · refine (Ja (by simp [zi]; omega)).trans ((JpW hz (by omega) 4 k).trans ?_)
     simp only [decide_eq_true h8, Bool.not_true, cond_false, cond_true]; rfl
   · refine (Jd (by simp [zi]; omega)).trans ?_
     simp only [decide_eq_false h8, Bool.not_true, cond_false]
     have hc := JbJ l ⟨d, u⟩
     rw [JiM]
     simp only [Int.toNat_natCast]
     have e0 : List.take l.length l = l := List.take_length
     have hfl : ∀ (a b c e x y : Bool), JH [.ro 42 a b (List.take (Q8 l ⟨d, u⟩) l), .ro 42 x y [.st 42 [.sc (.int .i64 d), .sc (.int .i64 u)]], .ro 42 c e (List.drop (Q8 l ⟨d, u⟩) l)] = G3 l ⟨d, u⟩ := fun _ _ _ _ _ _ => by
      simp only [XM, JaU, PV.els, List.append_nil]; rfl
     have hil := Vy l ⟨d, u⟩
     have hne : (G3 l ⟨d, u⟩).isEmpty = false := by
      cases hx : G3 l ⟨d, u⟩ with
      | nil => rw [hx] at hil; simp at hil
      | cons _ _ => rfl
     simp only [e0, hfl, List.take_length, hne, Ent.nil]
     exact (Ja (by simp; omega)).trans ((Ja (by simp; omega)).trans (Ja (by simp; omega)))
theorem JLh : Jc tau Try.prog 90 JLg := JO8.of fun xs es k res hr => by
 change JnP xs es k = some res at hr
 unfold JnP at hr
 split at hr
 · rename_i z f l d u
   obtain ⟨hc, hr⟩ := Jv hr
   rw [Bool.and_eq_true, JdH] at hc
   exact (JER z f l d u hc.1 hc.2 k).trans hr
 · cases hr
def JnQ : Jz
 | [.ro 42 z f l, .st 42 [.sc (.int .i64 d), .sc (.int .i64 u)]], [], k => bif pOk l && zOk z l then k ⟨.tup [.ro 42 (rmZ ⟨l, ⟨d, u⟩⟩ z) (rmF ⟨l, ⟨d, u⟩⟩ z) (rmL ⟨l, ⟨d, u⟩⟩), .sc (.int .i64 (rmE ⟨l, ⟨d, u⟩⟩))], [], []⟩ else none
 | _, _, _ => none
def JLi : Sig := { own := [], run := JnQ }
theorem JES (z f : Bool) (l : List PV) (d u : Int) (h : pOk l = true) (hz : z = true -> l = []) (k : KR) : g91 0 z f l d u k = k ⟨.tup [.ro 42 (rmZ ⟨l, ⟨d, u⟩⟩ z) (rmF ⟨l, ⟨d, u⟩⟩ z) (rmL ⟨l, ⟨d, u⟩⟩), .sc (.int .i64 (rmE ⟨l, ⟨d, u⟩⟩))], [], []⟩ := by
 obtain ⟨h1, h2, h3⟩ := QI.1 h
 unfold g91 JcG
 rw [JiN, Jua, Jcu, Jno, Jub]
 simp only [YZ h2]
 unfold JxK
 refine (Ja (JfD h)).trans ?_
 cases hh : hasL l ⟨d, u⟩ with
 | false => exact (Ja rfl).trans (JpW hz (by omega) 2 k)
 | true =>
  refine (Jd rfl).trans ?_
  have hf : Jad l ⟨d, u⟩ = true := by rw [YZ h2]; exact hh
  have hc := JbJ l ⟨d, u⟩
  have hlt : Q8 l ⟨d, u⟩ < l.length := by
   unfold Jad at hf
   rw [Bool.and_eq_true, Nat.blt_eq] at hf
   exact hf.1
  rw [JiM]
  have w1 : IntKind.i64.wrap ((Q8 l ⟨d, u⟩ : Int) + 1) = ((Q8 l ⟨d, u⟩ + 1 : Nat) : Int) := by rw [wrap_i64 (by omega) (by omega)]; omega
  simp only [w1, Int.toNat_natCast]
  have e0 : List.take l.length l = l := List.take_length
  have hfl : ∀ (a b c e : Bool), JH [.ro 42 a b (List.take (Q8 l ⟨d, u⟩) l), .ro 42 c e (List.drop (Q8 l ⟨d, u⟩ + 1) l)] = rmA l ⟨d, u⟩ := fun _ _ _ _ => by
   simp only [XM, JaU, PV.els, List.append_nil]; exact JpS h2 hf
  have hrl : (rmA l ⟨d, u⟩).length <= 8 := by
   have := List.length_filter_le (fun p => !eqA (av p) ⟨d, u⟩) l
   unfold rmA; omega
  simp only [e0, hfl, List.take_length, Ent.nil]
  exact (Ja (by simp; omega)).trans ((Ja (by simp; omega)).trans (Ja (by simp; omega)))
theorem JLj : Jc tau Try.prog 91 JLi := JPb.of fun xs es k res hr => by
 change JnQ xs es k = some res at hr
 unfold JnQ at hr
 split at hr
 · rename_i z f l d u
   obtain ⟨hc, hr⟩ := Jv hr
   rw [Bool.and_eq_true, JdH] at hc
   exact (JES z f l d u hc.1 hc.2 k).trans hr
 · cases hr
def JLk : Fns := F0
theorem Jye : Jq tau Try.prog JLk := Js
def Ju1 : An := (.seq .leaf (.seq (.seq .leaf (.cond (.seq .leaf .leaf) .leaf)) (.seq .leaf .leaf)))
def JLl (f : Nat) (y0 c_N : Int) (c_S : ByteArray) (k : KR) : OR := bif y0 == 2 then k (Res.mk (.sc (.int .i64 (zi c_S.size))) [] []) else k (Res.mk (.sc (.int .i64 c_N)) [] [])
theorem JPc (f : Nat) (y0 c_N : Int) (c_S : ByteArray) (k : KR) : JJ tau JLk Try.f126 (Try.f126.body.get!) Ju1 [.ro] 0 [.st 113 [.sc (.int .i64 y0), .sc (.int .i64 c_N), .sc (.string c_S)]] [] k = JLl f y0 c_N c_S k := by kernel_rfl
theorem JLm (f : Nat) : ∀ q ∈ Jg (Try.f126.body.get!) Ju1, q.Ok tau Try.prog 0 := Jw (by kernel_rfl)
theorem JAD : Try.prog.funcs[126]? = some Try.f126 := by kernel_rfl
theorem JAE : Try.f126.body = some (Try.f126.body.get!) := by kernel_rfl
theorem JAF : Enters Try.prog 126 := enters_of JAD (by kernel_rfl) JAE
def JnR : Jz
 | [.st 113 [.sc (.int .i64 y0), .sc (.int .i64 c_N), .sc (.string c_S)]], [], k => JLl 0 y0 c_N c_S k
 | _, _, _ => none
def JET : Sig := { own := [], run := JnR }
theorem JAG : Jc tau Try.prog 126 JET := JO Jn Jye Jo JAD JAE Ju1 [.ro] 0 [] JnR (JLm 0) fun xs es k res hr => by
 unfold JnR at hr
 split at hr
 · exact ⟨rfl, 0, (JPc 0 _ _ _  _).trans hr⟩
 · cases hr
def Jf1 : Nat := 39
def Ju2 : Fns := Jt 126 JET (F0)
theorem JpX : Jq tau Try.prog Ju2 := (Js).add JAG JAF
def JcH : Code := Qf (Try.f125.body.get!) [1, 1, 0, 1, 0, 0]
def XH : Nm := [(3, .any), (7, .any), (8, .any), (9, .any)]
def Yx : Nm := [(3, .any)]
def JfE : An := (.seq .leaf (.seq (.cond .leaf .leaf) (.seq (.block none (.seq .leaf (.seq .leaf (.seq .leaf (.block none (.seq .leaf (.cond .leaf (.seq .leaf (.cond .leaf (.seq .leaf (.cond .leaf .leaf))))))))))) .leaf)))
def JpY (r0 : Qw) : An := (.seq .leaf (.seq .leaf (.seq (.seq .leaf (.block none (.sum XH Jf1 r0))) (.seq .leaf .leaf))))
abbrev Ws (v4 : List PV) (v6 : Int) := (fOf FloatKind.f64 (zi (PV.child (0 + 1 + 1) (v4.getD v6.toNat PV.top)).str.size))
abbrev Wt (v4 : List PV) (v6 : Int) := (fOf FloatKind.f64 (PV.child (0 + 1) (v4.getD v6.toNat PV.top)).int)
abbrev JE (v0 : Nat) (v1 : Nat) := (PV.sc (Value.complex FloatKind.f64 v0 v1))
abbrev Wu (v4 : List PV) (v6 : Int) := (PV.sc (Value.complex FloatKind.f64 (Ws v4 v6) (Ws v4 v6)))
abbrev Wv (v4 : List PV) (v6 : Int) := (PV.sc (Value.complex FloatKind.f64 (Wt v4 v6) (Wt v4 v6)))
abbrev Ww (v4 : List PV) (v6 : Int) := (PV.sc (Value.complex FloatKind.f64 0 (Ws v4 v6)))
abbrev Wx (v4 : List PV) (v6 : Int) := (PV.sc (Value.complex FloatKind.f64 (Ws v4 v6) 0))
abbrev Wy (v4 : List PV) (v6 : Int) := (PV.sc (Value.complex FloatKind.f64 0 (Wt v4 v6)))
abbrev Wz (v4 : List PV) (v6 : Int) := (PV.sc (Value.complex FloatKind.f64 (Wt v4 v6) 0))
def VD (f : Nat) (rc : Nat -> Nat -> Bool -> Bool -> List PV -> Int -> Int -> OR) (k0 : Nat -> Nat -> OR) (v0 v1 : Nat) (v2 v3 : Bool) (v4 : List PV) (v5 v6 : Int) : OR := bif decide (v6 < v5) then bif decide (0 <= v6) && decide (v6 < zi v4.length) && (PV.isSt 113 #[Field.mk "Kind" 3 0 false "" "" 0, Field.mk "N" 3 1 false "" "" 8, Field.mk "S" 9 2 false "" "" 16].size (v4.getD v6.toNat PV.top) && (PV.isInt IntKind.i64 (PV.child 0 (v4.getD v6.toNat PV.top)) && (PV.isInt IntKind.i64 (PV.child (0 + 1) (v4.getD v6.toNat PV.top)) && ((PV.child (0 + 1 + 1) (v4.getD v6.toNat PV.top)).isStr && true)))) && true then bif (PV.child 0 (v4.getD v6.toNat PV.top)).int == 2 then bif (PV.child 0 (v4.getD v6.toNat PV.top)).int == 1 then bif (FloatKind.f64.format.add (JE v0 v1).cre (Wu v4 v6).cre).isSome && (FloatKind.f64.format.add (JE v0 v1).cim (Wu v4 v6).cim).isSome && true then rc ((FloatKind.f64.format.add (JE v0 v1).cre (Wu v4 v6).cre).getD 0) ((FloatKind.f64.format.add (JE v0 v1).cim (Wu v4 v6).cim).getD 0) v2 v3 v4 v5 (IntKind.i64.wrap (v6 + 1)) else none else bif (PV.child 0 (v4.getD v6.toNat PV.top)).int == 2 then bif (FloatKind.f64.format.add (JE v0 v1).cre (Ww v4 v6).cre).isSome && (FloatKind.f64.format.add (JE v0 v1).cim (Ww v4 v6).cim).isSome && true then rc ((FloatKind.f64.format.add (JE v0 v1).cre (Ww v4 v6).cre).getD 0) ((FloatKind.f64.format.add (JE v0 v1).cim (Ww v4 v6).cim).getD 0) v2 v3 v4 v5 (IntKind.i64.wrap (v6 + 1)) else none else bif (PV.child 0 (v4.getD v6.toNat PV.top)).int == 3 then bif (FloatKind.f64.format.add (JE v0 v1).cre (Wx v4 v6).cre).isSome && (FloatKind.f64.format.add (JE v0 v1).cim (Wx v4 v6).cim).isSome && true then rc ((FloatKind.f64.format.add (JE v0 v1).cre (Wx v4 v6).cre).getD 0) ((FloatKind.f64.format.add (JE v0 v1).cim (Wx v4 v6).cim).getD 0) v2 v3 v4 v5 (IntKind.i64.wrap (v6 + 1)) else none else rc v0 v1 v2 v3 v4 v5 (IntKind.i64.wrap (v6 + 1)) else bif (PV.child 0 (v4.getD v6.toNat PV.top)).int == 1 then bif (FloatKind.f64.format.add (JE v0 v1).cre (Wv v4 v6).cre).isSome && (FloatKind.f64.format.add (JE v0 v1).cim (Wv v4 v6).cim).isSome && true then rc ((FloatKind.f64.format.add (JE v0 v1).cre (Wv v4 v6).cre).getD 0) ((FloatKind.f64.format.add (JE v0 v1).cim (Wv v4 v6).cim).getD 0) v2 v3 v4 v5 (IntKind.i64.wrap (v6 + 1)) else none else bif (PV.child 0 (v4.getD v6.toNat PV.top)).int == 2 then bif (FloatKind.f64.format.add (JE v0 v1).cre (Wy v4 v6).cre).isSome && (FloatKind.f64.format.add (JE v0 v1).cim (Wy v4 v6).cim).isSome && true then rc ((FloatKind.f64.format.add (JE v0 v1).cre (Wy v4 v6).cre).getD 0) ((FloatKind.f64.format.add (JE v0 v1).cim (Wy v4 v6).cim).getD 0) v2 v3 v4 v5 (IntKind.i64.wrap (v6 + 1)) else none else bif (PV.child 0 (v4.getD v6.toNat PV.top)).int == 3 then bif (FloatKind.f64.format.add (JE v0 v1).cre (Wz v4 v6).cre).isSome && (FloatKind.f64.format.add (JE v0 v1).cim (Wz v4 v6).cim).isSome && true then rc ((FloatKind.f64.format.add (JE v0 v1).cre (Wz v4 v6).cre).getD 0) ((FloatKind.f64.format.add (JE v0 v1).cim (Wz v4 v6).cim).getD 0) v2 v3 v4 v5 (IntKind.i64.wrap (v6 + 1)) else none else rc v0 v1 v2 v3 v4 v5 (IntKind.i64.wrap (v6 + 1)) else none else k0 v0 v1
def ZI (f : Nat) (k0 : Nat -> Nat -> OR) : Nat -> Nat -> Nat -> Bool -> Bool -> List PV -> Int -> Int -> OR
 | 0, _, _, _, _, _, _, _ => none
 | n + 1, v0, v1, v2, v3, v4, v5, v6 => VD f (ZI f k0 n) k0 v0 v1 v2 v3 v4 v5 v6
theorem Ju3 (f : Nat) (k : Kont) (n v0 v1 : Nat) (v2 v3 : Bool) (v4 : List PV) (v5 v6 : Int) : Jy tau 0 XH (fun s k => ev tau Ju2 0 0 JcH (JfE ) s k) (n + 1) (Jj XH Jf1 [.sc (Value.complex FloatKind.f64 v0 v1), .ro 113 v2 v3 v4, .sc (.int .i64 v5), .sc (.int .i64 v6)] []) (JG tau 0 Yx k) = VD f (fun v0 v1 v2 v3 v4 v5 v6 => Jy tau 0 XH (fun s k => ev tau Ju2 0 0 JcH (JfE ) s k) n (Jj XH Jf1 [.sc (Value.complex FloatKind.f64 v0 v1), .ro 113 v2 v3 v4, .sc (.int .i64 v5), .sc (.int .i64 v6)] []) (JG tau 0 Yx k)) (fun x0 x1 => k (Ex.exit 0) (Jj Yx Jf1 [.sc (Value.complex FloatKind.f64 x0 x1)] [])) v0 v1 v2 v3 v4 v5 v6 := by kernel_rfl
theorem Jkr (f : Nat) (k : Kont) : ∀ (n v0 v1 : Nat) (v2 v3 : Bool) (v4 : List PV) (v5 v6 : Int), Jy tau 0 XH (fun s k => ev tau Ju2 0 0 JcH (JfE ) s k) n (Jj XH Jf1 [.sc (Value.complex FloatKind.f64 v0 v1), .ro 113 v2 v3 v4, .sc (.int .i64 v5), .sc (.int .i64 v6)] []) (JG tau 0 Yx k) = ZI f (fun x0 x1 => k (Ex.exit 0) (Jj Yx Jf1 [.sc (Value.complex FloatKind.f64 x0 x1)] [])) n v0 v1 v2 v3 v4 v5 v6 | 0, _, _, _, _, _, _, _ => rfl | n + 1, v0, v1, v2, v3, v4, v5, v6 => (Ju3 f k n v0 v1 v2 v3 v4 v5 v6).trans (congrArg (fun r => VD f r (fun x0 x1 => k (Ex.exit 0) (Jj Yx Jf1 [.sc (Value.complex FloatKind.f64 x0 x1)] [])) v0 v1 v2 v3 v4 v5 v6) (by funext v0 v1 v2 v3 v4 v5 v6; exact Jkr f k n v0 v1 v2 v3 v4 v5 v6))
def Jah (f : Nat) : List PV -> List (Nat × Ent) -> Kont -> OR
 | [.sc (Value.complex FloatKind.f64 v0 v1), .ro 113 v2 v3 v4, .sc (.int .i64 v5),
 .sc (.int .i64 v6)], [], k => ZI f (fun x0 x1 => k (Ex.exit 0) (Jj Yx Jf1 [.sc (Value.complex FloatKind.f64 x0 x1)] [])) f v0 v1 v2 v3 v4 v5 v6
 | _, _, _ => none
theorem Jyf (f : Nat) : Jg JcH JfE = [] := by kernel_rfl
theorem Jyg (f : Nat) : (Item.l JcH XH Jf1 (Jah f)).Ok tau Try.prog 0 := Ju Jn JpX Jo (x := JfE) (nm2 := Yx) (Jk _ _ (by rw [Jyf f]; intro q hq; cases hq)) fun vs hp k res hr => by
 unfold Jah at hr
 split at hr
 · exact ⟨f, 0, (Jkr f _ f _ _ _ _ _ _ _ ).trans hr⟩
 · cases hr
def JLn (f : Nat) (o_z o_f : Bool) (o : List PV) (k : KR) : OR := ZI f (fun x0_0 x1_0 => k (Res.mk (.sc (Value.complex FloatKind.f64 x0_0 x1_0)) [] [])) f (0) (0) o_z o_f o (zi o.length) (0)
theorem JPd (f : Nat) (o_z o_f : Bool) (o : List PV) (k : KR) : JJ tau Ju2 Try.f125 (Try.f125.body.get!) (JpY (Jah f)) [.ro] 0 [.ro 113 o_z o_f o] [] k = JLn f o_z o_f o k := by kernel_rfl
theorem JLo (f : Nat) : Jg (Try.f125.body.get!) (JpY (Jah f)) = [.l JcH XH Jf1 (Jah f)] := by kernel_rfl
theorem JLp (f : Nat) : ∀ q ∈ Jg (Try.f125.body.get!) (JpY (Jah f)), q.Ok tau Try.prog 0 := by rw [JLo f]; exact JL (Jyg f) (fun _ h => nomatch h)
theorem JAH : Try.prog.funcs[125]? = some Try.f125 := by kernel_rfl
theorem JAI : Try.f125.body = some (Try.f125.body.get!) := by kernel_rfl
theorem JLq : Enters Try.prog 125 := enters_of JAH (by kernel_rfl) JAI
end
end Go.Proofs.Ythpmachmnoljeaa.Rx
noncomputable section
namespace Go.Proofs.Ythpmachmnoljeaa.Rx
open Go Ieee
set_option linter.unusedVariables false
set_option linter.unusedSimpArgs false

theorem JpZ {m : Nat} (h : m ≠ 0) : 2 ^ m.log2 <= m := Nat.log2_self_le h
theorem Jp0 {m : Nat} : m < 2 ^ (m.log2 + 1) := Nat.lt_log2_self
theorem Jyh {m k : Nat} (h0 : 2 ^ k <= m) (h1 : m < 2 ^ (k + 1)) : m.log2 = k := by
 have hm : m ≠ 0 := by have := Nat.two_pow_pos k; omega
 exact (Nat.log2_eq_iff hm).2 ⟨h0, h1⟩
theorem JbV {m : Nat} (h : m ≠ 0) (k : Nat) : (m * 2 ^ k).log2 = m.log2 + k := by
 apply Jyh
 · rw [Nat.pow_add]; exact Nat.mul_le_mul_right _ (JpZ h)
 · have := Jp0 (m := m)
   rw [show m.log2 + k + 1 = (m.log2 + 1) + k from by omega, Nat.pow_add]
   exact Nat.mul_lt_mul_of_pos_right this (Nat.two_pow_pos k)
theorem Ju4 (w : Toward) (s : Bool) (n : Nat) : w.cut s n 0 = n := by
 unfold Toward.cut
 simp
 cases w <;> simp <;> omega
theorem Jyi (w : Toward) (s : Bool) (n k : Nat) : w.cut s (n * 2 ^ k) k = n := by
 by_cases hn : n = 0
 · subst hn
   unfold Toward.cut
   have : 0 < 1 <<< min k (Nat.log2 0 + 2) := by rw [Nat.one_shiftLeft]; exact Nat.two_pow_pos _
   cases w <;> simp <;> omega
 · unfold Toward.cut
   have hmin : min k ((n * 2 ^ k).log2 + 2) = k := by rw [JbV hn]; omega
   have hp := Nat.two_pow_pos k
   have hg : 1 <<< min k ((n * 2 ^ k).log2 + 2) = 2 ^ k := by rw [hmin, Nat.one_shiftLeft]
   simp only [hg, Nat.mul_div_cancel _ hp, Nat.mul_mod_left]
   cases w <;> simp <;> omega
def fz (x : Int) : Nat := FloatKind.f64.nearest x
def shf (m : Nat) : Nat := 52 - m.log2
theorem Jdf {m : Nat} (h0 : m ≠ 0) (h1 : m < 2 ^ 53) : 2 ^ 52 <= m * 2 ^ shf m /\ m * 2 ^ shf m < 2 ^ 53 := by
 have hL : m.log2 < 53 := (Nat.log2_lt h0).2 h1
 have e : m.log2 + shf m = 52 := by unfold shf; omega
 constructor
 · rw [← e, Nat.pow_add]; exact Nat.mul_le_mul_right _ (JpZ h0)
 · rw [show 53 = (m.log2 + 1) + shf m from by omega, Nat.pow_add]
   exact Nat.mul_lt_mul_of_pos_right Jp0 (Nat.two_pow_pos _)
theorem lp : Ieee.double.leastPlace = -1074 := by decide
theorem JbW (neg : Bool) {m : Nat} (h0 : m ≠ 0) (h1 : m < 2 ^ 53) (k : Nat) :
  Ieee.double.nearest neg (m * 2 ^ k) (-(k : Int)) = Ieee.double.word neg ((1074 + 1022 - 1022 - shf m) * 2 ^ 52 + m * 2 ^ shf m) := by
 have hL : m.log2 < 53 := (Nat.log2_lt h0).2 h1
 have hb := Jdf h0 h1
 have hmk : m * 2 ^ k ≠ 0 := Nat.mul_ne_zero h0 (Nat.ne_of_gt (Nat.two_pow_pos k))
 have hlast : max (-(k : Int) + ((m * 2 ^ k).log2 : Int) - ((Ieee.double.fractionBits : Nat) : Int)) Ieee.double.leastPlace = -((shf m : Nat) : Int) := by
  rw [JbV h0, lp]; unfold shf
  show max (-(k : Int) + ((m.log2 + k : Nat) : Int) - ((52 : Nat) : Int)) (-1074) = _
  omega
 unfold Format.nearest
 rw [if_neg hmk]
 simp only [hlast]
 have hkept : Toward.even.cut neg ((m * 2 ^ k) <<< (-(k : Int) - -((shf m : Nat) : Int)).toNat) (-((shf m : Nat) : Int) - -(k : Int)).toNat = m * 2 ^ shf m := by
  by_cases hk : k <= shf m
  · have e1 : (-((shf m : Nat) : Int) - -(k : Int)).toNat = 0 := by omega
    have e2 : (-(k : Int) - -((shf m : Nat) : Int)).toNat = shf m - k := by omega
    rw [e1, e2, Ju4, Nat.shiftLeft_eq, Nat.mul_assoc, ← Nat.pow_add]
    congr 2; omega
  · have e1 : (-((shf m : Nat) : Int) - -(k : Int)).toNat = k - shf m := by omega
    have e2 : (-(k : Int) - -((shf m : Nat) : Int)).toNat = 0 := by omega
    rw [e1, e2, Nat.shiftLeft_zero, show m * 2 ^ k = (m * 2 ^ shf m) * 2 ^ (k - shf m) from by rw [Nat.mul_assoc, ← Nat.pow_add]; congr 2; omega]
    exact Jyi _ _ _ _
 rw [hkept, lp]
 have e3 : (-((shf m : Nat) : Int) - -1074).toNat = 1074 - shf m := by omega
 have hi : Ieee.double.infRung = 2047 * 2 ^ 52 := by decide
 have hbn : Ieee.double.binade = 2 ^ 52 := by decide
 rw [e3, hi, hbn]
 have h53 : (2 : Nat) ^ 53 = 2 * 2 ^ 52 := by decide
 have hB : 0 < (2 : Nat) ^ 52 := Nat.two_pow_pos _
 generalize m * 2 ^ shf m = kp at *
 generalize shf m = sh at *
 rw [h53] at hb
 generalize (2 : Nat) ^ 52 = B at *
 have e4 : 1074 + 1022 - 1022 - sh = 1074 - sh := by omega
 rw [e4]
 congr 1
 have : (1074 - sh) * B <= 1074 * B := Nat.mul_le_mul_right _ (by omega)
 have : 1074 * B + 2 * B <= 2047 * B := by rw [← Nat.add_mul]; exact Nat.mul_le_mul_right _ (by omega)
 exact Nat.min_eq_left (by omega)
theorem Jp1 {x : Int} (h0 : x ≠ 0) (h1 : x.natAbs < 2 ^ 53) : fz x = Ieee.double.word (decide (x < 0)) ((1074 - shf x.natAbs) * 2 ^ 52 + x.natAbs * 2 ^ shf x.natAbs) := by
 have := JbW (decide (x < 0)) (m := x.natAbs) (by omega) h1 0
 simp only [Nat.pow_zero, Nat.mul_one] at this
 exact this
theorem Jyj {x : Int} (h0 : x ≠ 0) (h1 : x.natAbs < 2 ^ 53) : Ieee.double.read (fz x) = .number (decide (x < 0)) (x.natAbs * 2 ^ shf x.natAbs) (-((shf x.natAbs : Nat) : Int)) := by
 have hb := Jdf (m := x.natAbs) (by omega) h1
 have hs : shf x.natAbs <= 52 := by unfold shf; omega
 rw [Jp1 h0 h1]
 generalize hm : x.natAbs * 2 ^ shf x.natAbs = kp at *
 generalize shf x.natAbs = s at *
 have hsw : Ieee.double.signWeight = 2 ^ 63 := by decide
 have hi : Ieee.double.infRung = 2047 * 2 ^ 52 := by decide
 have hbn : Ieee.double.binade = 2 ^ 52 := by decide
 have h53 : (2 : Nat) ^ 53 = 2 * 2 ^ 52 := by decide
 have h63 : (2 : Nat) ^ 63 = 2048 * 2 ^ 52 := by decide
 have hpos : 0 < (2 : Nat) ^ 52 := Nat.two_pow_pos _
 generalize (2 : Nat) ^ 52 = B at *
 have hr : (1074 - s) * B + kp < 2047 * B := by
  have : (1074 - s) * B <= 1074 * B := Nat.mul_le_mul_right _ (by omega)
  omega
 have hdiv : ((1074 - s) * B + kp) / B = 1074 - s + 1 := by
  rw [Nat.mul_comm, Nat.mul_add_div hpos]
  congr 1
  apply Nat.div_eq_of_lt_le <;> omega
 have hmod : ((1074 - s) * B + kp) % B = kp - B := by
  rw [Nat.mul_comm, Nat.mul_add_mod]
  rw [Nat.mod_eq_sub_mod (by omega), Nat.mod_eq_of_lt (by omega)]
 have hge : ¬ ((1074 - s) * B + kp < B) := by omega
 unfold Format.read Format.word
 rw [hsw, h63, hi, hbn, lp]
 have key : ∀ neg : Bool, ((if neg = true then 2048 * B + ((1074 - s) * B + kp) else (1074 - s) * B + kp) / (2048 * B) % 2 == 1) = neg /\ (if neg = true then 2048 * B + ((1074 - s) * B + kp) else (1074 - s) * B + kp) % (2048 * B) = (1074 - s) * B + kp := by
  intro neg
  have hlt : (1074 - s) * B + kp < 2048 * B := by omega
  cases neg with
  | true =>
   simp only [if_true]
   have hp : 0 < 2048 * B := by omega
   rw [Nat.add_div_left _ hp, Nat.div_eq_of_lt hlt, Nat.add_mod_left, Nat.mod_eq_of_lt hlt]
   exact ⟨rfl, rfl⟩
  | false =>
   simp only [Bool.false_eq_true, if_false]
   rw [Nat.div_eq_of_lt hlt, Nat.mod_eq_of_lt hlt]
   exact ⟨rfl, rfl⟩
 have k1 := key (decide (x < 0))
 simp only [k1.1, k1.2]
 rw [if_neg hge, if_pos hr, hmod, hdiv]
 congr 1 <;> omega
theorem Jyk : Ieee.double.read (fz 0) = .number false 0 (-1074) := by decide
def JfF (d : Datum) (x : Int) : Prop := ∃ s m k, d = .number s m (-((k : Nat) : Int)) /\ m = x.natAbs * 2 ^ k /\ s = decide (x < 0)
theorem Jyl (k : Nat) : 0 = (0 : Int).natAbs * 2 ^ k := by rw [Int.natAbs_zero, Nat.zero_mul]
theorem V6 {x : Int} (h1 : x.natAbs < 2 ^ 53) : JfF (Ieee.double.read (fz x)) x := by
 by_cases h0 : x = 0
 · subst h0; exact ⟨false, 0, 1074, Jyk, Jyl 1074, by decide⟩
 · exact ⟨_, _, _, Jyj h0 h1, rfl, rfl⟩
theorem Xk {x : Int} {s : Bool} {m k : Nat} (hm : m = x.natAbs * 2 ^ k) (hs : s = decide (x < 0)) (u : Nat) : signed s m u = x * 2 ^ (k + u) := by
 subst hm hs
 unfold signed
 rw [Nat.shiftLeft_eq, Nat.mul_assoc, ← Nat.pow_add]
 have : ((x.natAbs * 2 ^ (k + u) : Nat) : Int) = (x.natAbs : Int) * 2 ^ (k + u) := by
   rw [Int.natCast_mul, Int.natCast_pow]; rfl
 by_cases h : x < 0
 · rw [if_pos (by simpa using h), this, ← Int.neg_mul]
   congr 1; omega
 · rw [if_neg (by simpa using h), this]
   congr 1; omega
theorem Jp2 (k : Nat) : (0 : Int) < 2 ^ k := by
 have := Nat.two_pow_pos k
 have h : ((2 ^ k : Nat) : Int) = 2 ^ k := by rw [Int.natCast_pow]; rfl
 omega
theorem JnS {d e : Datum} {x y : Int} (h : JfF d x) (g : JfF e y) (hxy : (x + y).natAbs < 2 ^ 53) : (d.sum e).map Ieee.double.write = some (fz (x + y)) := by
 obtain ⟨s, m, k, rfl, rfl, hs⟩ := h
 obtain ⟨t, n, j, rfl, rfl, ht⟩ := g
 unfold Datum.sum
 simp only [Option.map_some]
 have hbase : min (-(k : Int)) (-(j : Int)) = -((max k j : Nat) : Int) := by omega
 have e1 : (-(k : Int) - min (-(k : Int)) (-(j : Int))).toNat = max k j - k := by omega
 have e2 : (-(j : Int) - min (-(k : Int)) (-(j : Int))).toNat = max k j - j := by omega
 have f1 : k + (max k j - k) = max k j := by omega
 have f2 : j + (max k j - j) = max k j := by omega
 rw [hbase] at e1 e2
 simp only [hbase, e1, e2, Xk rfl hs, Xk rfl ht, f1, f2]
 rw [← Int.add_mul]
 have hp := Jp2 (max k j)
 have hna : ((x + y) * 2 ^ max k j).natAbs = (x + y).natAbs * 2 ^ max k j := by
   rw [Int.natAbs_mul, Int.natAbs_pow]; rfl
 by_cases h0 : x + y = 0
 · rw [h0]
   simp only [Int.zero_mul, if_true]
   have hst : (s && t) = false := by
    subst hs ht
    by_cases hx : x < 0
    · have : ¬ y < 0 := by omega
      simp [this]
    · simp [hx]
   rw [hst]; simp only [Format.write, Format.nearest, Int.natAbs_zero, if_true]
   rfl
 · have hne : (x + y) * 2 ^ max k j ≠ 0 := Int.mul_ne_zero h0 (by omega)
   rw [if_neg hne, hna]
   have hneg : decide ((x + y) * 2 ^ max k j < 0) = decide (x + y < 0) := by
    by_cases hlt : x + y < 0
    · have : (x + y) * 2 ^ max k j < 0 := Int.mul_neg_of_neg_of_pos hlt hp
      simp [hlt, this]
    · have : ¬ (x + y) * 2 ^ max k j < 0 := by
       have := Int.mul_nonneg (show 0 <= x + y by omega) (Int.le_of_lt hp); omega
      simp [hlt, this]
   rw [hneg]
   simp only [Format.write]
   rw [JbW _ (by omega) hxy, Jp1 h0 hxy]
theorem JiW {d e : Datum} {x y : Int} (h : JfF d x) (g : JfF e y) : d.order e = some (compare x y) := by
 obtain ⟨s, m, k, rfl, rfl, hs⟩ := h
 obtain ⟨t, n, j, rfl, rfl, ht⟩ := g
 unfold Datum.order
 have e1 : (-(k : Int) - min (-(k : Int)) (-(j : Int))).toNat = max k j - k := by omega
 have e2 : (-(j : Int) - min (-(k : Int)) (-(j : Int))).toNat = max k j - j := by omega
 have f1 : k + (max k j - k) = max k j := by omega
 have f2 : j + (max k j - j) = max k j := by omega
 simp only [e1, e2, Xk rfl hs, Xk rfl ht, f1, f2]
 have hp := Jp2 (max k j)
 congr 1
 simp only [compare, compareOfLessAndEq]
 have l1 : (x * 2 ^ max k j < y * 2 ^ max k j) ↔ x < y := ⟨fun h => Int.lt_of_mul_lt_mul_right h (Int.le_of_lt hp), fun h => Int.mul_lt_mul_of_pos_right h hp⟩
 have l2 : (x * 2 ^ max k j = y * 2 ^ max k j) ↔ x = y := ⟨fun h => Int.eq_of_mul_eq_mul_right (by omega) h, fun h => by rw [h]⟩
 simp only [l1, l2]
theorem JEU {x y : Int} (hx : x.natAbs < 2 ^ 53) (hy : y.natAbs < 2 ^ 53) (hxy : (x + y).natAbs < 2 ^ 53) : FloatKind.f64.format.add (fz x) (fz y) = some (fz (x + y)) :=
 JnS (V6 hx) (V6 hy) hxy
theorem JfG {x y : Int} (hx : x.natAbs < 2 ^ 53) (hy : y.natAbs < 2 ^ 53) : FloatKind.f64.format.order (fz x) (fz y) = some (compare x y) := JiW (V6 hx) (V6 hy)
theorem Ju5 (x : Int) : fOf .f64 x = fz x := JqV .f64 x
end Go.Proofs.Ythpmachmnoljeaa.Rx
end

namespace Go.Proofs.Ythpmachmnoljeaa.Rx
noncomputable section
open Go
set_option linter.unusedVariables false
set_option linter.unusedSimpArgs false
set_option maxRecDepth 100000
set_option maxHeartbeats 0
theorem JgR : fz 0 = 0 := by decide +kernel
theorem Jks {a b : Int} (h0 : 0 <= a) (h1 : a <= 1000000) (g0 : 0 <= b) (g1 : b <= 1000000) : FloatKind.f64.format.add (fz a) (fz b) = some (fz (a + b)) :=
  JEU (by
      have : (2 : Nat) ^ 53 = 9007199254740992 := by decide
      rw [this]; omega) (by have : (2 : Nat) ^ 53 = 9007199254740992 := by decide
                            rw [this]; omega) (by have : (2 : Nat) ^ 53 = 9007199254740992 := by decide
                                                  rw [this]; omega)
theorem JLr {a : Int} (h0 : 0 <= a) (h1 : a <= 1000000) : FloatKind.f64.format.add (fz a) 0 = some (fz a) := by
 have := Jks h0 h1 (Int.le_refl 0) (by decide)
 rwa [JgR, Int.add_zero] at this
theorem Ju6 (l : List PV) (ha : aOk l = true) (f : Nat) (k0 : Nat -> Nat -> OR) (z fl : Bool) : ∀ (d i n : Nat) (a b : Int), i + d = l.length -> d < n -> 0 <= a -> a <= 120 * i -> 0 <= b -> b <= 120 * i ->
  ZI f k0 n (fz a) (fz b) z fl l (zi l.length) (i : Int) = k0 (fz (a + inL (l.drop i))) (fz (b + outL (l.drop i)))
 | 0, i, n + 1, a, b, hi, hn, a0, a1, b0, b1 => by
   rw [List.drop_of_length_le (by omega)]
   simp only [ZI, VD, Wz, Wy, Wx, Ww, Wv, Wu, JE, Wt, Ws, inL, outL, Int.add_zero]
   exact Jd (by simp [zi]; omega)
 | d + 1, i, n + 1, a, b, hi, hn, a0, a1, b0, b1 => by
   obtain ⟨h1, hl, _⟩ := Q5.1 ha
   have g1 := tI i
   have w1 := wI (i := i) (by omega)
   have hc := Jkg h1 (i := i) (by omega)
   unfold GZ at hc
   have hk := (YX ha (i := i) (by omega)).2
   rw [J0 (by omega)]
   simp only [ZI, VD, Wz, Wy, Wx, Ww, Wv, Wu, JE, Wt, Ws, g1, w1]
   refine (Ja (by simp [zi]; omega)).trans ((Ja hc).trans ?_)
   generalize l.getD i .top = p at *
   have i1 := Jfj hk
   have o1 := JbB hk
   have e1 : (PV.child 0 p).int = (cv p).kd := rfl
   have e2 : (PV.child (0 + 1) p).int = (cv p).n := rfl
   have e3 : (PV.child (0 + 1 + 1) p).str = (cv p).s := rfl
   have c1 : ∀ x y : Nat, (PV.sc (Value.complex FloatKind.f64 x y)).cre = x := fun _ _ => rfl
   have c2 : ∀ x y : Nat, (PV.sc (Value.complex FloatKind.f64 x y)).cim = y := fun _ _ => rfl
   simp only [e1, e2, e3, c1, c2, Ju5, inL, outL, ← Int.add_assoc]
   have IH := fun a b => Ju6 l ha f k0 z fl d (i + 1) n a b (by omega) (by omega)
   rcases Xq hk with ⟨q1, q2, q3, q4⟩ | ⟨q1, q2, q3, q4⟩
   · rcases q1 with q1 | q1
     · have ei : inC (cv p) = (cv p).n := by unfold inC; rw [q1]; rfl
       have eo : QN (cv p) = (cv p).n := by unfold QN; rw [q1]; rfl
       have r1 := Jks (a := a) (b := (cv p).n) a0 (by omega) (by omega) (by omega)
       have r2 := Jks (a := b) (b := (cv p).n) b0 (by omega) (by omega) (by omega)
       rw [ei, eo]
       simp only [q1, r1, r2, Option.isSome_some, Option.getD_some]
       exact (Jd rfl).trans ((Ja rfl).trans ((Ja rfl).trans (IH _ _ (by omega) (by omega) (by omega) (by omega))))
     · have ei : inC (cv p) = (cv p).n := by unfold inC; rw [q1]; rfl
       have eo : QN (cv p) = 0 := by unfold QN; rw [q1]; show ((cv p).s.size : Int) = 0; omega
       have r1 := Jks (a := a) (b := (cv p).n) a0 (by omega) (by omega) (by omega)
       have r2 := JLr (a := b) b0 (by omega)
       rw [ei, eo]
       simp only [q1, r1, r2, Option.isSome_some, Option.getD_some, Int.add_zero]
       exact (Jd rfl).trans ((Jd rfl).trans ((Jd rfl).trans ((Ja rfl).trans ((Ja rfl).trans (IH _ _ (by omega) (by omega) (by omega) (by omega))))))
   · have ei : inC (cv p) = 0 := by unfold inC; rw [q1]; rfl
     have eo : QN (cv p) = (cv p).s.size := by unfold QN; rw [q1]; rfl
     have r1 := JLr (a := a) a0 (by omega)
     have r2 := Jks (a := b) (b := zi (cv p).s.size) b0 (by omega) (by simp only [zi]; omega) (by simp only [zi]; omega)
     have hz : zi (cv p).s.size = ((cv p).s.size : Int) := rfl
     rw [ei, eo, ← hz]
     simp only [q1, r1, r2, Option.isSome_some, Option.getD_some, Int.add_zero]
     exact (Ja rfl).trans ((Jd rfl).trans ((Ja rfl).trans ((Ja rfl).trans (IH _ _ (by omega) (by omega) (by omega) (by omega)))))
def szI : List PV -> Nat := hid fun l => fz (inL l)
def szO : List PV -> Nat := hid fun l => fz (outL l)
theorem Ju7 (l : List PV) : szI l = fz (inL l) := by rw [szI, hid_eq]
theorem Ju8 (l : List PV) : szO l = fz (outL l) := by rw [szO, hid_eq]
def JiX : Jz
 | [.ro 113 z f o], [], k => bif aOk o then k ⟨.sc (.complex .f64 (szI o) (szO o)), [], []⟩ else none
 | _, _, _ => none
def JAJ : Sig := { own := [], run := JiX }
theorem JEV : Jc tau Try.prog 125 JAJ := Jc.mk' fun xs es k res hl hr => by
 change JiX xs es k = some res at hr
 unfold JiX at hr
 split at hr
 · rename_i z f o
   obtain ⟨hc, hr⟩ := Jv hr
   have hl2 := (Q5.1 hc).2.1
   refine J3 Jn JpX Jo JAH JAI (JpY (Jah 50)) [.ro] 0 0 (JLp 50) hl rfl ((JPd 50 z f o k).trans (Eq.trans ?_ hr))
   unfold JLn
   have h0 := Ju6 o hc 50 (fun x0_0 x1_0 => k (Res.mk (.sc (Value.complex FloatKind.f64 x0_0 x1_0)) [] [])) z f o.length 0 50 0 0 (by omega) (by omega) (by omega) (by omega) (by omega) (by omega)
   rw [JgR] at h0
   refine h0.trans ?_
   rw [List.drop_zero, Int.zero_add, Int.zero_add, Ju7, Ju8]
 · cases hr
def N89 : Nat := 71
def F89 : Fns := Jt 126 JET (Jt 125 JAJ (F0))
theorem Ju9 : Jq tau Try.prog F89 := ((Js).add JEV JLq).add JAG JAF
def Jkt : Code := Qf (Try.f89.body.get!) [1, 0]
def JfH : Nm := [(0, .any), (1, .any), (7, .own), (8, .any)]
def JnT : Nm := [(4, .any), (5, .any)]
def Jp3 : An := (.seq .leaf (.seq (.block none (.seq .leaf (.cond (.seq .leaf .leaf) (.seq .leaf (.cond (.seq .leaf .leaf) .leaf))))) (.seq .leaf (.seq .leaf (.seq .leaf (.seq (.seq .leaf (.cond (.seq .leaf .leaf) .leaf)) (.seq .leaf (.seq (.seq .leaf (.block none (.seq .leaf (.cond .leaf (.seq .leaf (.cond .leaf (.seq .leaf (.cond .leaf .leaf)))))))) (.seq .leaf .leaf)))))))))
def Jym (r0 : Jrl) : An := (.seq .leaf (.ssum JfH N89 (Jp3) r0))
abbrev Jva := ByteArray -> Bool -> Bool -> List PV -> Nat -> Int -> Bool -> List PV -> OR
abbrev JZ (v3 : List PV) (v5 : Int) := (PV.child (0 + 1 + 1) (v3.getD v5.toNat PV.top))
abbrev Q1 (v3 : List PV) (v5 : Int) := (PV.isSt 113 #[Field.mk "Kind" 3 0 false "" "" 0, Field.mk "N" 3 1 false "" "" 8, Field.mk "S" 9 2 false "" "" 16].size (v3.getD v5.toNat PV.top) && (PV.isInt IntKind.i64 (PV.child 0 (v3.getD v5.toNat PV.top)) && (PV.isInt IntKind.i64 (PV.child (0 + 1) (v3.getD v5.toNat PV.top)) && ((JZ v3 v5).isStr && true))))
abbrev Qo (v3 : List PV) (v5 : Int) := (V9 (PV.child (0 + 1) (v3.getD v5.toNat PV.top)).int 0)
abbrev Qp (v0 : ByteArray) (v3 : List PV) (v5 : Int) := (Qh (V9 (zi (JZ v3 v5).str.size) 0) (zi v0.size))
abbrev Wk (v0 : ByteArray) (v3 : List PV) (v5 : Int) := (v0.extract 0 (Qh (Qo v3 v5) (zi v0.size)).toNat)
def XI (f : Nat) (rc : Jva) (k0 : ByteArray -> Int -> OR) (v0 : ByteArray) (v1 v2 : Bool) (v3 : List PV) (v4 : Nat) (v5 : Int) (v6 : Bool) (v7 : List PV) : OR := bif v5 == zi v3.length then bif Jl IntKind.u8 (List.take v4 v7) && true then k0 (ByteArray.mk (Array.mk (JW ((Ent.vec false 5 v6 v7).nil, List.take v4 (List.drop 0 v7)).snd))) (0) else none else bif decide (0 <= v5) && decide (v5 < zi v3.length) && (Q1 v3 v5) && true then bif (PV.child 0 (v3.getD v5.toNat PV.top)).int == 2 then bif decide (0 <= v5) && decide (v5 < zi v3.length) && (Q1 v3 v5) && true then bif (PV.child 0 (v3.getD v5.toNat PV.top)).int == 1 then bif decide (0 <= Qh (V9 (zi (JZ v3 v5).str.size) 0) (zi v0.size)) && true && decide ((Qp v0 v3 v5).toNat <= v0.size) && true then bif Je (v4 + (Ji (v0.extract 0 (Qp v0 v3 v5).toNat)).length) 1 && true then bif decide (0 <= Qh (V9 (zi (JZ v3 v5).str.size) 0) (zi v0.size)) && true && decide ((Qp v0 v3 v5).toNat <= v0.size) && decide (v0.size <= v0.size) && true then rc (v0.extract (Qp v0 v3 v5).toNat v0.size) v1 v2 v3 (v4 + (Ji (v0.extract 0 (Qp v0 v3 v5).toNat)).length) (IntKind.i64.wrap (v5 + 1)) (v6 && (Ji (v0.extract 0 (Qp v0 v3 v5).toNat)).isEmpty) (List.take v4 v7 ++ Ji (v0.extract 0 (Qp v0 v3 v5).toNat)) else none else none else none else bif (PV.child 0 (v3.getD v5.toNat PV.top)).int == 2 then bif decide (0 <= v5) && decide (v5 < zi v3.length) && (Q1 v3 v5) && true then bif Je (v4 + (Ji (JZ v3 v5).str).length) 1 && true then rc v0 v1 v2 v3 (v4 + (Ji (JZ v3 v5).str).length) (IntKind.i64.wrap (v5 + 1)) (v6 && (Ji (JZ v3 v5).str).isEmpty) (List.take v4 v7 ++ Ji (JZ v3 v5).str) else none else none else bif (PV.child 0 (v3.getD v5.toNat PV.top)).int == 3 then bif decide (0 <= Qh (V9 (zi (JZ v3 v5).str.size) 0) (zi v0.size)) && true && decide ((Qp v0 v3 v5).toNat <= v0.size) && decide (v0.size <= v0.size) && true then rc (v0.extract (Qp v0 v3 v5).toNat v0.size) v1 v2 v3 v4 (IntKind.i64.wrap (v5 + 1)) v6 v7 else none else rc v0 v1 v2 v3 v4 (IntKind.i64.wrap (v5 + 1)) v6 v7 else none else bif decide (0 <= v5) && decide (v5 < zi v3.length) && (Q1 v3 v5) && true then bif (PV.child 0 (v3.getD v5.toNat PV.top)).int == 1 then bif decide (0 <= Qh (Qo v3 v5) (zi v0.size)) && true && decide ((Qh (Qo v3 v5) (zi v0.size)).toNat <= v0.size) && true then bif Je (v4 + (Ji (Wk v0 v3 v5)).length) 1 && true then bif decide (0 <= Qh (Qo v3 v5) (zi v0.size)) && true && decide ((Qh (Qo v3 v5) (zi v0.size)).toNat <= v0.size) && decide (v0.size <= v0.size) && true then rc (v0.extract (Qh (Qo v3 v5) (zi v0.size)).toNat v0.size) v1 v2 v3 (v4 + (Ji (Wk v0 v3 v5)).length) (IntKind.i64.wrap (v5 + 1)) (v6 && (Ji (Wk v0 v3 v5)).isEmpty) (List.take v4 v7 ++ Ji (Wk v0 v3 v5)) else none else none else none else bif (PV.child 0 (v3.getD v5.toNat PV.top)).int == 2 then bif decide (0 <= v5) && decide (v5 < zi v3.length) && (Q1 v3 v5) && true then bif Je (v4 + (Ji (JZ v3 v5).str).length) 1 && true then rc v0 v1 v2 v3 (v4 + (Ji (JZ v3 v5).str).length) (IntKind.i64.wrap (v5 + 1)) (v6 && (Ji (JZ v3 v5).str).isEmpty) (List.take v4 v7 ++ Ji (JZ v3 v5).str) else none else none else bif (PV.child 0 (v3.getD v5.toNat PV.top)).int == 3 then bif decide (0 <= Qh (Qo v3 v5) (zi v0.size)) && true && decide ((Qh (Qo v3 v5) (zi v0.size)).toNat <= v0.size) && decide (v0.size <= v0.size) && true then rc (v0.extract (Qh (Qo v3 v5) (zi v0.size)).toNat v0.size) v1 v2 v3 v4 (IntKind.i64.wrap (v5 + 1)) v6 v7 else none else rc v0 v1 v2 v3 v4 (IntKind.i64.wrap (v5 + 1)) v6 v7 else none else none
def Q9 (f : Nat) (k0 : ByteArray -> Int -> OR) : Nat -> Jva
 | 0 => fun _ _ _ _ _ _ _ _ => none
 | n + 1 => XI f (Q9 f k0 n) k0
def JbX (k : Kont) := fun x0 x1 => k Ex.ret (Jj JnT N89 [.sc (.string x0), .sc (.int .i64 x1)] [])
def JnU (f : Nat) (k : Kont) (n : Nat) (v0 : ByteArray) (v1 v2 : Bool) (v3 : List PV) (v4 : Nat) (v5 : Int) (v6 : Bool) (v7 : List PV) : OR := Q2 tau 0 JfH (hasLabel Jkt) (fun l s k => Qi tau F89 0 0 Jkt (Jp3 ) l s k) n 0 (Jj JfH N89 [.sc (.string v0), .ro 113 v1 v2 v3, .ow 5 1152 [] 0 v4 none, .sc (.int .i64 v5)] [(1152, .vec false 5 v6 v7)]) (JG tau 0 JnT k)
theorem Jyn (f : Nat) (k : Kont) (n : Nat) : JnU f k (n + 1) = XI f (JnU f k n) (JbX k) := by kernel_rfl
theorem Jp4 (f : Nat) (k : Kont) : ∀ n, JnU f k n = Q9 f (JbX k) n
 | 0 => rfl
 | n + 1 => (Jyn f k n).trans (congrArg (fun r => XI f r (JbX k)) (Jp4 f k n))
def JfI (f : Nat) : Nat -> List PV -> List (Nat × Ent) -> Kont -> OR
 | 0, [.sc (.string v0), .ro 113 v1 v2 v3, .ow 5 1152 [] 0 v4 none,
 PV.sc
  (Value.int IntKind.i64
   v5)], [(1152, .vec false 5 v6 v7)], k => Q9 f (JbX k) f v0 v1 v2 v3 v4 v5 v6 v7
 | _, _, _, _ => none
theorem JEW (f : Nat) : Jg Jkt Jp3 = [] := by kernel_rfl
theorem JEX (f : Nat) : (Item.s Jkt JfH N89 (JfI f)).Ok tau Try.prog 0 := XV Jn Ju9 Jo (x := Jp3) (nm2 := JnT) (Jk _ _ (by rw [JEW f]; intro q hq; cases hq)) fun l vs hp k res hr => by
 unfold JfI at hr
 split at hr
 · rw [← Jp4 f] at hr; exact ⟨f, 0, hr⟩
 · cases hr
abbrev WM (o : List PV) := (PV.child (0 + 1 + 1) (o.getD 0 PV.top))
abbrev JcI (o : List PV) := (PV.isSt 113 #[Field.mk "Kind" 3 0 false "" "" 0, Field.mk "N" 3 1 false "" "" 8, Field.mk "S" 9 2 false "" "" 16].size (o.getD (Int.toNat 0) PV.top) && (PV.isInt IntKind.i64 (PV.child 0 (o.getD 0 PV.top)) && (PV.isInt IntKind.i64 (PV.child (0 + 1) (o.getD 0 PV.top)) && ((WM o).isStr && true))))
abbrev YG (o : List PV) := (V9 (PV.child (0 + 1) (o.getD 0 PV.top)).int 0)
abbrev YH (doc : ByteArray) (o : List PV) := (Qh (V9 (zi (WM o).str.size) 0) (zi doc.size))
abbrev JfJ (doc : ByteArray) (o : List PV) := (Ji (doc.extract 0 (Qh (YG o) (zi doc.size)).toNat))
def g89 (f : Nat) (doc : ByteArray) (o_z o_f : Bool) (o : List PV) (k : KR) : OR := bif aOk o then bif !(FloatKind.f64.format.order (PV.sc (Value.complex FloatKind.f64 (fOf FloatKind.f64 (zi doc.size)) (szO o))).cre (PV.sc (Value.complex FloatKind.f64 (szI o) (szO o))).cre == some Ordering.eq && FloatKind.f64.format.order (PV.sc (Value.complex FloatKind.f64 (fOf FloatKind.f64 (zi doc.size)) (szO o))).cim (PV.sc (Value.complex FloatKind.f64 (szI o) (szO o))).cim == some Ordering.eq) then k (Res.mk (.tup [.sc (.string (ByteArray.mk (Array.mk []))), .sc (.int .i64 7)]) [] []) else bif FloatKind.f64.format.order (PV.sc (Value.float FloatKind.f64 (szO o))).flo (PV.sc (Value.float FloatKind.f64 4638144666238189568)).flo == some Ordering.gt then k (Res.mk (.tup [.sc (.string (ByteArray.mk (Array.mk []))), .sc (.int .i64 5)]) [] []) else bif 0 == zi o.length then k (Res.mk (.tup [.sc (.string (ByteArray.mk (Array.mk (JW (true, []).snd)))), .sc (.int .i64 0)]) [] []) else bif decide (0 < zi o.length) && (JcI o) && true then bif (PV.child 0 (o.getD 0 PV.top)).int == 2 then bif decide (0 < zi o.length) && (JcI o) && true then bif (PV.child 0 (o.getD 0 PV.top)).int == 1 then bif decide (0 <= Qh (V9 (zi (WM o).str.size) 0) (zi doc.size)) && true && decide ((YH doc o).toNat <= doc.size) && true then bif Je (Ji (doc.extract 0 (YH doc o).toNat)).length 1 && true then bif decide (0 <= Qh (V9 (zi (WM o).str.size) 0) (zi doc.size)) && true && decide ((YH doc o).toNat <= doc.size) && decide (doc.size <= doc.size) && true then Q9 f (fun x0_0 x1_0 => k (Res.mk (.tup [.sc (.string x0_0), .sc (.int .i64 x1_0)]) [] [])) f (doc.extract (YH doc o).toNat doc.size) o_z o_f o ((Ji (doc.extract 0 (YH doc o).toNat)).length) (IntKind.i64.wrap (0 + 1)) ((Ji (doc.extract 0 (YH doc o).toNat)).isEmpty) (Ji (doc.extract 0 (YH doc o).toNat)) else none else none else none else bif (PV.child 0 (o.getD 0 PV.top)).int == 2 then bif decide (0 < zi o.length) && (JcI o) && true then bif Je (Ji (WM o).str).length 1 && true then Q9 f (fun x0_1 x1_1 => k (Res.mk (.tup [.sc (.string x0_1), .sc (.int .i64 x1_1)]) [] [])) f doc o_z o_f o ((Ji (WM o).str).length) (IntKind.i64.wrap (0 + 1)) ((Ji (WM o).str).isEmpty) (Ji (WM o).str) else none else none else bif (PV.child 0 (o.getD 0 PV.top)).int == 3 then bif decide (0 <= Qh (V9 (zi (WM o).str.size) 0) (zi doc.size)) && true && decide ((YH doc o).toNat <= doc.size) && decide (doc.size <= doc.size) && true then Q9 f (fun x0_2 x1_2 => k (Res.mk (.tup [.sc (.string x0_2), .sc (.int .i64 x1_2)]) [] [])) f (doc.extract (YH doc o).toNat doc.size) o_z o_f o (0) (IntKind.i64.wrap (0 + 1)) true ([]) else none else Q9 f (fun x0_3 x1_3 => k (Res.mk (.tup [.sc (.string x0_3), .sc (.int .i64 x1_3)]) [] [])) f doc o_z o_f o (0) (IntKind.i64.wrap (0 + 1)) true ([]) else none else bif decide (0 < zi o.length) && (JcI o) && true then bif (PV.child 0 (o.getD 0 PV.top)).int == 1 then bif decide (0 <= Qh (YG o) (zi doc.size)) && true && decide ((Qh (YG o) (zi doc.size)).toNat <= doc.size) && true then bif Je (JfJ doc o).length 1 && true then bif decide (0 <= Qh (YG o) (zi doc.size)) && true && decide ((Qh (YG o) (zi doc.size)).toNat <= doc.size) && decide (doc.size <= doc.size) && true then Q9 f (fun x0_4 x1_4 => k (Res.mk (.tup [.sc (.string x0_4), .sc (.int .i64 x1_4)]) [] [])) f (doc.extract (Qh (YG o) (zi doc.size)).toNat doc.size) o_z o_f o ((JfJ doc o).length) (IntKind.i64.wrap (0 + 1)) ((JfJ doc o).isEmpty) (JfJ doc o) else none else none else none else bif (PV.child 0 (o.getD 0 PV.top)).int == 2 then bif decide (0 < zi o.length) && (JcI o) && true then bif Je (Ji (WM o).str).length 1 && true then Q9 f (fun x0_5 x1_5 => k (Res.mk (.tup [.sc (.string x0_5), .sc (.int .i64 x1_5)]) [] [])) f doc o_z o_f o ((Ji (WM o).str).length) (IntKind.i64.wrap (0 + 1)) ((Ji (WM o).str).isEmpty) (Ji (WM o).str) else none else none else bif (PV.child 0 (o.getD 0 PV.top)).int == 3 then bif decide (0 <= Qh (YG o) (zi doc.size)) && true && decide ((Qh (YG o) (zi doc.size)).toNat <= doc.size) && decide (doc.size <= doc.size) && true then Q9 f (fun x0_6 x1_6 => k (Res.mk (.tup [.sc (.string x0_6), .sc (.int .i64 x1_6)]) [] [])) f (doc.extract (Qh (YG o) (zi doc.size)).toNat doc.size) o_z o_f o (0) (IntKind.i64.wrap (0 + 1)) true ([]) else none else Q9 f (fun x0_7 x1_7 => k (Res.mk (.tup [.sc (.string x0_7), .sc (.int .i64 x1_7)]) [] [])) f doc o_z o_f o (0) (IntKind.i64.wrap (0 + 1)) true ([]) else none else none else none
theorem e89 (f : Nat) (doc : ByteArray) (o_z o_f : Bool) (o : List PV) (k : KR) : JJ tau F89 Try.f89 (Try.f89.body.get!) (Jym (JfI f)) [.ro, .ro] 0 [.sc (.string doc), .ro 113 o_z o_f o] [] k = g89 f doc o_z o_f o k := by kernel_rfl
theorem JPe (f : Nat) : Jg (Try.f89.body.get!) (Jym (JfI f)) = [.s Jkt JfH N89 (JfI f)] := by kernel_rfl
theorem JPf (f : Nat) : ∀ q ∈ Jg (Try.f89.body.get!) (Jym (JfI f)), q.Ok tau Try.prog 0 := by rw [JPe f]; exact JL (JEX f) (fun _ h => nomatch h)
theorem JLs : Try.prog.funcs[89]? = some Try.f89 := by kernel_rfl
theorem JLt : Try.f89.body = some (Try.f89.body.get!) := by kernel_rfl
theorem JPg : Enters Try.prog 89 := enters_of JLs (by kernel_rfl) JLt
def Jf2 : List PV -> List UInt8 -> List UInt8
 | [], _ => []
 | p :: ps, t =>
  bif (cv p).kd == 1 then t.take (cv p).n.toNat ++ Jf2 ps (t.drop (cv p).n.toNat)
  else bif (cv p).kd == 2 then (cv p).s.data.toList ++ Jf2 ps t
  else Jf2 ps (t.drop (cv p).n.toNat)
theorem JbY : ∀ (l : List PV) (doc : ByteArray) (at1 : Nat) (out : ByteArray), (apl l doc at1 out).data.toList = out.data.toList ++ Jf2 l (doc.data.toList.drop at1)
 | [], doc, at1, out => by simp [apl, Jf2]
 | p :: ps, doc, at1, out => by
  simp only [apl, Jf2]
  cases (cv p).kd == 1 with
  | true =>
   simp only [cond_true]
   rw [JbY, ByteArray.data_append, Array.toList_append, ByteArray.data_extract, Array.toList_extract, List.extract_eq_take_drop, List.append_assoc, List.drop_drop]
   have e : at1 + (cv p).n.toNat - at1 = (cv p).n.toNat := by omega
   rw [e]
  | false =>
   simp only [cond_false]
   cases (cv p).kd == 2 with
   | true => simp only [cond_true]; rw [JbY, ByteArray.data_append, Array.toList_append, List.append_assoc]
   | false => simp only [cond_false]; rw [JbY, List.drop_drop]
def ob (l : List UInt8) : List PV := l.map fun b => .sc (.int .u8 b.toNat)
theorem JLu (s : ByteArray) : Ji s = ob s.data.toList := rfl
theorem JEY (a b : List UInt8) : ob a ++ ob b = ob (a ++ b) := by simp [ob]
theorem JnV (a : List UInt8) : (ob a).length = a.length := by simp [ob]
theorem JAK : ∀ l : List UInt8, JW (ob l) = l
 | [] => rfl
 | b :: l => by
  show UInt8.ofNat ((b.toNat : Int)).toNat :: JW (ob l) = _
  rw [JAK l, Int.toNat_natCast, UInt8.ofNat_toNat]
theorem Jvb : ∀ l : List UInt8, Jl .u8 (ob l) = true
 | [] => rfl
 | b :: l => by
  show (PV.isInt .u8 (.sc (.int .u8 b.toNat)) && Jl .u8 (ob l)) = true
  rw [Jvb l]; rfl
theorem JEZ {a b : ByteArray} (h : a.data.toList = b.data.toList) : a = b := by
 cases a with
 | mk x => cases b with
  | mk y => exact congrArg ByteArray.mk (Array.ext' h)
theorem JAL {n m : Int} (h0 : 0 <= n) (h1 : n <= m) : Qh (V9 n 0) m = n := by
 unfold Qh V9
 by_cases h : n < 0
 · omega
 · rw [if_neg h]
   by_cases g : m < n
   · omega
   · rw [if_neg g]
theorem Jyo (f : Nat) (rc : ByteArray -> Bool -> Bool -> List PV -> Nat -> Int -> Bool -> List PV -> OR) (k0 : ByteArray -> Int -> OR) (r : ByteArray) (z fl : Bool) (l : List PV) (out : List UInt8) (q : Bool) :
  XI f rc k0 r z fl l out.length (l.length : Int) q (ob out) = k0 ⟨⟨out⟩⟩ 0 := by
 have e : List.take out.length (ob out) = ob out := by rw [← JnV out]; exact List.take_length
 simp only [XI, Wk, Qp, Qo, Q1, JZ, List.drop_zero, e, JAK, Jvb]
 exact Ja (beq_self_eq_true _)
theorem Jvc (f : Nat) (rc : ByteArray -> Bool -> Bool -> List PV -> Nat -> Int -> Bool -> List PV -> OR) (k0 : ByteArray -> Int -> OR) (r : ByteArray) (z fl : Bool) (l : List PV) (ha : aOk l = true) (out : List UInt8) (q : Bool) (i : Nat) (hi : i < l.length) (X : OR)
   (hr : inC (cv (l.getD i .top)) <= r.size) (ho : (out.length : Int) + QN (cv (l.getD i .top)) <= 1000)
   (h : ∀ (r2 : ByteArray) (o2 : List UInt8) (q2 : Bool),
     (bif (cv (l.getD i .top)).kd == 1 then r2.data.toList = r.data.toList.drop (cv (l.getD i .top)).n.toNat /\ o2 = out ++ r.data.toList.take (cv (l.getD i .top)).n.toNat
       else bif (cv (l.getD i .top)).kd == 2 then r2.data.toList = r.data.toList /\ o2 = out ++ (cv (l.getD i .top)).s.data.toList
       else r2.data.toList = r.data.toList.drop (cv (l.getD i .top)).n.toNat /\ o2 = out : Prop) ->
     rc r2 z fl l o2.length ((i + 1 : Nat) : Int) q2 (ob o2) = X) :
   XI f rc k0 r z fl l out.length (i : Int) q (ob out) = X := by
 obtain ⟨h1, hl, hck⟩ := Q5.1 ha
 have g1 := tI i
 have w1 := wI (i := i) (by omega)
 have hc := Jkg h1 (i := i) (by omega)
 unfold GZ at hc
 have hk := (YX ha (i := i) (by omega)).2
 have e : List.take out.length (ob out) = ob out := by rw [← JnV out]; exact List.take_length
 simp only [XI, Wk, Qp, Qo, Q1, JZ, g1, w1, e, JLu, JEY, JnV, ← List.length_append]
 generalize l.getD i .top = p at *
 have e1 : (PV.child 0 p).int = (cv p).kd := rfl
 have e2 : (PV.child (0 + 1) p).int = (cv p).n := rfl
 have e3 : (PV.child (0 + 1 + 1) p).str = (cv p).s := rfl
 simp only [e1, e2, e3]
 refine (Jd (beq_false_of_ne (by simp only [zi]; omega))).trans ((Ja hc).trans ?_)
 have hn0 : ∀ (n : Nat), n <= r.size -> (r.extract 0 n).data.toList = r.data.toList.take n := fun n hn => by
   rw [ByteArray.data_extract, Array.toList_extract, List.extract_eq_take_drop, List.drop_zero, Nat.sub_zero]
 have hn1 : ∀ (n : Nat), (r.extract n r.size).data.toList = r.data.toList.drop n := fun n => by
   rw [ByteArray.data_extract, Array.toList_extract, List.extract_eq_take_drop]
   exact List.take_of_length_le (by rw [List.length_drop]; exact Nat.le_refl _)
 have hlen : r.data.toList.length = r.size := rfl
 rcases Xq hk with ⟨q1, q2, q3, q4⟩ | ⟨q1, q2, q3, q4⟩
 · rcases q1 with q1 | q1
   · have ei : inC (cv p) = (cv p).n := by unfold inC; rw [q1]; rfl
     have eo : QN (cv p) = (cv p).n := by unfold QN; rw [q1]; rfl
     rw [ei] at hr
     rw [eo] at ho
     have mm := JAL (n := (cv p).n) (m := zi r.size) (by omega) (by simp only [zi]; omega)
     have hx := hn0 (cv p).n.toNat (by omega)
     rw [q1] at h ⊢
     simp only [mm, hx]
     refine (Jd rfl).trans ((Ja hc).trans ((Ja rfl).trans ?_))
     refine (Ja (by simp [zi]; omega)).trans ((Ja ?_).trans ((Ja (by simp [zi]; omega)).trans ?_))
     · simp [Je]; omega
     · exact h _ _ _ ⟨hn1 _, rfl⟩
   · have ei : inC (cv p) = (cv p).n := by unfold inC; rw [q1]; rfl
     rw [ei] at hr
     have mm := JAL (n := (cv p).n) (m := zi r.size) (by omega) (by simp only [zi]; omega)
     rw [q1] at h ⊢
     simp only [mm]
     refine (Jd rfl).trans ((Ja hc).trans ((Jd rfl).trans ((Jd rfl).trans ((Ja rfl).trans ?_))))
     refine (Ja (by simp [zi]; omega)).trans ?_
     exact h _ _ _ ⟨hn1 _, rfl⟩
 · have eo : QN (cv p) = (cv p).s.size := by unfold QN; rw [q1]; rfl
   rw [eo] at ho
   have hs : (cv p).s.data.toList.length = (cv p).s.size := rfl
   rw [q1] at h ⊢
   refine (Ja rfl).trans ((Ja hc).trans ((Jd rfl).trans ((Ja rfl).trans ((Ja hc).trans ?_))))
   refine (Ja ?_).trans ?_
   · simp [Je]; omega
   · exact h _ _ _ ⟨rfl, rfl⟩
theorem Jp5 (l : List PV) (ha : aOk l = true) (f : Nat) (k0 : ByteArray -> Int -> OR) (z fl : Bool) : ∀ (d i n : Nat) (r : ByteArray) (out : List UInt8) (q : Bool), i + d = l.length -> d < n -> inL (l.drop i) <= r.size -> (out.length : Int) + outL (l.drop i) <= 1000 ->
  Q9 f k0 n r z fl l out.length (i : Int) q (ob out) = k0 ⟨⟨out ++ Jf2 (l.drop i) r.data.toList⟩⟩ 0
 | 0, i, n + 1, r, out, q, hi, hn, h3, h4 => by
   rw [List.drop_of_length_le (by omega)]
   obtain rfl : i = l.length := by omega
   simp only [Q9, Jf2, List.append_nil]
   exact Jyo f _ k0 r z fl l out q
 | d + 1, i, n + 1, r, out, q, hi, hn, h3, h4 => by
   obtain ⟨h1, hl, hck⟩ := Q5.1 ha
   have hck' : ∀ q ∈ l.drop (i + 1), ckC (cv q) = 0 := fun q hq => hck q (List.mem_of_mem_drop hq)
   have hin := X8 hck'
   have hon := Yu hck'
   have hk := (YX ha (i := i) (by omega)).2
   rw [J0 (by omega)] at h3 h4 ⊢
   simp only [Q9, Jf2]
   simp only [inL, outL] at h3 h4
   have i1 := Jfj hk
   have o1 := JbB hk
   refine Jvc f _ k0 r z fl l ha out q i (by omega) _ (by omega) (by omega) fun r2 o2 q2 h => ?_
   generalize l.getD i .top = p at *
   have sz : ∀ x : ByteArray, x.data.toList.length = x.size := fun _ => rfl
   rcases Xq hk with ⟨q1, q3, q4, q5⟩ | ⟨q1, q3, q4, q5⟩
   · rcases q1 with q1 | q1
     · have ei : inC (cv p) = (cv p).n := by unfold inC; rw [q1]; rfl
       have eo : QN (cv p) = (cv p).n := by unfold QN; rw [q1]; rfl
       rw [q1] at h ⊢
       obtain ⟨e1, e2⟩ := h
       have l1 := congrArg List.length e1
       have l2 := congrArg List.length e2
       rw [List.length_drop, sz, sz] at l1
       rw [List.length_append, List.length_take, sz] at l2
       rw [Jp5 l ha f k0 z fl d (i + 1) n r2 o2 q2 (by omega) (by omega) (by omega) (by omega), e1, e2, List.append_assoc]
       rfl
     · have ei : inC (cv p) = (cv p).n := by unfold inC; rw [q1]; rfl
       rw [q1] at h ⊢
       obtain ⟨e1, e2⟩ := h
       have l1 := congrArg List.length e1
       rw [List.length_drop, sz, sz] at l1
       subst e2
       rw [Jp5 l ha f k0 z fl d (i + 1) n r2 _ q2 (by omega) (by omega) (by omega) (by omega), e1]
       rfl
   · have ei : inC (cv p) = 0 := by unfold inC; rw [q1]; rfl
     have eo : QN (cv p) = (cv p).s.size := by unfold QN; rw [q1]; rfl
     rw [q1] at h ⊢
     obtain ⟨e1, e2⟩ := h
     have l1 := congrArg List.length e1
     have l2 := congrArg List.length e2
     rw [sz, sz] at l1
     rw [List.length_append, sz] at l2
     rw [Jp5 l ha f k0 z fl d (i + 1) n r2 o2 q2 (by omega) (by omega) (by omega) (by omega), e1, e2, List.append_assoc]
     rfl
theorem JE0 (f : Nat) (doc : ByteArray) (z fl : Bool) (o : List PV) (k : KR) : g89 f doc z fl o k =
  bif aOk o then
   bif !(FloatKind.f64.format.order (fOf .f64 (zi doc.size)) (szI o) == some Ordering.eq && FloatKind.f64.format.order (szO o) (szO o) == some Ordering.eq) then k ⟨.tup [.sc (.string (ByteArray.mk (Array.mk []))), .sc (.int .i64 7)], [], []⟩
   else bif FloatKind.f64.format.order (szO o) 4638144666238189568 == some Ordering.gt then k ⟨.tup [.sc (.string (ByteArray.mk (Array.mk []))), .sc (.int .i64 5)], [], []⟩
   else XI f (Q9 f (fun x y => k ⟨.tup [.sc (.string x), .sc (.int .i64 y)], [], []⟩) f) (fun x y => k ⟨.tup [.sc (.string x), .sc (.int .i64 y)], [], []⟩) doc z fl o 0 0 true []
  else none := by
 unfold g89 JfJ YH YG JcI WM XI Wk Qp Qo Q1 JZ
 simp only [Nat.zero_add]
 rfl
theorem JLv (a b : Int) : compare a b = if a < b then .lt else if a = b then .eq else .gt := rfl
theorem JiY {a b : Int} : compare a b = .eq ↔ a = b := by
 rw [JLv]
 by_cases h : a < b
 · rw [if_pos h]; exact ⟨fun e => (nomatch e), fun e => by omega⟩
 · rw [if_neg h]
   by_cases g : a = b
   · rw [if_pos g]; exact ⟨fun _ => g, fun _ => rfl⟩
   · rw [if_neg g]; exact ⟨fun e => (nomatch e), fun e => absurd e g⟩
theorem Jp6 {a b : Int} : compare a b = .gt ↔ a > b := by
 rw [JLv]
 by_cases h : a < b
 · rw [if_pos h]; exact ⟨fun e => (nomatch e), fun e => by omega⟩
 · rw [if_neg h]
   by_cases g : a = b
   · rw [if_pos g]; exact ⟨fun e => (nomatch e), fun e => by omega⟩
   · rw [if_neg g]; exact ⟨fun _ => by omega, fun _ => rfl⟩
theorem f120 : fz 120 = 4638144666238189568 := by decide +kernel
def JnW : Jz
 | [.sc (.string doc), .ro 113 z f o], [], k => bif aOk o && decide (doc.size <= 10000) then k ⟨.tup [.sc (.string (apD ⟨doc, o⟩)), .sc (.int .i64 (apE ⟨doc, o⟩))], [], []⟩ else none
 | _, _, _ => none
def JLw : Sig := { own := [], run := JnW }
theorem JE1 (doc : ByteArray) (z f : Bool) (o : List PV) (h : aOk o = true) (hd : doc.size <= 10000) (k : KR) : g89 50 doc z f o k = k ⟨.tup [.sc (.string (apD ⟨doc, o⟩)), .sc (.int .i64 (apE ⟨doc, o⟩))], [], []⟩ := by
 obtain ⟨h1, h2, h3⟩ := Q5.1 h
 have p53 : (2 : Nat) ^ 53 = 9007199254740992 := by decide
 have hle := Jnh h3
 have hI := X8 h3
 have hO := Yu h3
 have hOle : ∀ {l : List PV}, (∀ p ∈ l, ckC (cv p) = 0) -> outL l <= 120 * l.length := by
   intro l
   induction l with
   | nil => intro _; simp [outL]
   | cons p l ih =>
     intro h
     have h1 := (JbB (h p List.mem_cons_self)).2
     have h2 := ih fun q hq => h q (List.mem_cons_of_mem _ hq)
     simp only [outL, List.length_cons]; omega
 have hOl := hOle h3
 rw [JE0, Jng, Jt1, Jkh, Ju5, Ju7, Ju8, ← f120]
 have r1 : FloatKind.f64.format.order (fz (zi doc.size)) (fz (inL o)) = some (compare (zi doc.size) (inL o)) := JfG (by rw [p53]; simp only [zi]; omega) (by rw [p53]; omega)
 have r2 : FloatKind.f64.format.order (fz (outL o)) (fz (outL o)) = some (compare (outL o) (outL o)) := JfG (by rw [p53]; omega) (by rw [p53]; omega)
 have r3 : FloatKind.f64.format.order (fz (outL o)) (fz 120) = some (compare (outL o) 120) := JfG (by rw [p53]; omega) (by rw [p53]; decide)
 have r4 : compare (outL o) (outL o) = .eq := JiY.2 rfl
 rw [r1, r2, r3, r4]
 refine (Ja h).trans ?_
 by_cases hi : inL o = zi doc.size
 · have c1 : compare (zi doc.size) (inL o) = .eq := JiY.2 hi.symm
   have c2 : (inL o != zi doc.size) = false := by rw [hi]; simp
   rw [c1, c2]
   refine (Jd rfl).trans ?_
   by_cases ho : outL o > 120
   · have c3 : compare (outL o) 120 = .gt := Jp6.2 ho
     rw [c3, decide_eq_true ho]
     rfl
   · have c3 : (some (compare (outL o) 120) == some Ordering.gt) = false := beq_false_of_ne fun e => ho (Jp6.1 (Option.some.inj e))
     rw [c3, decide_eq_false ho]
     refine (Jd rfl).trans ?_
     have := Jp5 o h 50 (fun x y => k ⟨.tup [.sc (.string x), .sc (.int .i64 y)], [], []⟩) z f o.length 0 51 doc [] true (by omega) (by omega) (by rw [List.drop_zero, hi]; simp [zi]) (by rw [List.drop_zero]; simp; omega)
     simp only [Q9, List.drop_zero, List.nil_append] at this
     have e2 : apl o doc 0 (ByteArray.mk (Array.mk [])) = ⟨⟨Jf2 o doc.data.toList⟩⟩ := JEZ (by rw [JbY, List.drop_zero]; rfl)
     refine this.trans ?_
     rw [← e2]; rfl
 · have c1 : (some (compare (zi doc.size) (inL o)) == some Ordering.eq) = false := beq_false_of_ne fun e => hi (JiY.1 (Option.some.inj e)).symm
   have c2 : (inL o != zi doc.size) = true := by simp [bne, hi]
   rw [c1, c2]
   rfl
theorem JLx : Jc tau Try.prog 89 JLw := Jc.mk' fun xs es k res hl hr => by
 change JnW xs es k = some res at hr
 unfold JnW at hr
 split at hr
 · rename_i doc z f o
   obtain ⟨hc, hr⟩ := Jv hr
   have hd := (Bool.and_eq_true _ _ ▸ hc).2
   have hc := (Bool.and_eq_true _ _ ▸ hc).1
   exact J3 Jn Ju9 Jo JLs JLt (Jym (JfI 50)) [.ro, .ro] 0 0 (JPf 50) hl rfl ((e89 50 doc z f o k).trans ((JE1 doc z f o hc (of_decide_eq_true hd) k).trans hr))
 · cases hr
def N40 : Nat := 79
def F40 : Fns := Jt 91 JLi (Jt 90 JLg (Jt 89 JLw (Jt 88 Jv2 (F0))))
theorem Jvd : Jq tau Try.prog F40 := ((((Js).add JrB JA5).add JLx JPg).add JLh JO7).add JLj JPa
def Jku : Code := Qf (Try.f40.body.get!) [1, 0]
def JfK : Nm := [(0, .any), (1, .any)]
def JnX : Nm := [(4, .any)]
def Jp7 : An := (.seq (.seq .leaf (.block none (.seq .leaf (.cond (.seq (.seq .leaf (.seq .leaf (.cond (.seq .leaf .leaf) .leaf))) (.seq .leaf (.seq .leaf .leaf))) (.seq .leaf (.cond (.seq (.seq .leaf (.cond .leaf .leaf)) (.seq .leaf (.seq .leaf .leaf))) .leaf)))))) (.seq (.seq .leaf (.cond .leaf .leaf)) (.seq .leaf (.seq (.seq .leaf .leaf) (.seq .leaf (.seq .leaf .leaf))))))
def Jyp (r0 : Jrl) : An := (.seq .leaf (.ssum JfK N40 (Jp7) r0))
abbrev Jve := Bool -> Bool -> List PV -> Int -> Int -> ByteArray -> Bool -> Bool -> List PV -> Int -> List PV -> Int -> Int -> Int -> Int -> List PV -> Int -> Bool -> Bool -> List PV -> Int -> Int -> OR
def JdI (f : Nat) (rc : Jve) (k0 : Int -> Int -> Int -> ByteArray -> Bool -> Bool -> List PV -> Int -> List PV -> Int -> Int -> Int -> Int -> List PV -> Int -> Bool -> Bool -> List PV -> Int -> Int -> OR) (v0 v1 : Bool) (v2 : List PV) (v3 v4 : Int) (v5 : ByteArray) (v6 v7 : Bool) (v8 : List PV) (v9 : Int) (v10 : List PV) (v11 v12 v13 v14 : Int) (v15 : List PV) (v16 : Int) (v17 v18 : Bool) (v19 : List PV) (v20 v21 : Int) : OR := k0 (1) v3 v4 v5 v6 v7 v8 v9 v10 v11 v12 v13 v14 v15 v16 v17 v18 v19 v20 v21
def JcJ (f : Nat) (k0 : Int -> Int -> Int -> ByteArray -> Bool -> Bool -> List PV -> Int -> List PV -> Int -> Int -> Int -> Int -> List PV -> Int -> Bool -> Bool -> List PV -> Int -> Int -> OR) : Nat -> Jve
 | 0 => fun _ _ _ _ _ _ _ _ _ _ _ _ _ _ _ _ _ _ _ _ _ _ => none
 | n + 1 => JdI f (JcJ f k0 n) k0
def JbZ (k : Kont) := fun x0 x1 x2 x3 x4 x5 x6 x7 x8 x9 x10 x11 x12 x13 x14 x15 x16 x17 x18 x19 => k Ex.ret (Jj JnX N40 [.sc (.int .i64 x0)] [(0, .box false 98 (PV.st 98 [.st 39 [.st 34 [.sc (.int .i64 x1), .sc (.int .i64 x2)], .sc (.string x3), .ro 42 x4 x5 x6, .sc (.int .i64 x7), .ar 37 x8], .st 53 [.st 42 [.sc (.int .i64 x9), .sc (.int .i64 x10)], .sc (.int .i64 x11), .sc (.int .i64 x12), .ar 37 x13, .sc (.int .i64 x14), .ro 113 x15 x16 x17, .st 42 [.sc (.int .i64 x18), .sc (.int .i64 x19)]]]))])
def JnY (f : Nat) (k : Kont) (n : Nat) (v0 v1 : Bool) (v2 : List PV) (v3 v4 : Int) (v5 : ByteArray) (v6 v7 : Bool) (v8 : List PV) (v9 : Int) (v10 : List PV) (v11 v12 v13 v14 : Int) (v15 : List PV) (v16 : Int) (v17 v18 : Bool) (v19 : List PV) (v20 v21 : Int) : OR := Q2 tau 1 JfK (hasLabel Jku) (fun l s k => Qi tau F40 1 0 Jku (Jp7 ) l s k) n 0 (Jj JfK N40 [.ptr 0 [], .ro 113 v0 v1 v2] [(0, .box false 98 (PV.st 98 [.st 39 [.st 34 [.sc (.int .i64 v3), .sc (.int .i64 v4)], .sc (.string v5), .ro 42 v6 v7 v8, .sc (.int .i64 v9), .ar 37 v10], .st 53 [.st 42 [.sc (.int .i64 v11), .sc (.int .i64 v12)], .sc (.int .i64 v13), .sc (.int .i64 v14), .ar 37 v15, .sc (.int .i64 v16), .ro 113 v17 v18 v19, .st 42 [.sc (.int .i64 v20), .sc (.int .i64 v21)]]]))]) (JG tau 1 JnX k)
theorem Jyq (f : Nat) (k : Kont) (n : Nat) : JnY f k (n + 1) = JdI f (JnY f k n) (JbZ k) := by kernel_rfl
theorem Jp8 (f : Nat) (k : Kont) : ∀ n, JnY f k n = JcJ f (JbZ k) n
 | 0 => rfl
 | n + 1 => (Jyq f k n).trans (congrArg (fun r => JdI f r (JbZ k)) (Jp8 f k n))
def JfL (f : Nat) : Nat -> List PV -> List (Nat × Ent) -> Kont -> OR
 | 0, [.ptr 0 [],
 PV.ro 113 v0 v1
  v2], [(0,
  Ent.box false 98
   (PV.st 98
    [.st 39 [.st 34 [.sc (.int .i64 v3), .sc (.int .i64 v4)], .sc (.string v5), .ro 42 v6 v7 v8, .sc (.int .i64 v9), .ar 37 v10],
     PV.st 53
      [.st 42 [.sc (.int .i64 v11), .sc (.int .i64 v12)], .sc (.int .i64 v13), .sc (.int .i64 v14), .ar 37 v15,
       .sc (.int .i64 v16), .ro 113 v17 v18 v19,
       PV.st 42
        [.sc (.int .i64 v20),
         PV.sc
          (Value.int IntKind.i64
           v21)]]]))], k => JcJ f (JbZ k) f v0 v1 v2 v3 v4 v5 v6 v7 v8 v9 v10 v11 v12 v13 v14 v15 v16 v17 v18 v19 v20 v21
 | _, _, _, _ => none
theorem JE2 (f : Nat) : Jg Jku Jp7 = [] := by kernel_rfl
theorem JE3 (f : Nat) : (Item.s Jku JfK N40 (JfL f)).Ok tau Try.prog 1 := XV Jn Jvd Jo (x := Jp7) (nm2 := JnX) (Jk _ _ (by rw [JE2 f]; intro q hq; cases hq)) fun l vs hp k res hr => by
 unfold JfL at hr
 split at hr
 · rw [← Jp8 f] at hr; exact ⟨f, 0, hr⟩
 · cases hr
def g40 (f : Nat) (y0 y1 : Int) (y2 : ByteArray) (y3 y4 : Bool) (y5 : List PV) (y6 : Int) (y7 : List PV) (y8 y9 y10 y11 : Int) (y12 : List PV) (y13 : Int) (y14 y15 : Bool) (y16 : List PV) (y17 y18 : Int) (o_z o_f : Bool) (o : List PV) (k : KR) : OR := bif y13 == 1 then bif cOk o then bif ckO o != 0 then k (Res.mk (.sc (.int .i64 (ckO o))) [.box false 98 (PV.st 98 [.st 39 [.st 34 [.sc (.int .i64 y0), .sc (.int .i64 y1)], .sc (.string y2), .ro 42 y3 y4 y5, .sc (.int .i64 y6), .ar 37 y7], .st 53 [.st 42 [.sc (.int .i64 y8), .sc (.int .i64 y9)], .sc (.int .i64 y10), .sc (.int .i64 y11), .ar 37 y12, .sc (.int .i64 y13), .ro 113 y14 y15 y16, .st 42 [.sc (.int .i64 y17), .sc (.int .i64 y18)]]])] []) else bif aOk o && decide (y2.size <= 10000) then k (Res.mk (.sc (.int .i64 (apE (AP.mk y2 o)))) [.box false 98 (PV.st 98 [.st 39 [.st 34 [.sc (.int .i64 y0), .sc (.int .i64 y1)], .sc (.string (apD (AP.mk y2 o))), .ro 42 y3 y4 y5, .sc (.int .i64 y6), .ar 37 y7], .st 53 [.st 42 [.sc (.int .i64 y8), .sc (.int .i64 y9)], .sc (.int .i64 y10), .sc (.int .i64 y11), .ar 37 y12, .sc (.int .i64 y13), .ro 113 y14 y15 y16, .st 42 [.sc (.int .i64 y17), .sc (.int .i64 y18)]]])] []) else none else none else bif y13 == 2 then bif decide (zi o.length > 0) then JcJ f (fun x0_0 x1_0 x2_0 x3_0 x4_0 Q6 x6_0 x7_0 x8_0 x9_0 x10_0 Jp x12_0 Wq x14_0 x15_0 x16_0 x17_0 x18_0 x19_0 => k (Res.mk (.sc (.int .i64 x0_0)) [.box false 98 (PV.st 98 [.st 39 [.st 34 [.sc (.int .i64 x1_0), .sc (.int .i64 x2_0)], .sc (.string x3_0), .ro 42 x4_0 Q6 x6_0, .sc (.int .i64 x7_0), .ar 37 x8_0], .st 53 [.st 42 [.sc (.int .i64 x9_0), .sc (.int .i64 x10_0)], .sc (.int .i64 Jp), .sc (.int .i64 x12_0), .ar 37 Wq, .sc (.int .i64 x14_0), .ro 113 x15_0 x16_0 x17_0, .st 42 [.sc (.int .i64 x18_0), .sc (.int .i64 x19_0)]]])] [])) f o_z o_f o y0 y1 y2 y3 y4 y5 y6 y7 y8 y9 y10 y11 y12 y13 y14 y15 y16 y17 y18 else bif pOk y5 && zOk y3 y5 then k (Res.mk (.sc (.int .i64 (adE (PH.mk y5 (AV.mk y17 y18))))) [.box false 98 (PV.st 98 [.st 39 [.st 34 [.sc (.int .i64 y0), .sc (.int .i64 y1)], .sc (.string y2), .ro 42 (adF (PH.mk y5 (AV.mk y17 y18)) && y3) (adF (PH.mk y5 (AV.mk y17 y18)) && y3) (adL (PH.mk y5 (AV.mk y17 y18))), .sc (.int .i64 y6), .ar 37 y7], .st 53 [.st 42 [.sc (.int .i64 y8), .sc (.int .i64 y9)], .sc (.int .i64 y10), .sc (.int .i64 y11), .ar 37 y12, .sc (.int .i64 y13), .ro 113 y14 y15 y16, .st 42 [.sc (.int .i64 y17), .sc (.int .i64 y18)]]])] []) else none else bif decide (zi o.length > 0) then JcJ f (fun x0_1 x1_1 x2_1 x3_1 x4_1 Yd x6_1 x7_1 x8_1 x9_1 x10_1 x11_1 x12_1 x13_1 x14_1 x15_1 x16_1 x17_1 x18_1 x19_1 => k (Res.mk (.sc (.int .i64 x0_1)) [.box false 98 (PV.st 98 [.st 39 [.st 34 [.sc (.int .i64 x1_1), .sc (.int .i64 x2_1)], .sc (.string x3_1), .ro 42 x4_1 Yd x6_1, .sc (.int .i64 x7_1), .ar 37 x8_1], .st 53 [.st 42 [.sc (.int .i64 x9_1), .sc (.int .i64 x10_1)], .sc (.int .i64 x11_1), .sc (.int .i64 x12_1), .ar 37 x13_1, .sc (.int .i64 x14_1), .ro 113 x15_1 x16_1 x17_1, .st 42 [.sc (.int .i64 x18_1), .sc (.int .i64 x19_1)]]])] [])) f o_z o_f o y0 y1 y2 y3 y4 y5 y6 y7 y8 y9 y10 y11 y12 y13 y14 y15 y16 y17 y18 else bif pOk y5 && zOk y3 y5 then k (Res.mk (.sc (.int .i64 (rmE (PH.mk y5 (AV.mk y17 y18))))) [.box false 98 (PV.st 98 [.st 39 [.st 34 [.sc (.int .i64 y0), .sc (.int .i64 y1)], .sc (.string y2), .ro 42 (rmZ (PH.mk y5 (AV.mk y17 y18)) y3) (rmF (PH.mk y5 (AV.mk y17 y18)) y3) (rmL (PH.mk y5 (AV.mk y17 y18))), .sc (.int .i64 y6), .ar 37 y7], .st 53 [.st 42 [.sc (.int .i64 y8), .sc (.int .i64 y9)], .sc (.int .i64 y10), .sc (.int .i64 y11), .ar 37 y12, .sc (.int .i64 y13), .ro 113 y14 y15 y16, .st 42 [.sc (.int .i64 y17), .sc (.int .i64 y18)]]])] []) else none
theorem e40 (f : Nat) (y0 y1 : Int) (y2 : ByteArray) (y3 y4 : Bool) (y5 : List PV) (y6 : Int) (y7 : List PV) (y8 y9 y10 y11 : Int) (y12 : List PV) (y13 : Int) (y14 y15 : Bool) (y16 : List PV) (y17 y18 : Int) (o_z o_f : Bool) (o : List PV) (k : KR) : JJ tau F40 Try.f40 (Try.f40.body.get!) (Jyp (JfL f)) [.ro] 0 [.ptr 0 [], .ro 113 o_z o_f o] [.box false 98 (.st 98 [.st 39 [.st 34 [.sc (.int .i64 y0), .sc (.int .i64 y1)], .sc (.string y2), .ro 42 y3 y4 y5, .sc (.int .i64 y6), .ar 37 y7], .st 53 [.st 42 [.sc (.int .i64 y8), .sc (.int .i64 y9)], .sc (.int .i64 y10), .sc (.int .i64 y11), .ar 37 y12, .sc (.int .i64 y13), .ro 113 y14 y15 y16, .st 42 [.sc (.int .i64 y17), .sc (.int .i64 y18)]]])] k = g40 f y0 y1 y2 y3 y4 y5 y6 y7 y8 y9 y10 y11 y12 y13 y14 y15 y16 y17 y18 o_z o_f o k := by kernel_rfl
theorem JPh (f : Nat) : Jg (Try.f40.body.get!) (Jyp (JfL f)) = [.s Jku JfK N40 (JfL f)] := by kernel_rfl
theorem JPi (f : Nat) : ∀ q ∈ Jg (Try.f40.body.get!) (Jyp (JfL f)), q.Ok tau Try.prog 1 := by rw [JPh f]; exact JL (JE3 f) (fun _ h => nomatch h)
theorem JLy : Try.prog.funcs[40]? = some Try.f40 := by kernel_rfl
theorem JLz : Try.f40.body = some (Try.f40.body.get!) := by kernel_rfl
theorem JPj : Enters Try.prog 40 := enters_of JLy (by kernel_rfl) JLz
structure CX where
 (kd : Int) (w : AV) (doc : ByteArray) (l o : List PV)
def Jyr (x : CX) : Int := bif x.kd == 1 then (bif ckO x.o != 0 then ckO x.o else apE ⟨x.doc, x.o⟩) else bif decide (zi x.o.length > 0) then 1 else bif x.kd == 2 then adE ⟨x.l, x.w⟩ else rmE ⟨x.l, x.w⟩
def Jys (x : CX) : ByteArray := bif x.kd == 1 then (bif ckO x.o != 0 then x.doc else apD ⟨x.doc, x.o⟩) else x.doc
def Jyt (x : CX) : List PV := bif x.kd == 1 then x.l else bif decide (zi x.o.length > 0) then x.l else bif x.kd == 2 then adL ⟨x.l, x.w⟩ else rmL ⟨x.l, x.w⟩
def Jyu (x : CX) (z : Bool) : Bool := bif x.kd == 1 then z else bif decide (zi x.o.length > 0) then z else bif x.kd == 2 then (adF ⟨x.l, x.w⟩ && z) else rmZ ⟨x.l, x.w⟩ z
def JE4 (x : CX) (z f : Bool) : Bool := bif x.kd == 1 then f else bif decide (zi x.o.length > 0) then f else bif x.kd == 2 then (adF ⟨x.l, x.w⟩ && z) else rmF ⟨x.l, x.w⟩ z
def ccE : CX -> Int := hid Jyr
def ccD : CX -> ByteArray := hid Jys
def ccL : CX -> List PV := hid Jyt
def ccZ : CX -> Bool -> Bool := hid Jyu
def ccF : CX -> Bool -> Bool -> Bool := hid JE4
theorem Jvf (x : CX) : ccE x = Jyr x := by rw [ccE, hid_eq]
theorem Jvg (x : CX) : ccD x = Jys x := by rw [ccD, hid_eq]
theorem Jvh (x : CX) : ccL x = Jyt x := by rw [ccL, hid_eq]
theorem Jvi (x : CX) (z : Bool) : ccZ x z = Jyu x z := by rw [ccZ, hid_eq]
theorem JE5 (x : CX) (z f : Bool) : ccF x z f = JE4 x z f := by rw [ccF, hid_eq]
def doP (ih iN : Int) (doc : ByteArray) (z f : Bool) (l : List PV) (ver : Int) (hash : List PV) (aD aU dI dV : Int) (dh : List PV) (kd : Int) (pz pf : Bool) (po : List PV) (wD wU : Int) : PV :=
 .st 98 [.st 39 [.st 34 [.sc (.int .i64 ih), .sc (.int .i64 iN)], .sc (.string doc), .ro 42 z f l, .sc (.int .i64 ver), .ar 37 hash],
  .st 53 [.st 42 [.sc (.int .i64 aD), .sc (.int .i64 aU)], .sc (.int .i64 dI), .sc (.int .i64 dV), .ar 37 dh, .sc (.int .i64 kd), .ro 113 pz pf po, .st 42 [.sc (.int .i64 wD), .sc (.int .i64 wU)]]]
theorem JE6 (ih iN : Int) (doc : ByteArray) (z f : Bool) (l : List PV) (ver : Int) (hash : List PV) (aD aU dI dV : Int) (dh : List PV) (kd : Int) (pz pf : Bool) (po : List PV) (wD wU : Int) (oz of : Bool) (o : List PV)
  (ho : cOk o = true) (hd : doc.size <= 10000) (hl : pOk l = true) (hz : zOk z l = true) (k : KR) :
  g40 1 ih iN doc z f l ver hash aD aU dI dV dh kd pz pf po wD wU oz of o k =
   k ⟨.sc (.int .i64 (ccE ⟨kd, ⟨wD, wU⟩, doc, l, o⟩)), [.box false 98 (doP ih iN (ccD ⟨kd, ⟨wD, wU⟩, doc, l, o⟩) (ccZ ⟨kd, ⟨wD, wU⟩, doc, l, o⟩ z) (ccF ⟨kd, ⟨wD, wU⟩, doc, l, o⟩ z f) (ccL ⟨kd, ⟨wD, wU⟩, doc, l, o⟩) ver hash aD aU dI dV dh kd pz pf po wD wU)], []⟩ := by
 have hlz : (pOk l && zOk z l) = true := by rw [hl, hz]; rfl
 unfold g40 doP
 rw [Jvf, Jvg, Jvh, Jvi, JE5, Jyr, Jys, Jyt, Jyu, JE4]
 simp only [JcJ, JdI]
 cases h1 : (kd == 1) with
 | true =>
  simp only [cond_true]
  refine (Ja ho).trans ?_
  cases h2 : (ckO o != 0) with
  | true => rfl
  | false =>
   refine (Jd rfl).trans (Ja ?_)
   rw [Jnb ho (by simpa using h2), decide_eq_true hd]; rfl
 | false =>
  simp only [cond_false]
  cases h3 : decide (zi o.length > 0) with
  | true => cases h2 : (kd == 2) <;> rfl
  | false =>
   cases h2 : (kd == 2) <;> exact Ja hlz
def JnZ : Jz
 | [.ptr 0 [], .ro 113 oz of o], [.box false 98 (.st 98 [.st 39 [.st 34 [.sc (.int .i64 ih), .sc (.int .i64 iN)], .sc (.string doc), .ro 42 z f l, .sc (.int .i64 ver), .ar 37 hash], .st 53 [.st 42 [.sc (.int .i64 aD), .sc (.int .i64 aU)], .sc (.int .i64 dI), .sc (.int .i64 dV), .ar 37 dh, .sc (.int .i64 kd), .ro 113 pz pf po, .st 42 [.sc (.int .i64 wD), .sc (.int .i64 wU)]]])], k =>
  bif cOk o && (decide (doc.size <= 10000) && (pOk l && zOk z l)) then k ⟨.sc (.int .i64 (ccE ⟨kd, ⟨wD, wU⟩, doc, l, o⟩)), [.box false 98 (.st 98 [.st 39 [.st 34 [.sc (.int .i64 ih), .sc (.int .i64 iN)], .sc (.string (ccD ⟨kd, ⟨wD, wU⟩, doc, l, o⟩)), .ro 42 (ccZ ⟨kd, ⟨wD, wU⟩, doc, l, o⟩ z) (ccF ⟨kd, ⟨wD, wU⟩, doc, l, o⟩ z f) (ccL ⟨kd, ⟨wD, wU⟩, doc, l, o⟩), .sc (.int .i64 ver), .ar 37 hash], .st 53 [.st 42 [.sc (.int .i64 aD), .sc (.int .i64 aU)], .sc (.int .i64 dI), .sc (.int .i64 dV), .ar 37 dh, .sc (.int .i64 kd), .ro 113 pz pf po, .st 42 [.sc (.int .i64 wD), .sc (.int .i64 wU)]]])], []⟩ else none
 | _, _, _ => none
def JLA : Sig := { own := [true], run := JnZ }
theorem JLB : Jc tau Try.prog 40 JLA := Jc.mk' fun xs es k res hl hr => by
 change JnZ xs es k = some res at hr
 unfold JnZ at hr
 split at hr
 · rename_i oz of o ih iN doc z f l ver hash aD aU dI dV dh kd pz pf po wD wU
   obtain ⟨hc, hr⟩ := Jv hr
   simp only [Bool.and_eq_true, decide_eq_true_eq] at hc
   obtain ⟨c1, c2, c3, c4⟩ := hc
   exact J3 Jn Jvd Jo JLy JLz (Jyp (JfL 1)) [.ro] 1 0 (JPi 1) hl rfl ((e40 1 ih iN doc z f l ver hash aD aU dI dV dh kd pz pf po wD wU oz of o k).trans ((JE6 ih iN doc z f l ver hash aD aU dI dV dh kd pz pf po wD wU oz of o c1 c2 c3 c4 k).trans hr))
 · cases hr
def F14 : Fns := Jt 41 JHZ (Jt 40 JLA (Jt 39 JLe (Jt 38 s38 (Jt 37 JJd (Jt 36 JCZ (F0))))))
theorem JE7 : Jq tau Try.prog F14 := ((((((Js).add JzR JIt).add JJe JNP).add JOT JOS).add JLf JO2).add JLB JPj).add JH0 JNh
def JE8 : An := (.seq .leaf (.seq .leaf (.seq (.seq .leaf (.cond (.seq .leaf .leaf) .leaf)) (.seq .leaf (.seq (.block none (.seq .leaf (.cond (.seq .leaf .leaf) (.seq .leaf (.cond (.seq .leaf .leaf) .leaf))))) (.seq (.seq .leaf (.seq .leaf (.cond (.seq .leaf .leaf) .leaf))) (.seq (.seq .leaf (.cond (.seq .leaf .leaf) .leaf)) (.seq .leaf (.seq .leaf (.seq .leaf .leaf))))))))))
abbrev QA (y0 : Int) (y1 : Int) := [PV.sc (.int .i64 y0), PV.sc (.int .i64 y1)]
abbrev Yb (y7 : List PV) (y10 : List PV) (y11 : List PV) (e_At : Int) (e_Op : List PV) := (JH [PV.ro 5 false false (List.take 32 y7), PV.ro 5 false false (pu IntKind.u8 (JY (EV.mk y10 y11 e_At e_Op)))])
abbrev YI (y2 : ByteArray) (y5 : List PV) (y10 : List PV) (e_Op : List PV) := (CX.mk (dF 4 y10) (AV.mk (dF 5 y10) (dF 6 y10)) y2 (List.take (0 + y5.length) y5) e_Op)
abbrev JfM (y0 : Int) (y1 : Int) (y2 : ByteArray) (y5 : List PV) (y6 : Int) (y7 : List PV) := (Res.mk (PV.tup [PV.st 39 [PV.st 34 (QA y0 y1), PV.sc (.string y2), PV.ro 42 false false (List.take (0 + y5.length) y5), PV.sc (.int .i64 y6), PV.ar 37 y7], PV.sc (.int .i64 15)]) [] [])
abbrev JfN (y0 : Int) (y1 : Int) (y2 : ByteArray) (y6 : Int) (y7 : List PV) := (Res.mk (PV.tup [PV.st 39 [PV.st 34 (QA y0 y1), PV.sc (.string y2), PV.ro 42 true true [], PV.sc (.int .i64 y6), PV.ar 37 y7], PV.sc (.int .i64 15)]) [] [])
abbrev YJ (y2 : ByteArray) (y10 : List PV) (e_Op : List PV) := (CX.mk (dF 4 y10) (AV.mk (dF 5 y10) (dF 6 y10)) y2 [] e_Op)
def g14 (f : Nat) (y0 y1 : Int) (y2 : ByteArray) (y3 y4 : Bool) (y5 : List PV) (y6 : Int) (y7 : List PV) (y8 y9 : Bool) (y10 y11 : List PV) (e_At : Int) (y12 y13 : Bool) (e_Op y14 y15 : List PV) (k : KR) : OR := bif slB y8 y10 && byB y10 then bif dE y10 != 0 then bif y3 then k (Res.mk (.tup [.st 39 [.st 34 (QA y0 y1), .sc (.string y2), .ro 42 true true [], .sc (.int .i64 y6), .ar 37 y7], .sc (.int .i64 (dE y10))]) [] []) else bif Je (0 + y5.length) 16 && true then k (Res.mk (.tup [.st 39 [.st 34 (QA y0 y1), .sc (.string y2), .ro 42 false false (List.take (0 + y5.length) y5), .sc (.int .i64 y6), .ar 37 y7], .sc (.int .i64 (dE y10))]) [] []) else none else bif y3 then bif e_At != y6 then bif y3 then k (JfN y0 y1 y2 y6 y7) else bif Je (0 + y5.length) 16 && true then k (JfM y0 y1 y2 y5 y6 y7) else none else bif decide (dF 3 y10 > y6) then bif y3 then k (JfN y0 y1 y2 y6 y7) else bif Je (0 + y5.length) 16 && true then k (JfM y0 y1 y2 y5 y6 y7) else none else bif pOk y5 then bif !hasP (PH.mk y5 (AV.mk (dF 0 y10) (dF 1 y10))) then bif y3 then k (Res.mk (.tup [.st 39 [.st 34 (QA y0 y1), .sc (.string y2), .ro 42 true true [], .sc (.int .i64 y6), .ar 37 y7], .sc (.int .i64 13)]) [] []) else bif Je (0 + y5.length) 16 && true then k (Res.mk (.tup [.st 39 [.st 34 (QA y0 y1), .sc (.string y2), .ro 42 false false (List.take (0 + y5.length) y5), .sc (.int .i64 y6), .ar 37 y7], .sc (.int .i64 13)]) [] []) else none else bif cOk e_Op && (decide (y2.size <= 10000) && (pOk [] && zOk true [])) then bif ccE (YJ y2 y10 e_Op) != 0 then bif y3 then k (Res.mk (.tup [.st 39 [.st 34 (QA y0 y1), .sc (.string y2), .ro 42 true true [], .sc (.int .i64 y6), .ar 37 y7], .sc (.int .i64 (ccE (YJ y2 y10 e_Op)))]) [] []) else bif Je (0 + y5.length) 16 && true then k (Res.mk (.tup [.st 39 [.st 34 (QA y0 y1), .sc (.string y2), .ro 42 false false (List.take (0 + y5.length) y5), .sc (.int .i64 y6), .ar 37 y7], .sc (.int .i64 (ccE (YJ y2 y10 e_Op)))]) [] []) else none else bif eOk (EV.mk y10 y11 e_At e_Op) then bif Jl IntKind.u8 (Yb y7 y10 y11 e_At e_Op) && decide ((Yb y7 y10 y11 e_At e_Op).length <= 140737488355000) then bif decide (y14.length = 32) && decide ((pu IntKind.u8 (JX (JD (Yb y7 y10 y11 e_At e_Op)))).length = 32) && Jl IntKind.u8 y14 && Jl IntKind.u8 (pu IntKind.u8 (JX (JD (Yb y7 y10 y11 e_At e_Op)))) && true then bif !J6 y14 (pu IntKind.u8 (JX (JD (Yb y7 y10 y11 e_At e_Op)))) then bif y3 then k (Res.mk (.tup [.st 39 [.st 34 (QA y0 y1), .sc (.string y2), .ro 42 true true [], .sc (.int .i64 y6), .ar 37 y7], .sc (.int .i64 16)]) [] []) else bif Je (0 + y5.length) 16 && true then k (Res.mk (.tup [.st 39 [.st 34 (QA y0 y1), .sc (.string y2), .ro 42 false false (List.take (0 + y5.length) y5), .sc (.int .i64 y6), .ar 37 y7], .sc (.int .i64 16)]) [] []) else none else bif ccZ (YJ y2 y10 e_Op) true then k (Res.mk (.tup [.st 39 [.st 34 (QA y0 y1), .sc (.string (ccD (YJ y2 y10 e_Op))), .ro 42 true true [], .sc (.int .i64 (IntKind.i64.wrap (y6 + 1))), .ar 37 y14], .sc (.int .i64 0)]) [] []) else bif Je (0 + (ccL (YJ y2 y10 e_Op)).length) 16 && true then k (Res.mk (.tup [.st 39 [.st 34 (QA y0 y1), .sc (.string (ccD (YJ y2 y10 e_Op))), .ro 42 false false (List.take (0 + (ccL (YJ y2 y10 e_Op)).length) (ccL (YJ y2 y10 e_Op))), .sc (.int .i64 (IntKind.i64.wrap (y6 + 1))), .ar 37 y14], .sc (.int .i64 0)]) [] []) else none else none else none else none else none else none else bif Je (0 + y5.length) 16 && true then bif e_At != y6 then bif y3 then k (JfN y0 y1 y2 y6 y7) else bif Je (0 + y5.length) 16 && true then k (JfM y0 y1 y2 y5 y6 y7) else none else bif decide (dF 3 y10 > y6) then bif y3 then k (JfN y0 y1 y2 y6 y7) else bif Je (0 + y5.length) 16 && true then k (JfM y0 y1 y2 y5 y6 y7) else none else bif pOk y5 then bif !hasP (PH.mk y5 (AV.mk (dF 0 y10) (dF 1 y10))) then bif y3 then k (Res.mk (.tup [.st 39 [.st 34 (QA y0 y1), .sc (.string y2), .ro 42 true true [], .sc (.int .i64 y6), .ar 37 y7], .sc (.int .i64 13)]) [] []) else bif Je (0 + y5.length) 16 && true then k (Res.mk (.tup [.st 39 [.st 34 (QA y0 y1), .sc (.string y2), .ro 42 false false (List.take (0 + y5.length) y5), .sc (.int .i64 y6), .ar 37 y7], .sc (.int .i64 13)]) [] []) else none else bif cOk e_Op && (decide (y2.size <= 10000) && (pOk (List.take (0 + y5.length) y5) && zOk false (List.take (0 + y5.length) y5))) then bif ccE (YI y2 y5 y10 e_Op) != 0 then bif y3 then k (Res.mk (.tup [.st 39 [.st 34 (QA y0 y1), .sc (.string y2), .ro 42 true true [], .sc (.int .i64 y6), .ar 37 y7], .sc (.int .i64 (ccE (YI y2 y5 y10 e_Op)))]) [] []) else bif Je (0 + y5.length) 16 && true then k (Res.mk (.tup [.st 39 [.st 34 (QA y0 y1), .sc (.string y2), .ro 42 false false (List.take (0 + y5.length) y5), .sc (.int .i64 y6), .ar 37 y7], .sc (.int .i64 (ccE (YI y2 y5 y10 e_Op)))]) [] []) else none else bif eOk (EV.mk y10 y11 e_At e_Op) then bif Jl IntKind.u8 (Yb y7 y10 y11 e_At e_Op) && decide ((Yb y7 y10 y11 e_At e_Op).length <= 140737488355000) then bif decide (y14.length = 32) && decide ((pu IntKind.u8 (JX (JD (Yb y7 y10 y11 e_At e_Op)))).length = 32) && Jl IntKind.u8 y14 && Jl IntKind.u8 (pu IntKind.u8 (JX (JD (Yb y7 y10 y11 e_At e_Op)))) && true then bif !J6 y14 (pu IntKind.u8 (JX (JD (Yb y7 y10 y11 e_At e_Op)))) then bif y3 then k (Res.mk (.tup [.st 39 [.st 34 (QA y0 y1), .sc (.string y2), .ro 42 true true [], .sc (.int .i64 y6), .ar 37 y7], .sc (.int .i64 16)]) [] []) else bif Je (0 + y5.length) 16 && true then k (Res.mk (.tup [.st 39 [.st 34 (QA y0 y1), .sc (.string y2), .ro 42 false false (List.take (0 + y5.length) y5), .sc (.int .i64 y6), .ar 37 y7], .sc (.int .i64 16)]) [] []) else none else bif ccZ (YI y2 y5 y10 e_Op) false then k (Res.mk (.tup [.st 39 [.st 34 (QA y0 y1), .sc (.string (ccD (YI y2 y5 y10 e_Op))), .ro 42 true true [], .sc (.int .i64 (IntKind.i64.wrap (y6 + 1))), .ar 37 y14], .sc (.int .i64 0)]) [] []) else bif Je (0 + (ccL (YI y2 y5 y10 e_Op)).length) 16 && true then k (Res.mk (.tup [.st 39 [.st 34 (QA y0 y1), .sc (.string (ccD (YI y2 y5 y10 e_Op))), .ro 42 false false (List.take (0 + (ccL (YI y2 y5 y10 e_Op)).length) (ccL (YI y2 y5 y10 e_Op))), .sc (.int .i64 (IntKind.i64.wrap (y6 + 1))), .ar 37 y14], .sc (.int .i64 0)]) [] []) else none else none else none else none else none else none else none else none
theorem e14 (f : Nat) (y0 y1 : Int) (y2 : ByteArray) (y3 y4 : Bool) (y5 : List PV) (y6 : Int) (y7 : List PV) (y8 y9 : Bool) (y10 y11 : List PV) (e_At : Int) (y12 y13 : Bool) (e_Op y14 y15 : List PV) (k : KR) : JJ tau F14 Try.f14 (Try.f14.body.get!) JE8 [.ro, .ro] 0 [.st 39 [.st 34 [.sc (.int .i64 y0), .sc (.int .i64 y1)], .sc (.string y2), .ro 42 y3 y4 y5, .sc (.int .i64 y6), .ar 37 y7], .st 51 [.st 47 [.ro 5 y8 y9 y10, .ar 37 y11], .sc (.int .i64 e_At), .ro 113 y12 y13 e_Op, .ar 37 y14, .ar 37 y15]] [] k = g14 f y0 y1 y2 y3 y4 y5 y6 y7 y8 y9 y10 y11 e_At y12 y13 e_Op y14 y15 k := by kernel_rfl
theorem JPk (f : Nat) : ∀ q ∈ Jg (Try.f14.body.get!) JE8, q.Ok tau Try.prog 0 := Jw (by kernel_rfl)
theorem JLC : Try.prog.funcs[14]? = some Try.f14 := by kernel_rfl
theorem JLD : Try.f14.body = some (Try.f14.body.get!) := by kernel_rfl
theorem JPl : Enters Try.prog 14 := enters_of JLC (by kernel_rfl) JLD
def cxO (x : DX) : CX := ⟨dF 4 x.e.b, whA x.e.b, x.s.doc, x.s.l, x.e.o⟩
theorem JLE (x : DX) : ccE (cxO x) = chE x := by
 rw [Jvf]
 unfold Jyr chE cxO
 cases dF 4 x.e.b == 1 with
 | false => rfl
 | true => simp only [cond_true, bne]; cases ckO x.e.o == 0 <;> rfl
theorem JLF {x : DX} (h : chE x = 0) : ccD (cxO x) = chD x := by
 rw [Jvg]
 unfold Jys chD cxO
 unfold chE at h
 cases h1 : dF 4 x.e.b == 1 with
 | false => rfl
 | true =>
  rw [h1] at h
  simp only [cond_true, bne] at h ⊢
  cases h2 : ckO x.e.o == 0 with
  | true => rfl
  | false => rw [h2] at h; simp only [cond_false] at h; rw [h] at h2; exact absurd h2 (by decide)
theorem Jvj {x : DX} (h : chE x = 0) : decide (zi x.e.o.length > 0) = true -> (dF 4 x.e.b == 1) = true := by
 intro g
 unfold chE at h
 cases h1 : dF 4 x.e.b == 1 with
 | true => rfl
 | false => rw [h1, g] at h; exact absurd (show (1 : Int) = 0 from h) (by decide)
theorem JLG {x : DX} (h : chE x = 0) : ccL (cxO x) = chL x := by
 rw [Jvh]
 have g := Jvj h
 unfold Jyt chL cxO
 cases h1 : dF 4 x.e.b == 1 with
 | true => rfl
 | false =>
  simp only [cond_false]
  cases h2 : decide (zi x.e.o.length > 0) with
  | false => rfl
  | true => rw [g h2] at h1; cases h1
theorem JLH {x : DX} (h : chE x = 0) (z : Bool) : ccZ (cxO x) z = chZ x z := by
 rw [Jvi]
 have g := Jvj h
 unfold Jyu chZ cxO
 cases h1 : dF 4 x.e.b == 1 with
 | true => rfl
 | false =>
  simp only [cond_false]
  cases h2 : decide (zi x.e.o.length > 0) with
  | false => rfl
  | true => rw [g h2] at h1; cases h1
theorem Jn0 {x : DX} {z : Bool} (hz : z = true -> x.s.l = []) : chZ x z = true -> chL x = [] := by
 unfold chZ chL
 cases dF 4 x.e.b == 1 with
 | true => exact hz
 | false =>
  simp only [cond_false]
  cases dF 4 x.e.b == 2 with
  | true =>
   simp only [cond_true, Jnn, Jct]
   cases JbK ⟨x.s.l, whA x.e.b⟩ == 0 with
   | true => intro h; cases h
   | false => exact hz
  | false =>
   simp only [cond_false, Jno, Jcu]
   cases hasL x.s.l (whA x.e.b) with
   | true => exact fun h => List.isEmpty_iff.1 h
   | false => exact hz
theorem Jkv {x : DX} (h : pOk x.s.l = true) : (chL x).length <= 9 := by
 have h3 : x.s.l.length <= 8 := (QI.1 h).2.2
 unfold chL
 cases dF 4 x.e.b == 1 with
 | true => show x.s.l.length <= 9; omega
 | false =>
  simp only [cond_false]
  cases dF 4 x.e.b == 2 with
  | true =>
   simp only [cond_true, Jct]
   cases JbK ⟨x.s.l, whA x.e.b⟩ == 0 with
   | true => show (G3 x.s.l _).length <= 9; rw [Vy]; omega
   | false => show x.s.l.length <= 9; omega
  | false =>
   simp only [cond_false, Jcu]
   cases hasL x.s.l (whA x.e.b) with
   | true => show (List.filter _ x.s.l).length <= 9; have := List.length_filter_le (fun p => !eqA (av p) (whA x.e.b)) x.s.l; exact Nat.le_trans this (by omega)
   | false => show x.s.l.length <= 9; omega
def wsP (s : SV) (z f : Bool) : PV := .st 39 [.st 34 [.sc (.int .i64 s.ih), .sc (.int .i64 s.iN)], .sc (.string s.doc), .ro 42 z f s.l, .sc (.int .i64 s.ver), .ar 37 s.hash]
def dwP (x : DX) (z : Bool) : PV := .tup [wsP (dsS x) (dsZ x z) (dsZ x z), .sc (.int .i64 (dsE x))]
theorem JiZ {x : DX} {e : Int} (h : dsE0 x = e) (h0 : (e == 0) = false) (z : Bool) : dwP x z = .tup [wsP x.s z z, .sc (.int .i64 e)] := by
 have h1 : (dsE0 x == 0) = false := by rw [h]; exact h0
 unfold dwP; rw [JiC h1, Jfs, G5, h, h0]; rfl
theorem Jvk {x : DX} (h : dsE0 x = 0) (z : Bool) : dwP x z = .tup [wsP ⟨x.s.ih, x.s.iN, chD x, chL x, x.s.ver + 1, x.e.h⟩ (chZ x z) (chZ x z), .sc (.int .i64 0)] := by
 unfold dwP dsS; rw [JiB, Jfr, G6, Jcv, Jfs, G5, h]; rfl
theorem cl3 {z : Bool} {l : List PV} (hz : z = true -> l = []) (hl : l.length <= 1000) (K : Bool -> Bool -> List PV -> OR) : (bif z then K true true [] else bif Je l.length 16 && true then K false false l else none) = K z z l := by
 cases z with
 | true => rw [hz rfl]; rfl
 | false => exact (Jd rfl).trans (Ja (by simp [Je]; omega))
theorem JE9 (ih iN : Int) (doc : ByteArray) (z f : Bool) (l : List PV) (ver : Int) (hash : List PV) (bz bf : Bool) (b m : List PV) (at1 : Int) (oz of : Bool) (o h mc : List PV)
  (hs : sOk ⟨ih, iN, doc, l, ver, hash⟩ = true) (he : eD ⟨b, m, at1, o, h, mc⟩ = true) (hzk : zOk z l = true) (hsl : slB bz b = true) (k : KR) :
  g14 0 ih iN doc z f l ver hash bz bf b m at1 oz of o h mc k = k ⟨dwP ⟨⟨ih, iN, doc, l, ver, hash⟩, ⟨b, m, at1, o, h, mc⟩⟩ z, [], []⟩ := by
 obtain ⟨s1, s2, s3, s4, s5, s6⟩ := Yv.1 hs
 obtain ⟨e1, e2, e3, e4⟩ := Jcw.1 he
 simp only at s1 s2 s3 s4 s5 e1 e3 e4
 have e2 : eOk ⟨b, m, at1, o⟩ = true := e2
 obtain ⟨hh1, hh2⟩ := h32_iff.1 e4
 obtain ⟨ha1, ha2⟩ := h32_iff.1 s2
 have hz := JdH.1 hzk
 have hl8 : l.length <= 8 := (QI.1 s1).2.2
 have w1 : IntKind.i64.wrap (ver + 1) = ver + 1 := wrap_i64 (by omega) (by omega)
 have hnl : (pu .u8 (nxP ⟨hash, ⟨b, m, at1, o⟩⟩)).length = 32 := by rw [JI]; exact Zy _
 have htk : List.take 32 hash = hash := by rw [← ha2]; exact List.take_length
 have hfl : JH [.ro 5 false false (List.take 32 hash), .ro 5 false false (pu .u8 (JY ⟨b, m, at1, o⟩))] = hash ++ pu .u8 (JY ⟨b, m, at1, o⟩) := by rw [htk]; simp [PV.els]
 have hnx : JX (JD (hash ++ pu .u8 (JY ⟨b, m, at1, o⟩))) = nxP ⟨hash, ⟨b, m, at1, o⟩⟩ := by
  rw [Jfi, Jj9, WF]
 have hcl := XF e2
 obtain ⟨q1, q2, q3, q4, q5, q6⟩ := Xh.1 e2
 have hfa : (Jl .u8 (hash ++ pu .u8 (JY ⟨b, m, at1, o⟩)) && decide ((hash ++ pu .u8 (JY ⟨b, m, at1, o⟩)).length <= 140737488355000)) = true := by
  rw [Wb, ha1, JP, List.length_append, JI, hcl, ha2]
  simp only at q2 q6 ⊢
  exact decide_eq_true (by omega)
 unfold g14 YJ JfN JfM YI Yb QA
 simp only [Nat.zero_add, List.take_length, w1]
 refine (Ja (by rw [hsl, e1]; rfl)).trans ?_
 cases h1 : (dE b != 0) with
 | true =>
  refine (Ja rfl).trans ?_
  rw [JiZ (x := ⟨⟨ih, iN, doc, l, ver, hash⟩, ⟨b, m, at1, o, h, mc⟩⟩) (e := dE b) (Ja h1) (by simpa [bne] using h1)]
  exact cl3 hz (by omega) (fun a c q => k ⟨.tup [wsP ⟨ih, iN, doc, q, ver, hash⟩ a c, .sc (.int .i64 (dE b))], [], []⟩)
 | false =>
 refine (Jd rfl).trans ?_
 cases z with
 | true =>
  obtain rfl : l = [] := hz rfl
  refine (Ja rfl).trans ?_
  have hau : AV.mk (dF 0 b) (dF 1 b) = auA b := rfl
  have hcx : CX.mk (dF 4 b) (AV.mk (dF 5 b) (dF 6 b)) doc [] o = cxO ⟨⟨ih, iN, doc, [], ver, hash⟩, ⟨b, m, at1, o, h, mc⟩⟩ := rfl
  simp only [hau, hcx, hfl, hnx, JLE]
  have BAD : ∀ (e : Int), dsE0 ⟨⟨ih, iN, doc, [], ver, hash⟩, ⟨b, m, at1, o, h, mc⟩⟩ = e -> (e == 0) = false -> (bif true then k ⟨.tup [wsP ⟨ih, iN, doc, [], ver, hash⟩ true true, .sc (.int .i64 e)], [], []⟩ else bif Je ([] : List PV).length 16 && true then k ⟨.tup [wsP ⟨ih, iN, doc, [], ver, hash⟩ false false, .sc (.int .i64 e)], [], []⟩ else none) = k ⟨dwP ⟨⟨ih, iN, doc, [], ver, hash⟩, ⟨b, m, at1, o, h, mc⟩⟩ true, [], []⟩ := fun e h1 h0 => by
   rw [JiZ h1 h0]
   exact cl3 (z := true) (l := []) (by intro _; rfl) (by exact Nat.zero_le _) (fun a c q => k ⟨.tup [wsP ⟨ih, iN, doc, q, ver, hash⟩ a c, .sc (.int .i64 e)], [], []⟩)
  cases h2 : (at1 != ver) with
  | true => exact (Ja rfl).trans (BAD 15 ((Jd h1).trans (Ja h2)) rfl)
  | false =>
  refine (Jd rfl).trans ?_
  cases h3 : decide (dF 3 b > ver) with
  | true => exact (Ja rfl).trans (BAD 15 ((Jd h1).trans ((Jd h2).trans (Ja h3))) rfl)
  | false =>
  refine (Jd rfl).trans ((Ja s1).trans ?_)
  cases h4 : (!hasP ⟨[], auA b⟩) with
  | true => exact (Ja rfl).trans (BAD 13 ((Jd h1).trans ((Jd h2).trans ((Jd h3).trans (Ja h4)))) rfl)
  | false =>
  refine (Jd rfl).trans ((Ja (by rw [e3, decide_eq_true (show doc.size <= 10000 by omega), s1, hzk]; rfl)).trans ?_)
  cases h5 : (chE ⟨⟨ih, iN, doc, [], ver, hash⟩, ⟨b, m, at1, o, h, mc⟩⟩ != 0) with
  | true => exact (Ja rfl).trans (BAD _ ((Jd h1).trans ((Jd h2).trans ((Jd h3).trans ((Jd h4).trans (Ja h5))))) (by simpa [bne] using h5))
  | false =>
  have hc0 : chE ⟨⟨ih, iN, doc, [], ver, hash⟩, ⟨b, m, at1, o, h, mc⟩⟩ = 0 := by simpa [bne] using h5
  refine (Jd rfl).trans ((Ja e2).trans ((Ja hfa).trans ((Ja (by rw [hh2, hnl, hh1, JP]; rfl)).trans ?_)))
  cases h6 : (!J6 h (pu .u8 (nxP ⟨hash, ⟨b, m, at1, o⟩⟩))) with
  | true => exact (Ja rfl).trans (BAD 16 ((Jd h1).trans ((Jd h2).trans ((Jd h3).trans ((Jd h4).trans ((Jd h5).trans (Ja h6)))))) rfl)
  | false =>
  refine (Jd rfl).trans ?_
  rw [JLH hc0, JLF hc0, JLG hc0, Jvk (x := ⟨⟨ih, iN, doc, [], ver, hash⟩, ⟨b, m, at1, o, h, mc⟩⟩) ((Jd h1).trans ((Jd h2).trans ((Jd h3).trans ((Jd h4).trans ((Jd h5).trans (Jd h6))))))]
  have hsm := Jkv (x := ⟨⟨ih, iN, doc, [], ver, hash⟩, ⟨b, m, at1, o, h, mc⟩⟩) s1
  exact cl3 (Jn0 (x := ⟨⟨ih, iN, doc, [], ver, hash⟩, ⟨b, m, at1, o, h, mc⟩⟩) (z := true) (by intro _; rfl)) (by omega) (fun a c q => k ⟨.tup [wsP ⟨ih, iN, chD ⟨⟨ih, iN, doc, [], ver, hash⟩, ⟨b, m, at1, o, h, mc⟩⟩, q, ver + 1, h⟩ a c, .sc (.int .i64 0)], [], []⟩)
 | false =>
  refine (Jd rfl).trans ((Ja (by simp [Je]; omega)).trans ?_)
  have hau : AV.mk (dF 0 b) (dF 1 b) = auA b := rfl
  have hcx : CX.mk (dF 4 b) (AV.mk (dF 5 b) (dF 6 b)) doc l o = cxO ⟨⟨ih, iN, doc, l, ver, hash⟩, ⟨b, m, at1, o, h, mc⟩⟩ := rfl
  simp only [hau, hcx, hfl, hnx, JLE]
  have BAD : ∀ (e : Int), dsE0 ⟨⟨ih, iN, doc, l, ver, hash⟩, ⟨b, m, at1, o, h, mc⟩⟩ = e -> (e == 0) = false -> (bif false then k ⟨.tup [wsP ⟨ih, iN, doc, [], ver, hash⟩ true true, .sc (.int .i64 e)], [], []⟩ else bif Je (l : List PV).length 16 && true then k ⟨.tup [wsP ⟨ih, iN, doc, l, ver, hash⟩ false false, .sc (.int .i64 e)], [], []⟩ else none) = k ⟨dwP ⟨⟨ih, iN, doc, l, ver, hash⟩, ⟨b, m, at1, o, h, mc⟩⟩ false, [], []⟩ := fun e h1 h0 => by
   rw [JiZ h1 h0]
   exact cl3 (z := false) (l := l) (by intro q; cases q) (by omega) (fun a c q => k ⟨.tup [wsP ⟨ih, iN, doc, q, ver, hash⟩ a c, .sc (.int .i64 e)], [], []⟩)
  cases h2 : (at1 != ver) with
  | true => exact (Ja rfl).trans (BAD 15 ((Jd h1).trans (Ja h2)) rfl)
  | false =>
  refine (Jd rfl).trans ?_
  cases h3 : decide (dF 3 b > ver) with
  | true => exact (Ja rfl).trans (BAD 15 ((Jd h1).trans ((Jd h2).trans (Ja h3))) rfl)
  | false =>
  refine (Jd rfl).trans ((Ja s1).trans ?_)
  cases h4 : (!hasP ⟨l, auA b⟩) with
  | true => exact (Ja rfl).trans (BAD 13 ((Jd h1).trans ((Jd h2).trans ((Jd h3).trans (Ja h4)))) rfl)
  | false =>
  refine (Jd rfl).trans ((Ja (by rw [e3, decide_eq_true (show doc.size <= 10000 by omega), s1, hzk]; rfl)).trans ?_)
  cases h5 : (chE ⟨⟨ih, iN, doc, l, ver, hash⟩, ⟨b, m, at1, o, h, mc⟩⟩ != 0) with
  | true => exact (Ja rfl).trans (BAD _ ((Jd h1).trans ((Jd h2).trans ((Jd h3).trans ((Jd h4).trans (Ja h5))))) (by simpa [bne] using h5))
  | false =>
  have hc0 : chE ⟨⟨ih, iN, doc, l, ver, hash⟩, ⟨b, m, at1, o, h, mc⟩⟩ = 0 := by simpa [bne] using h5
  refine (Jd rfl).trans ((Ja e2).trans ((Ja hfa).trans ((Ja (by rw [hh2, hnl, hh1, JP]; rfl)).trans ?_)))
  cases h6 : (!J6 h (pu .u8 (nxP ⟨hash, ⟨b, m, at1, o⟩⟩))) with
  | true => exact (Ja rfl).trans (BAD 16 ((Jd h1).trans ((Jd h2).trans ((Jd h3).trans ((Jd h4).trans ((Jd h5).trans (Ja h6)))))) rfl)
  | false =>
  refine (Jd rfl).trans ?_
  rw [JLH hc0, JLF hc0, JLG hc0, Jvk (x := ⟨⟨ih, iN, doc, l, ver, hash⟩, ⟨b, m, at1, o, h, mc⟩⟩) ((Jd h1).trans ((Jd h2).trans ((Jd h3).trans ((Jd h4).trans ((Jd h5).trans (Jd h6))))))]
  have hsm := Jkv (x := ⟨⟨ih, iN, doc, l, ver, hash⟩, ⟨b, m, at1, o, h, mc⟩⟩) s1
  exact cl3 (Jn0 (x := ⟨⟨ih, iN, doc, l, ver, hash⟩, ⟨b, m, at1, o, h, mc⟩⟩) (z := false) (by intro q; cases q)) (by omega) (fun a c q => k ⟨.tup [wsP ⟨ih, iN, chD ⟨⟨ih, iN, doc, l, ver, hash⟩, ⟨b, m, at1, o, h, mc⟩⟩, q, ver + 1, h⟩ a c, .sc (.int .i64 0)], [], []⟩)
def Jn1 : Jz
 | [.st 39 [.st 34 [.sc (.int .i64 ih), .sc (.int .i64 iN)], .sc (.string doc), .ro 42 z f l, .sc (.int .i64 ver), .ar 37 hash], .st 51 [.st 47 [.ro 5 bz bf b, .ar 37 m], .sc (.int .i64 at1), .ro 113 oz of o, .ar 37 h, .ar 37 mc]], [], k =>
  bif sOk ⟨ih, iN, doc, l, ver, hash⟩ && eD ⟨b, m, at1, o, h, mc⟩ && (zOk z l && slB bz b) then k ⟨.tup [.st 39 [.st 34 [.sc (.int .i64 ih), .sc (.int .i64 iN)], .sc (.string (dsD ⟨⟨ih, iN, doc, l, ver, hash⟩, ⟨b, m, at1, o, h, mc⟩⟩)), .ro 42 (dsZ ⟨⟨ih, iN, doc, l, ver, hash⟩, ⟨b, m, at1, o, h, mc⟩⟩ z) (dsZ ⟨⟨ih, iN, doc, l, ver, hash⟩, ⟨b, m, at1, o, h, mc⟩⟩ z) (dsL ⟨⟨ih, iN, doc, l, ver, hash⟩, ⟨b, m, at1, o, h, mc⟩⟩), .sc (.int .i64 (dsV ⟨⟨ih, iN, doc, l, ver, hash⟩, ⟨b, m, at1, o, h, mc⟩⟩)), .ar 37 (dsH ⟨⟨ih, iN, doc, l, ver, hash⟩, ⟨b, m, at1, o, h, mc⟩⟩)], .sc (.int .i64 (dsE ⟨⟨ih, iN, doc, l, ver, hash⟩, ⟨b, m, at1, o, h, mc⟩⟩))], [], []⟩ else none
 | _, _, _ => none
def JLI : Sig := { own := [], run := Jn1 }
theorem JLJ : Jc tau Try.prog 14 JLI := Jc.mk' fun xs es k res hl hr => by
 change Jn1 xs es k = some res at hr
 unfold Jn1 at hr
 split at hr
 · rename_i ih iN doc z f l ver hash bz bf b m at1 oz of o h mc
   obtain ⟨hc, hr⟩ := Jv hr
   simp only [Bool.and_eq_true] at hc
   obtain ⟨⟨c1, c2⟩, c3, c4⟩ := hc
   exact J3 Jn JE7 Jo JLC JLD JE8 [.ro, .ro] 0 0 (JPk 0) hl rfl ((e14 0 ih iN doc z f l ver hash bz bf b m at1 oz of o h mc k).trans ((JE9 ih iN doc z f l ver hash bz bf b m at1 oz of o h mc c1 c2 c3 c4 k).trans hr))
 · cases hr
def F20 : Fns := F0
theorem JFa : Jq tau Try.prog F20 := Js
def JFb : An := (.seq .leaf (.seq .leaf .leaf))
def g20 (f : Nat) (y0 y1 : Int) (y2 : ByteArray) (y3 y4 : Bool) (y5 : List PV) (y6 : Int) (y7 : List PV) (k : KR) : OR := k (Res.mk (.st 39 [.st 34 [.sc (.int .i64 y0), .sc (.int .i64 y1)], .sc (.string y2), .ro 42 y3 y4 y5, .sc (.int .i64 y6), .ar 37 y7]) [] [])
theorem e20 (f : Nat) (y0 y1 : Int) (y2 : ByteArray) (y3 y4 : Bool) (y5 : List PV) (y6 : Int) (y7 : List PV) (k : KR) : JJ tau F20 Try.f20 (Try.f20.body.get!) JFb [.ro] 0 [.st 58 [.st 34 [.sc (.int .i64 y0), .sc (.int .i64 y1)], .sc (.string y2), .ro 42 y3 y4 y5, .sc (.int .i64 y6), .ar 37 y7]] [] k = g20 f y0 y1 y2 y3 y4 y5 y6 y7 k := by kernel_rfl
theorem JPm (f : Nat) : ∀ q ∈ Jg (Try.f20.body.get!) JFb, q.Ok tau Try.prog 0 := Jw (by kernel_rfl)
theorem JLK : Try.prog.funcs[20]? = some Try.f20 := by kernel_rfl
theorem JLL : Try.f20.body = some (Try.f20.body.get!) := by kernel_rfl
theorem JPn : Enters Try.prog 20 := enters_of JLK (by kernel_rfl) JLL
def Jvl : Jz
 | [.st 58 [.st 34 [.sc (.int .i64 y0), .sc (.int .i64 y1)], .sc (.string y2), .ro 42 y3 y4 y5, .sc (.int .i64 y6), .ar 37 y7]], [], k => g20 0 y0 y1 y2 y3 y4 y5 y6 y7 k
 | _, _, _ => none
def s20 : Sig := { own := [], run := Jvl }
theorem JPo : Jc tau Try.prog 20 s20 := JO Jn JFa Jo JLK JLL JFb [.ro] 0 [] Jvl (JPm 0) fun xs es k res hr => by
 unfold Jvl at hr
 split at hr
 · exact ⟨rfl, 0, (e20 0 _ _ _ _ _ _ _ _  _).trans hr⟩
 · cases hr
def F21 : Fns := F0
theorem JFc : Jq tau Try.prog F21 := Js
def JFd : An := (.seq .leaf (.seq .leaf .leaf))
def g21 (f : Nat) (y0 y1 : Int) (y2 : ByteArray) (y3 y4 : Bool) (y5 : List PV) (y6 : Int) (y7 : List PV) (k : KR) : OR := k (Res.mk (.st 58 [.st 34 [.sc (.int .i64 y0), .sc (.int .i64 y1)], .sc (.string y2), .ro 42 y3 y4 y5, .sc (.int .i64 y6), .ar 37 y7]) [] [])
theorem e21 (f : Nat) (y0 y1 : Int) (y2 : ByteArray) (y3 y4 : Bool) (y5 : List PV) (y6 : Int) (y7 : List PV) (k : KR) : JJ tau F21 Try.f21 (Try.f21.body.get!) JFd [.ro] 0 [.st 39 [.st 34 [.sc (.int .i64 y0), .sc (.int .i64 y1)], .sc (.string y2), .ro 42 y3 y4 y5, .sc (.int .i64 y6), .ar 37 y7]] [] k = g21 f y0 y1 y2 y3 y4 y5 y6 y7 k := by kernel_rfl
theorem JPp (f : Nat) : ∀ q ∈ Jg (Try.f21.body.get!) JFd, q.Ok tau Try.prog 0 := Jw (by kernel_rfl)
theorem JLM : Try.prog.funcs[21]? = some Try.f21 := by kernel_rfl
theorem JLN : Try.f21.body = some (Try.f21.body.get!) := by kernel_rfl
theorem JPq : Enters Try.prog 21 := enters_of JLM (by kernel_rfl) JLN
def Jvm : Jz
 | [.st 39 [.st 34 [.sc (.int .i64 y0), .sc (.int .i64 y1)], .sc (.string y2), .ro 42 y3 y4 y5, .sc (.int .i64 y6), .ar 37 y7]], [], k => g21 0 y0 y1 y2 y3 y4 y5 y6 y7 k
 | _, _, _ => none
def s21 : Sig := { own := [], run := Jvm }
theorem JPr : Jc tau Try.prog 21 s21 := JO Jn JFc Jo JLM JLN JFd [.ro] 0 [] Jvm (JPp 0) fun xs es k res hr => by
 unfold Jvm at hr
 split at hr
 · exact ⟨rfl, 0, (e21 0 _ _ _ _ _ _ _ _  _).trans hr⟩
 · cases hr
def N22 : Nat := 59
def F22 : Fns := F0
theorem Jvn : Jq tau Try.prog F22 := Js
def Jp9 : Code := Qf (Try.f22.body.get!) [1, 1, 0, 1, 0, 0]
def JfO : Nm := [(2, .any), (3, .any), (5, .any)]
def Ji0 : Nm := [(4, .any)]
def Jvo : An := (.seq (.seq .leaf (.cond .leaf .leaf)) (.seq (.block none (.seq .leaf (.cond (.seq .leaf .leaf) .leaf))) .leaf))
def Jyv (r0 : Qw) : An := (.seq .leaf (.seq (.seq .leaf (.cond (.seq .leaf .leaf) .leaf)) (.seq (.seq .leaf (.block none (.sum JfO N22 r0))) (.seq .leaf .leaf))))
abbrev Jvp := Int -> Int -> Int -> ByteArray -> Bool -> Bool -> List PV -> Int -> List PV -> Int -> Int -> ByteArray -> Bool -> Bool -> List PV -> Int -> List PV -> OR
def Jb0 (f : Nat) (rc : Jvp) (k0 : Bool -> OR) (k1 : OR) (v0 v1 v2 : Int) (v3 : ByteArray) (v4 v5 : Bool) (v6 : List PV) (v7 : Int) (v8 : List PV) (v9 v10 : Int) (v11 : ByteArray) (v12 v13 : Bool) (v14 : List PV) (v15 : Int) (v16 : List PV) : OR := bif decide (v0 < zi v6.length) then bif decide (0 <= v0) && decide (v0 < zi v6.length) && (PV.isSt 42 #[Field.mk "D" 3 0 false "" "" 0, Field.mk "U" 3 1 false "" "" 8].size (v6.getD v0.toNat PV.top) && (PV.isInt IntKind.i64 (PV.child 0 (v6.getD v0.toNat PV.top)) && (PV.isInt IntKind.i64 (PV.child (0 + 1) (v6.getD v0.toNat PV.top)) && true))) && true then bif decide (0 <= v0) && decide (v0 < zi v14.length) && (PV.isSt 42 #[Field.mk "D" 3 0 false "" "" 0, Field.mk "U" 3 1 false "" "" 8].size (v14.getD v0.toNat PV.top) && (PV.isInt IntKind.i64 (PV.child 0 (v14.getD v0.toNat PV.top)) && (PV.isInt IntKind.i64 (PV.child (0 + 1) (v14.getD v0.toNat PV.top)) && true))) && true then bif !((PV.child 0 (v6.getD v0.toNat PV.top)).int == (PV.child 0 (v14.getD v0.toNat PV.top)).int && ((PV.child (0 + 1) (v6.getD v0.toNat PV.top)).int == (PV.child (0 + 1) (v14.getD v0.toNat PV.top)).int && true)) then k0 false else rc (IntKind.i64.wrap (v0 + 1)) v1 v2 v3 v4 v5 v6 v7 v8 v9 v10 v11 v12 v13 v14 v15 v16 else none else none else k1
def Jai (f : Nat) (k0 : Bool -> OR) (k1 : OR) : Nat -> Jvp
 | 0 => fun _ _ _ _ _ _ _ _ _ _ _ _ _ _ _ _ _ => none
 | n + 1 => Jb0 f (Jai f k0 k1 n) k0 k1
def Jb1 (k : Kont) := fun x0 => k Ex.ret (Jj Ji0 N22 [.sc (.bool x0)] [])
def Jb2 (k : Kont) := k (Ex.exit 0) (Jj Ji0 N22 [PV.top] [])
def Jn2 (f : Nat) (k : Kont) (n : Nat) (v0 v1 v2 : Int) (v3 : ByteArray) (v4 v5 : Bool) (v6 : List PV) (v7 : Int) (v8 : List PV) (v9 v10 : Int) (v11 : ByteArray) (v12 v13 : Bool) (v14 : List PV) (v15 : Int) (v16 : List PV) : OR := Jy tau 0 JfO (fun s k => ev tau F22 0 0 Jp9 (Jvo ) s k) n (Jj JfO N22 [.ptr 960 [], .ptr 961 [], .sc (.int .i64 v0)] [(960, .box false 58 (PV.st 58 [.st 34 [.sc (.int .i64 v1), .sc (.int .i64 v2)], .sc (.string v3), .ro 42 v4 v5 v6, .sc (.int .i64 v7), .ar 37 v8])), (961, .box false 58 (PV.st 58 [.st 34 [.sc (.int .i64 v9), .sc (.int .i64 v10)], .sc (.string v11), .ro 42 v12 v13 v14, .sc (.int .i64 v15), .ar 37 v16]))]) (JG tau 0 Ji0 k)
theorem Jyw (f : Nat) (k : Kont) (n : Nat) : Jn2 f k (n + 1) = Jb0 f (Jn2 f k n) (Jb1 k) (Jb2 k) := by kernel_rfl
theorem Jqa (f : Nat) (k : Kont) : ∀ n, Jn2 f k n = Jai f (Jb1 k) (Jb2 k) n
 | 0 => rfl
 | n + 1 => (Jyw f k n).trans (congrArg (fun r => Jb0 f r (Jb1 k) (Jb2 k)) (Jqa f k n))
def JfP (f : Nat) : List PV -> List (Nat × Ent) -> Kont -> OR
 | [.ptr 960 [], .ptr 961 [],
 PV.sc
  (Value.int IntKind.i64
   v0)], [(960,
  Ent.box false 58
   (PV.st 58 [.st 34 [.sc (.int .i64 v1), .sc (.int .i64 v2)], .sc (.string v3), .ro 42 v4 v5 v6, .sc (.int .i64 v7), .ar 37 v8])),
 (961,
  Ent.box false 58
   (PV.st 58
    [.st 34 [.sc (.int .i64 v9), .sc (.int .i64 v10)], .sc (.string v11), .ro 42 v12 v13 v14, .sc (.int .i64 v15),
     PV.ar 37
      v16]))], k => Jai f (Jb1 k) (Jb2 k) f v0 v1 v2 v3 v4 v5 v6 v7 v8 v9 v10 v11 v12 v13 v14 v15 v16
 | _, _, _ => none
theorem JFe (f : Nat) : Jg Jp9 Jvo = [] := by kernel_rfl
theorem JFf (f : Nat) : (Item.l Jp9 JfO N22 (JfP f)).Ok tau Try.prog 0 := Ju Jn Jvn Jo (x := Jvo) (nm2 := Ji0) (Jk _ _ (by rw [JFe f]; intro q hq; cases hq)) fun vs hp k res hr => by
 unfold JfP at hr
 split at hr
 · rw [← Jqa f] at hr; exact ⟨f, 0, hr⟩
 · cases hr
def g22 (f : Nat) (y0 y1 : Int) (y2 : ByteArray) (y3 y4 : Bool) (y5 : List PV) (y6 : Int) (y7 : List PV) (y8 y9 : Int) (y10 : ByteArray) (y11 y12 : Bool) (y13 : List PV) (y14 : Int) (y15 : List PV) (k : KR) : OR := bif !(y0 == y8 && (y1 == y9 && true)) then k (Res.mk (.sc (.bool false)) [] []) else bif !Yy y2 y10 then k (Res.mk (.sc (.bool false)) [] []) else bif zi y5.length != zi y13.length then k (Res.mk (.sc (.bool false)) [] []) else bif y6 != y14 then k (Res.mk (.sc (.bool false)) [] []) else bif decide (y7.length = 32) && decide (y15.length = 32) && Jl IntKind.u8 y7 && Jl IntKind.u8 y15 && true then bif !J6 y7 y15 then k (Res.mk (.sc (.bool false)) [] []) else Jai f (fun x0_0 => k (Res.mk (.sc (.bool x0_0)) [] [])) (k (Res.mk (.sc (.bool true)) [] [])) f (0) y0 y1 y2 y3 y4 y5 y6 y7 y8 y9 y10 y11 y12 y13 y14 y15 else none
theorem e22 (f : Nat) (y0 y1 : Int) (y2 : ByteArray) (y3 y4 : Bool) (y5 : List PV) (y6 : Int) (y7 : List PV) (y8 y9 : Int) (y10 : ByteArray) (y11 y12 : Bool) (y13 : List PV) (y14 : Int) (y15 : List PV) (k : KR) : JJ tau F22 Try.f22 (Try.f22.body.get!) (Jyv (JfP f)) [.ro] 0 [.st 58 [.st 34 [.sc (.int .i64 y0), .sc (.int .i64 y1)], .sc (.string y2), .ro 42 y3 y4 y5, .sc (.int .i64 y6), .ar 37 y7], .st 58 [.st 34 [.sc (.int .i64 y8), .sc (.int .i64 y9)], .sc (.string y10), .ro 42 y11 y12 y13, .sc (.int .i64 y14), .ar 37 y15]] [] k = g22 f y0 y1 y2 y3 y4 y5 y6 y7 y8 y9 y10 y11 y12 y13 y14 y15 k := by kernel_rfl
theorem JPs (f : Nat) : Jg (Try.f22.body.get!) (Jyv (JfP f)) = [.l Jp9 JfO N22 (JfP f)] := by kernel_rfl
theorem JPt (f : Nat) : ∀ q ∈ Jg (Try.f22.body.get!) (Jyv (JfP f)), q.Ok tau Try.prog 0 := by rw [JPs f]; exact JL (JFf f) (fun _ h => nomatch h)
theorem JLO : Try.prog.funcs[22]? = some Try.f22 := by kernel_rfl
theorem JLP : Try.f22.body = some (Try.f22.body.get!) := by kernel_rfl
theorem JPu : Enters Try.prog 22 := enters_of JLO (by kernel_rfl) JLP
theorem JAM (s t : SV) (ha : s.l.all Zk = true) (hb : t.l.all Zk = true) (hl : s.l.length = t.l.length) (h2 : s.l.length <= 1000) (f : Nat) (k0 : Bool -> OR) (k1 : OR) (z fl z' fl' : Bool) : ∀ (d i n : Nat), i + d = s.l.length -> d < n ->
  Jai f k0 k1 n (i : Int) s.ih s.iN s.doc z fl s.l s.ver s.hash t.ih t.iN t.doc z' fl' t.l t.ver t.hash = bif Jdn (s.l.drop i) (t.l.drop i) then k1 else k0 false
 | 0, i, n + 1, hi, hn => by
   rw [List.drop_of_length_le (l := s.l) (by omega), List.drop_of_length_le (l := t.l) (by omega)]
   simp only [Jai, Jb0]
   exact Jd (by simp [zi]; omega)
 | d + 1, i, n + 1, hi, hn => by
   have g1 := tI i
   have w1 := wI (i := i) (by omega)
   have hro : ∀ l : List PV, l.all Zk = true -> l.length = s.l.length -> (decide (0 <= (i : Int)) && decide ((i : Int) < zi l.length) && (PV.isSt 42 #[Field.mk "D" 3 0 false "" "" 0, Field.mk "U" 3 1 false "" "" 8].size (l.getD i PV.top) && (PV.isInt IntKind.i64 (PV.child 0 (l.getD i PV.top)) && (PV.isInt IntKind.i64 (PV.child (0 + 1) (l.getD i PV.top)) && true))) && true) = true := by
    intro l h1 h3
    have hq := W5 (W6 h1 (i := i) (by omega))
    unfold Vf at hq
    rw [hq]; simp [zi]; omega
   have hs : ((PV.child 0 (s.l.getD i PV.top)).int == (PV.child 0 (t.l.getD i PV.top)).int && ((PV.child (0 + 1) (s.l.getD i PV.top)).int == (PV.child (0 + 1) (t.l.getD i PV.top)).int && true)) = eqA (av (s.l.getD i .top)) (av (t.l.getD i .top)) := rfl
   simp only [Jai, Jb0, g1, w1, hs]
   refine (Ja (by simp [zi]; omega)).trans ((Ja (hro s.l ha rfl)).trans ((Ja (hro t.l hb hl.symm)).trans ?_))
   rw [J0 (l := s.l) (i := i) (by omega), J0 (l := t.l) (i := i) (by omega), Jdn]
   cases eqA (av (s.l.getD i .top)) (av (t.l.getD i .top)) with
   | false => rfl
   | true =>
    rw [Bool.true_and]
    exact (Jd rfl).trans (JAM s t ha hb hl h2 f k0 k1 z fl z' fl' d (i + 1) n (by omega) (by omega))
def Jn3 : Jz
 | [.st 58 [.st 34 [.sc (.int .i64 ih), .sc (.int .i64 iN)], .sc (.string doc), .ro 42 z f l, .sc (.int .i64 ver), .ar 37 hash], .st 58 [.st 34 [.sc (.int .i64 ih2), .sc (.int .i64 iN2)], .sc (.string doc2), .ro 42 z2 f2 l2, .sc (.int .i64 ver2), .ar 37 hash2]], [], k =>
  bif wOk ⟨ih, iN, doc, l, ver, hash⟩ && wOk ⟨ih2, iN2, doc2, l2, ver2, hash2⟩ then k ⟨.sc (.bool (JgP ⟨⟨ih, iN, doc, l, ver, hash⟩, ⟨ih2, iN2, doc2, l2, ver2, hash2⟩⟩)), [], []⟩ else none
 | _, _, _ => none
def JLQ : Sig := { own := [], run := Jn3 }
theorem JFg (s t : SV) (z f z' f' : Bool) (ha : wOk s = true) (hb : wOk t = true) (k : KR) : g22 (s.l.length + 2) s.ih s.iN s.doc z f s.l s.ver s.hash t.ih t.iN t.doc z' f' t.l t.ver t.hash k = k ⟨.sc (.bool (JgP ⟨s, t⟩)), [], []⟩ := by
 obtain ⟨a1, a2⟩ := JdC.1 ha
 obtain ⟨b1, b2⟩ := JdC.1 hb
 obtain ⟨a3, a4⟩ := YV.1 a1
 obtain ⟨b3, b4⟩ := YV.1 b1
 obtain ⟨a5, a6⟩ := h32_iff.1 a2
 obtain ⟨b5, b6⟩ := h32_iff.1 b2
 unfold g22
 rw [Jkk]
 simp only [a5, a6, b5, b6, decide_true, Bool.and_true, cond_true]
 cases (s.ih == t.ih && s.iN == t.iN) with
 | false => rfl
 | true =>
 cases Yy s.doc t.doc with
 | false => rfl
 | true =>
 simp only [Bool.not_true, cond_false, Bool.true_and]
 by_cases hl : s.l.length = t.l.length
 · refine (Jd (by simp [zi, hl])).trans ?_
   rw [Jia]
   show (bif !(s.ver == t.ver) then _ else _) = _
   cases s.ver == t.ver with
   | false => rw [Bool.false_and, Bool.and_false]; rfl
   | true =>
   cases J6 s.hash t.hash with
   | false => rw [Bool.and_false, Bool.and_false]; rfl
   | true =>
   simp only [Bool.not_true, cond_false, Bool.and_true]
   refine (JAM s t a3 b3 hl a4 (s.l.length + 2) _ _ z f z' f' s.l.length 0 (s.l.length + 2) (by omega) (by omega)).trans ?_
   rw [List.drop_zero, List.drop_zero]
   cases Jdn s.l t.l <;> rfl
 · have hs : JsU ⟨s.l, t.l⟩ = false := by
    rw [Jia]
    exact Bool.eq_false_iff.2 fun h => hl (Jj0 h)
   rw [hs, Bool.false_and]
   exact Ja (by simp [zi]; omega)
theorem JLR : Jc tau Try.prog 22 JLQ := Jc.mk' fun xs es k res hl hr => by
 change Jn3 xs es k = some res at hr
 unfold Jn3 at hr
 split at hr
 · rename_i ih iN doc z f l ver hash ih2 iN2 doc2 z2 f2 l2 ver2 hash2
   obtain ⟨hc, hr⟩ := Jv hr
   rw [Bool.and_eq_true] at hc
   exact J3 Jn Jvn Jo JLO JLP (Jyv (JfP (l.length + 2))) [.ro] 0 0 (JPt (l.length + 2)) hl rfl ((e22 (l.length + 2) ih iN doc z f l ver hash ih2 iN2 doc2 z2 f2 l2 ver2 hash2 k).trans ((JFg ⟨ih, iN, doc, l, ver, hash⟩ ⟨ih2, iN2, doc2, l2, ver2, hash2⟩ z f z2 f2 hc.1 hc.2 k).trans hr))
 · cases hr
def N5 : Nat := 75
def F5 : Fns := Jt 22 JLQ (Jt 21 s21 (Jt 20 s20 (Jt 18 JxQ (Jt 14 JLI (Jt 12 JKh (Jt 11 JKI (Jt 10 s10 (Jt 9 s9' (F0)))))))))
theorem Jvq : Jq tau Try.prog F5 := (((((((((Js).add JOt en9).add JOw JOv).add JKJ JOP).add JKj JOr).add JLJ JPl).add Juo JEi).add JPo JPn).add JPr JPq).add JLR JPu
def Jyx : Code := Qf (Try.f5.body.get!) [1, 1, 1, 1, 1, 1, 0, 1, 0, 0, 1, 0, 0, 1]
def Jqb : Nm := [(5, .any), (6, .any), (7, .any), (8, .any), (9, .any), (10, .any)]
def Jqc : Nm := [(4, .any), (5, .any), (6, .any), (7, .any), (8, .any)]
def Yd : An := (.seq .leaf (.cond (.seq .leaf .leaf) .leaf))
def Jyy : Code := Qf (Try.f5.body.get!) [1, 1, 1, 1, 1, 1, 0, 1, 0, 0]
def Jkw : Nm := [(5, .any), (6, .any), (7, .any), (8, .any)]
def Jqd : Nm := [(4, .any)]
def Q6 (r1 : Qw) : An := (.seq (.seq .leaf (.cond .leaf .leaf)) (.seq (.block none (.cut Jqb N5 .leaf r1)) .leaf))
def an5 (r0 : Qw) : An := (.seq .leaf (.seq (.seq .leaf (.cond (.seq .leaf .leaf) .leaf)) (.seq (.seq .leaf (.cond (.seq .leaf .leaf) .leaf)) (.seq .leaf (.seq (.seq .leaf (.cond (.seq .leaf .leaf) .leaf)) (.seq .leaf (.seq (.seq .leaf (.block none (.sum Jkw N5 r0))) (.seq .leaf .leaf))))))))
abbrev JAN := Bool -> List PV -> List PV -> Int -> Int -> Int -> Int -> Int -> ByteArray -> Bool -> Bool -> List PV -> Int -> List PV -> OR
abbrev Qe (v2 : List PV) (v4 : Int) := (v2.getD (IntKind.i64.wrap (v4 + 1)).toNat PV.top)
abbrev JcK (v2 : List PV) (v4 : Int) := (SV.mk (PV.child 0 (PV.child 0 (Qe v2 v4))).int (PV.child (0 + 1) (PV.child 0 (Qe v2 v4))).int (PV.child (0 + 1) (Qe v2 v4)).str (PV.child (0 + 1 + 1) (Qe v2 v4)).els (PV.child (0 + 1 + 1 + 1) (Qe v2 v4)).int (PV.child (0 + 1 + 1 + 1 + 1) (Qe v2 v4)).els)
def Ji1 (f : Nat) (rc : JAN) (k0 : Bool -> Bool -> List PV -> List PV -> Int -> Int -> OR) (k1 : Bool -> List PV -> List PV -> Int -> Int -> OR) (v0 : Bool) (v1 v2 : List PV) (v3 v4 v5 v6 v7 : Int) (v8 : ByteArray) (v9 v10 : Bool) (v11 : List PV) (v12 : Int) (v13 : List PV) : OR := bif v4 == v3 then bif v5 != 0 then k0 false v0 v1 v2 v3 v4 else bif decide (0 <= IntKind.i64.wrap (v4 + 1)) && decide (IntKind.i64.wrap (v4 + 1) < zi v2.length) && (PV.isSt 58 #[Field.mk "Id" 34 0 false "" "" 0, Field.mk "Doc" 9 2 false "" "" 16, Field.mk "People" 35 3 false "" "" 32, Field.mk "Version" 3 4 false "" "" 56, Field.mk "Hash" 37 5 false "" "" 64].size (Qe v2 v4) && (PV.isSt (Field.mk "Id" 34 0 false "" "" 0).type #[Field.mk "Host" 3 0 false "" "" 0, Field.mk "N" 3 1 false "" "" 8].size (PV.child 0 (Qe v2 v4)) && (PV.isInt IntKind.i64 (PV.child 0 (PV.child 0 (Qe v2 v4))) && (PV.isInt IntKind.i64 (PV.child (0 + 1) (PV.child 0 (Qe v2 v4))) && true)) && ((PV.child (0 + 1) (Qe v2 v4)).isStr && (PV.isRo 42 (PV.child (0 + 1 + 1) (Qe v2 v4)) && (PV.isInt IntKind.i64 (PV.child (0 + 1 + 1 + 1) (Qe v2 v4)) && (PV.isAr (Field.mk "Hash" 37 5 false "" "" 64).type (PV.child (0 + 1 + 1 + 1 + 1) (Qe v2 v4)) && true)))))) && true then bif wOk (SV.mk v6 v7 v8 v11 v12 v13) && wOk (JcK v2 v4) then bif !JgP (SW.mk (SV.mk v6 v7 v8 v11 v12 v13) (JcK v2 v4)) then k0 false v0 v1 v2 v3 v4 else bif v4 != v3 then bif v5 != 15 then k0 false v0 v1 v2 v3 v4 else k1 v0 v1 v2 v3 v4 else k1 v0 v1 v2 v3 v4 else none else none else bif v4 != v3 then bif v5 != 15 then k0 false v0 v1 v2 v3 v4 else k1 v0 v1 v2 v3 v4 else k1 v0 v1 v2 v3 v4
def Jkx (f : Nat) (k0 : Bool -> Bool -> List PV -> List PV -> Int -> Int -> OR) (k1 : Bool -> List PV -> List PV -> Int -> Int -> OR) : Nat -> JAN
 | 0 => fun _ _ _ _ _ _ _ _ _ _ _ _ _ _ => none
 | n + 1 => Ji1 f (Jkx f k0 k1 n) k0 k1
def JdJ (k : Kont) := fun x0 x1 x2 x3 x4 x5 => k Ex.ret (Jj Jqc N5 [.sc (.bool x0), .ro 51 x1 false x2, .ro 58 false false x3, .sc (.int .i64 x4), .sc (.int .i64 x5)] [])
def JdK (k : Kont) := fun x0 x1 x2 x3 x4 => k Ex.normal (Jj Jqc N5 [PV.top, .ro 51 x0 false x1, .ro 58 false false x2, .sc (.int .i64 x3), .sc (.int .i64 x4)] [])
def Jvr (f : Nat) (k : Kont) (n : Nat) (v0 : Bool) (v1 v2 : List PV) (v3 v4 v5 v6 v7 : Int) (v8 : ByteArray) (v9 v10 : Bool) (v11 : List PV) (v12 : Int) (v13 : List PV) : OR := JyD (fun s k => ev tau F5 0 0 Jyx (Yd ) s k) n (Jj Jqb N5 [.ro 51 v0 false v1, .ro 58 false false v2, .sc (.int .i64 v3), .sc (.int .i64 v4), .ptr 1216 [], .sc (.int .i64 v5)] [(1216, .box false 39 (PV.st 39 [.st 34 [.sc (.int .i64 v6), .sc (.int .i64 v7)], .sc (.string v8), .ro 42 v9 v10 v11, .sc (.int .i64 v12), .ar 37 v13]))]) (JG tau 0 Jqc k)
theorem JFh (f : Nat) (k : Kont) (n : Nat) : Jvr f k (n + 1) = Ji1 f (Jvr f k n) (JdJ k) (JdK k) := by kernel_rfl
theorem Jvs (f : Nat) (k : Kont) : ∀ n, Jvr f k n = Jkx f (JdJ k) (JdK k) n
 | 0 => rfl
 | n + 1 => (JFh f k n).trans (congrArg (fun r => Ji1 f r (JdJ k) (JdK k)) (Jvs f k n))
def JqQ (f : Nat) : List PV -> List (Nat × Ent) -> Kont -> OR
 | [.ro 51 v0 false v1, .ro 58 false false v2, .sc (.int .i64 v3), .sc (.int .i64 v4), .ptr 1216 [],
 PV.sc
  (Value.int IntKind.i64
   v5)], [(1216,
  Ent.box false 39
   (PV.st 39
    [.st 34 [.sc (.int .i64 v6), .sc (.int .i64 v7)], .sc (.string v8), .ro 42 v9 v10 v11, .sc (.int .i64 v12),
     PV.ar 37
      v13]))], k => Jkx f (JdJ k) (JdK k) f v0 v1 v2 v3 v4 v5 v6 v7 v8 v9 v10 v11 v12 v13
 | _, _, _ => none
theorem JLS (f : Nat) : Jg Jyx Yd = [] := by kernel_rfl
theorem JLT (f : Nat) : (Item.c Jyx Jqb N5 (JqQ f)).Ok tau Try.prog 0 := Jrm Jn Jvq Jo (x := Yd) (nm2 := Jqc) (Jk _ _ (by rw [JLS f]; intro q hq; cases hq)) fun vs hp k res hr => by
 unfold JqQ at hr
 split at hr
 · rw [← Jvs f] at hr; exact ⟨f, 0, hr⟩
 · cases hr
abbrev JAO := Bool -> List PV -> List PV -> Int -> Int -> OR
abbrev WA (v2 : List PV) (v4 : Int) := (PV.child (0 + 1 + 1) (v2.getD v4.toNat PV.top))
abbrev V7 (v2 : List PV) (v4 : Int) := (SV.mk (PV.child 0 (PV.child 0 (v2.getD v4.toNat PV.top))).int (PV.child (0 + 1) (PV.child 0 (v2.getD v4.toNat PV.top))).int (PV.child (0 + 1) (v2.getD v4.toNat PV.top)).str (WA v2 v4).els (PV.child (0 + 1 + 1 + 1) (v2.getD v4.toNat PV.top)).int (PV.child (0 + 1 + 1 + 1 + 1) (v2.getD v4.toNat PV.top)).els)
abbrev XO (v1 : List PV) (v3 : Int) := (PV.child 0 (PV.child 0 (v1.getD v3.toNat PV.top)))
abbrev V8 (v1 : List PV) (v3 : Int) := (EW.mk (XO v1 v3).els (PV.child (0 + 1) (PV.child 0 (v1.getD v3.toNat PV.top))).els (PV.child (0 + 1) (v1.getD v3.toNat PV.top)).int (PV.child (0 + 1 + 1) (v1.getD v3.toNat PV.top)).els (PV.child (0 + 1 + 1 + 1) (v1.getD v3.toNat PV.top)).els (PV.child (0 + 1 + 1 + 1 + 1) (v1.getD v3.toNat PV.top)).els)
abbrev Q7 (v1 : List PV) (v2 : List PV) (v3 : Int) (v4 : Int) := (DX.mk (V7 v2 v4) (V8 v1 v3))
def JfQ (f : Nat) (rc : JAO) (k0 : Bool -> OR) (k1 : OR) (v0 : Bool) (v1 v2 : List PV) (v3 v4 : Int) : OR := bif decide (v4 < zi v2.length) then bif decide (0 <= v4) && decide (v4 < zi v2.length) && (PV.isSt 58 #[Field.mk "Id" 34 0 false "" "" 0, Field.mk "Doc" 9 2 false "" "" 16, Field.mk "People" 35 3 false "" "" 32, Field.mk "Version" 3 4 false "" "" 56, Field.mk "Hash" 37 5 false "" "" 64].size (v2.getD v4.toNat PV.top) && (PV.isSt (Field.mk "Id" 34 0 false "" "" 0).type #[Field.mk "Host" 3 0 false "" "" 0, Field.mk "N" 3 1 false "" "" 8].size (PV.child 0 (v2.getD v4.toNat PV.top)) && (PV.isInt IntKind.i64 (PV.child 0 (PV.child 0 (v2.getD v4.toNat PV.top))) && (PV.isInt IntKind.i64 (PV.child (0 + 1) (PV.child 0 (v2.getD v4.toNat PV.top))) && true)) && ((PV.child (0 + 1) (v2.getD v4.toNat PV.top)).isStr && (PV.isRo 42 (WA v2 v4) && (PV.isInt IntKind.i64 (PV.child (0 + 1 + 1 + 1) (v2.getD v4.toNat PV.top)) && (PV.isAr (Field.mk "Hash" 37 5 false "" "" 64).type (PV.child (0 + 1 + 1 + 1 + 1) (v2.getD v4.toNat PV.top)) && true)))))) && true then bif decide (0 <= v3) && decide (v3 < zi v1.length) && (PV.isSt 51 #[Field.mk "S" 47 0 false "" "" 0, Field.mk "At" 3 33 false "" "" 56, Field.mk "Op" 49 34 false "" "" 64, Field.mk "Hash" 37 35 false "" "" 88, Field.mk "Mac" 37 67 false "" "" 120].size (v1.getD v3.toNat PV.top) && (PV.isSt (Field.mk "S" 47 0 false "" "" 0).type #[Field.mk "Body" 29 0 false "" "" 0, Field.mk "Mac" 37 1 false "" "" 24].size (PV.child 0 (v1.getD v3.toNat PV.top)) && (PV.isRo 5 (XO v1 v3) && (PV.isAr (Field.mk "Mac" 37 1 false "" "" 24).type (PV.child (0 + 1) (PV.child 0 (v1.getD v3.toNat PV.top))) && true)) && (PV.isInt IntKind.i64 (PV.child (0 + 1) (v1.getD v3.toNat PV.top)) && (PV.isRo 113 (PV.child (0 + 1 + 1) (v1.getD v3.toNat PV.top)) && (PV.isAr (Field.mk "Hash" 37 35 false "" "" 88).type (PV.child (0 + 1 + 1 + 1) (v1.getD v3.toNat PV.top)) && (PV.isAr (Field.mk "Mac" 37 67 false "" "" 120).type (PV.child (0 + 1 + 1 + 1 + 1) (v1.getD v3.toNat PV.top)) && true)))))) && true then bif sOk (V7 v2 v4) && eD (V8 v1 v3) && (zOk (WA v2 v4).nl (WA v2 v4).els && slB (XO v1 v3).nl (XO v1 v3).els) then Jkx f (fun x0_0 _ _ _ _ _ => k0 x0_0) (fun x0_1 x1_1 x2_1 x3_1 x4_1 => rc x0_1 x1_1 x2_1 x3_1 (IntKind.i64.wrap (x4_1 + 1))) f v0 v1 v2 v3 v4 (dsE (Q7 v1 v2 v3 v4)) ((PV.child 0 (PV.child 0 (v2.getD v4.toNat PV.top))).int) ((PV.child (0 + 1) (PV.child 0 (v2.getD v4.toNat PV.top))).int) (dsD (Q7 v1 v2 v3 v4)) (dsZ (Q7 v1 v2 v3 v4) (WA v2 v4).nl) (dsZ (Q7 v1 v2 v3 v4) (WA v2 v4).nl) (dsL (Q7 v1 v2 v3 v4)) (dsV (Q7 v1 v2 v3 v4)) (dsH (Q7 v1 v2 v3 v4)) else none else none else none else k1
def JfR (f : Nat) (k0 : Bool -> OR) (k1 : OR) : Nat -> JAO
 | 0 => fun _ _ _ _ _ => none
 | n + 1 => JfQ f (JfR f k0 k1 n) k0 k1
def JdL (k : Kont) := fun x0 => k Ex.ret (Jj Jqd N5 [.sc (.bool x0)] [])
def JdM (k : Kont) := k (Ex.exit 0) (Jj Jqd N5 [PV.top] [])
def Jvt (f : Nat) (k : Kont) (n : Nat) (v0 : Bool) (v1 v2 : List PV) (v3 v4 : Int) : OR := Jy tau 0 Jkw (fun s k => ev tau F5 0 0 Jyy (Q6 (JqQ f)) s k) n (Jj Jkw N5 [.ro 51 v0 false v1, .ro 58 false false v2, .sc (.int .i64 v3), .sc (.int .i64 v4)] []) (JG tau 0 Jqd k)
theorem JFi (f : Nat) (k : Kont) (n : Nat) : Jvt f k (n + 1) = JfQ f (Jvt f k n) (JdL k) (JdM k) := by kernel_rfl
theorem Jvu (f : Nat) (k : Kont) : ∀ n, Jvt f k n = JfR f (JdL k) (JdM k) n
 | 0 => rfl
 | n + 1 => (JFi f k n).trans (congrArg (fun r => JfQ f r (JdL k) (JdM k)) (Jvu f k n))
def Jn4 (f : Nat) : List PV -> List (Nat × Ent) -> Kont -> OR
 | [.ro 51 v0 false v1, .ro 58 false false v2, .sc (.int .i64 v3),
 .sc (.int .i64 v4)], [], k => JfR f (JdL k) (JdM k) f v0 v1 v2 v3 v4
 | _, _, _ => none
theorem JLU (f : Nat) : Jg Jyy (Q6 (JqQ f)) = [.c Jyx Jqb N5 (JqQ f)] := by kernel_rfl
theorem JLV (f : Nat) : (Item.l Jyy Jkw N5 (Jn4 f)).Ok tau Try.prog 0 := Ju Jn Jvq Jo (x := (Q6 (JqQ f))) (nm2 := Jqd) (Jk _ _ (by rw [JLU f]; simp only [List.forall_mem_cons, List.not_mem_nil, false_implies, implies_true, and_true]; exact JLT f)) fun vs hp k res hr => by
 unfold Jn4 at hr
 split at hr
 · rw [← Jvu f] at hr; exact ⟨f, 0, hr⟩
 · cases hr
abbrev Jdg (l : List PV) := (BL.mk [PV.ro 5 false false (kb 0 []), PV.ro 5 false false (kb 1 []), PV.ro 5 false false (kb 2 [])] l)
def g5 (f : Nat) (l_z l_f : Bool) (l : List PV) (at1 : Int) (k : KR) : OR := bif !decide (zi l.length <= 25) then k (Res.mk (.sc (.bool true)) [] []) else bif lOk l && kO3 [.ro 5 false false (kb 0 []), .ro 5 false false (kb 1 []), .ro 5 false false (kb 2 [])] then bif zi (bE (Jdg l)).length == 0 then k (Res.mk (.sc (.bool true)) [] []) else bif okW (zi (bE (Jdg l)).length) then JfR f (fun x0_2 => k (Res.mk (.sc (.bool x0_2)) [] [])) (k (Res.mk (.sc (.bool true)) [] [])) f ((bE (Jdg l)).isEmpty) (bE (Jdg l)) (bS (Jdg l)) (at1 % zi (bE (Jdg l)).length) (0) else none else none
theorem e5 (f : Nat) (l_z l_f : Bool) (l : List PV) (at1 : Int) (k : KR) : JJ tau F5 Try.f5 (Try.f5.body.get!) (an5 (Jn4 f)) [.ro] 0 [.ro 69 l_z l_f l, .sc (.int .i64 at1)] [] k = g5 f l_z l_f l at1 k := by kernel_rfl
theorem it5 (f : Nat) : Jg (Try.f5.body.get!) (an5 (Jn4 f)) = [.l Jyy Jkw N5 (Jn4 f)] := by kernel_rfl
theorem ia5 (f : Nat) : ∀ q ∈ Jg (Try.f5.body.get!) (an5 (Jn4 f)), q.Ok tau Try.prog 0 := by rw [it5 f]; exact JL (JLV f) (fun _ h => nomatch h)
theorem fo5 : Try.prog.funcs[5]? = some Try.f5 := by kernel_rfl
theorem bo5 : Try.f5.body = some (Try.f5.body.get!) := by kernel_rfl
structure Stp (K : List PV) (q : PV) (x : PV × PV) : Prop where
 ex : ∃ p i, spOk p = true /\ x.1 = ewP (seW ⟨p, K, sv q, i⟩) /\ x.2 = stpN K p i q /\ dsE0 (stpX K p i (sv q)) = 0
def Chn (K : List PV) : PV -> List (PV × PV) -> Prop
 | _, [] => True
 | q, x :: r => Stp K q x /\ Chn K x.2 r
theorem Ji2 {K : List PV} : ∀ (l : List PV) (i : Int) (q : PV), (∀ p ∈ l, spOk (sp p) = true) -> Chn K q (bld K l i q)
 | [], _, _, _ => trivial
 | p :: ps, i, q, h => by
  have h1 := h p List.mem_cons_self
  have h2 : ∀ r ∈ ps, spOk (sp r) = true := fun r hr => h r (List.mem_cons_of_mem _ hr)
  simp only [bld]
  cases hc : (dsE0 (stpX K (sp p) i (sv q)) == 0) with
  | true => exact ⟨⟨⟨sp p, i, h1, rfl, rfl, by simpa using hc⟩⟩, Ji2 ps _ _ h2⟩
  | false => exact Ji2 ps _ _ h2
def sts (q : PV) (r : List (PV × PV)) : List PV := q :: r.map Prod.snd
theorem Jvv {K : List PV} : ∀ (r : List (PV × PV)) (q : PV), Chn K q r -> ∀ (j : Nat) (hj : j < r.length), Stp K ((sts q r).getD j .top) (r[j]'hj)
 | x :: r, q, h, 0, hj => h.1
 | x :: r, q, h, j + 1, hj => Jvv r x.2 h.2 j (by simpa using hj)
theorem Stp.ver {K : List PV} {q : PV} {x : PV × PV} (h : Stp K q x) : (sv x.2).ver = (sv q).ver + 1 := by
 obtain ⟨p, i, h1, h2, h3, h4⟩ := h.ex
 rw [h3]
 show dsV (stpX K p i (sv q)) = _
 rw [G6, h4]; rfl
theorem Jqe {K : List PV} : ∀ (r : List (PV × PV)) (q : PV), Chn K q r -> ∀ (j : Nat), j <= r.length -> (sv ((sts q r).getD j .top)).ver = (sv q).ver + j
 | r, q, h, 0, hj => by simp [sts]
 | x :: r, q, h, j + 1, hj => by
  have := Jqe r x.2 h.2 j (by simpa using hj)
  have e : (sts q (x :: r)).getD (j + 1) .top = (sts x.2 r).getD j .top := rfl
  rw [e, this, h.1.ver]; omega
structure BldOk (K l : List PV) (n : Nat) : Prop where
 eE : bE ⟨K, l⟩ = (bld K l 0 q0).map Prod.fst
 eS : bS ⟨K, l⟩ = sts q0 (bld K l 0 q0)
 chn : Chn K q0 (bld K l 0 q0)
 len : (bld K l 0 q0).length = n
 le : n <= 25
 ok : ∀ j, j <= n -> BOk 25 ((bS ⟨K, l⟩).getD j .top)
 vr : ∀ j, j <= n -> (sv ((bS ⟨K, l⟩).getD j .top)).ver = j
theorem Jyz {K l : List PV} (h : lOk l = true) : BldOk K l (bld K l 0 q0).length := by
 obtain ⟨h1, h2, h3⟩ := JdD.1 h
 have hlen := Jaa (K := K) l 0 q0
 have hS : bS ⟨K, l⟩ = sts q0 (bld K l 0 q0) := JAm _
 have hm : ∀ q ∈ sts q0 (bld K l 0 q0), BOk 25 q := fun q hq => by
   rcases List.mem_cons.1 hq with rfl | hq
   · exact JuD.up (by decide)
   · obtain ⟨x, hx, rfl⟩ := List.mem_map.1 hq
     exact (JnF l 0 q0 h2 (Int.le_refl _) (by omega) JuD x hx).up (by omega)
 have hc := Ji2 (K := K) l 0 q0 h2
 have hsl : (sts q0 (bld K l 0 q0)).length = (bld K l 0 q0).length + 1 := by simp [sts]
 refine ⟨JAn _, hS, hc, rfl, by omega, fun j hj => ?_, fun j hj => ?_⟩
 · rw [hS, List.getD_eq_getElem?_getD, List.getElem?_eq_getElem (by omega)]
   exact hm _ (List.getElem_mem _)
 · rw [hS, Jqe _ _ hc j hj]
   show (0 : Int) + j = j; omega
theorem BldOk.lenE {K l : List PV} {n : Nat} (h : BldOk K l n) : (bE ⟨K, l⟩).length = n := by rw [h.eE, List.length_map, h.len]
theorem BldOk.lenS {K l : List PV} {n : Nat} (h : BldOk K l n) : (bS ⟨K, l⟩).length = n + 1 := by rw [h.eS]; simp [sts, h.len]
theorem BldOk.step {K l : List PV} {n : Nat} (h : BldOk K l n) {j : Nat} (hj : j < n) : Stp K ((bS ⟨K, l⟩).getD j .top) ((bE ⟨K, l⟩).getD j .top, (bS ⟨K, l⟩).getD (j + 1) .top) := by
 have hj' : j < (bld K l 0 q0).length := by rw [h.len]; exact hj
 have := Jvv _ _ h.chn j hj'
 rw [← h.eS] at this
 have e1 : (bE ⟨K, l⟩).getD j .top = ((bld K l 0 q0)[j]'hj').1 := by
  rw [h.eE, List.getD_eq_getElem?_getD, List.getElem?_map, List.getElem?_eq_getElem hj']; rfl
 have e2 : (bS ⟨K, l⟩).getD (j + 1) .top = ((bld K l 0 q0)[j]'hj').2 := by
  rw [h.eS]
  show (List.map Prod.snd (bld K l 0 q0)).getD j .top = _
  rw [List.getD_eq_getElem?_getD, List.getElem?_map, List.getElem?_eq_getElem hj']; rfl
 rw [e1, e2]; exact this
theorem Stp.all {K : List PV} {q e q' : PV} (h : Stp K q (e, q')) (hq : BOk 25 q) : ∃ s z f w, q = stP s z f /\ e = ewP w /\ eD w = true /\ dsE0 ⟨s, w⟩ = 0 /\ q' = stP (dsS ⟨s, w⟩) (dsZ ⟨s, w⟩ z) (dsF ⟨s, w⟩ f) /\ w.at1 = s.ver /\ dE w.b = 0 /\ w.h = pu .u8 (nxP ⟨s.hash, ZO w⟩) := by
 obtain ⟨p, i, h1, h2, h3, h4⟩ := h.ex
 obtain ⟨s, z, f, rfl⟩ := JcD.1 hq.st
 have hD := JnA (x := ⟨p, K, s, i⟩) hq.ok h1 hq.by1
 refine ⟨s, z, f, seW ⟨p, K, s, i⟩, rfl, h2, hD, h4, h3, rfl, ?_, rfl⟩
 have h4 : dsE0 ⟨s, seW ⟨p, K, s, i⟩⟩ = 0 := h4
 unfold dsE0 at h4
 cases hc : (dE (seW ⟨p, K, s, i⟩).b != 0) with
 | false => simpa [bne] using hc
 | true => simp only [hc, cond_true] at h4; exact h4

structure UX where
 (K : List PV) (s : SV) (a w : AV) (kd : Int)
theorem JFj : kO3 [.ro 5 false false (kb 0 []), .ro 5 false false (kb 1 []), .ro 5 false false (kb 2 [])] = true := by
 have hkk : ∀ i, kOk (kb i []) = true := fun i => JKg i rfl
 exact Jpq.2 ⟨hkk 0, hkk 1, hkk 2⟩
structure WOk (n : Int) (s : SV) (z : Bool) : Prop where
 ok : sOk s = true
 by1 : byB s.hash = true
 ih : kIn s.ih = true
 zo : z = true -> s.l = []
 ver : s.ver <= n
theorem WOk.zOk {n : Int} {s : SV} {z : Bool} (h : WOk n s z) : zOk z s.l = true := JdH.2 h.zo
theorem Jqf {x : DX} {z : Bool} (hz : z = true -> x.s.l = []) : dsZ x z = true -> dsL x = [] := by
 rw [Jfs, Jfr]
 cases dsE0 x == 0 with
 | true => exact Jn0 hz
 | false => exact hz
theorem WOk.next {n : Int} {s : SV} {z : Bool} {w : EW} (h : WOk n s z) (he : eD w = true) (hb : dsE0 ⟨s, w⟩ = 0 -> byB w.h = true) (hn : n < 1000000) : WOk (n + 1) (dsS ⟨s, w⟩) (dsZ ⟨s, w⟩ z) where
 ok := JpG (x := ⟨s, w⟩) h.ok he (by have := h.ver; show s.ver < 1000000; omega)
 by1 := by
  show byB (dsH ⟨s, w⟩) = true
  rw [Jcv]
  cases hc : dsE0 ⟨s, w⟩ == 0 with
  | true => exact hb (by simpa using hc)
  | false => exact h.by1
 ih := h.ih
 zo := Jqf h.zo
 ver := by
  show dsV ⟨s, w⟩ <= n + 1
  have := h.ver
  rw [G6]
  cases dsE0 ⟨s, w⟩ == 0 with
  | true => show s.ver + 1 <= n + 1; omega
  | false => show s.ver <= n + 1; omega
theorem JLW {s : SV} {w : EW} (hw : Jl .u8 w.h = true) (h : dsE0 ⟨s, w⟩ = 0) : byB w.h = true := by
 unfold dsE0 at h
 simp only at h
 cases h1 : (dE w.b != 0) with
 | true => rw [h1] at h; have h : dE w.b = 0 := h; rw [h] at h1; exact absurd h1 (by decide)
 | false =>
 rw [h1, cond_false] at h
 cases h2 : (w.at1 != s.ver) with
 | true => rw [h2, cond_true] at h; exact absurd h (by decide)
 | false =>
 rw [h2, cond_false] at h
 cases h3 : decide (dF 3 w.b > s.ver) with
 | true => rw [h3, cond_true] at h; exact absurd h (by decide)
 | false =>
 rw [h3, cond_false] at h
 cases h4 : (!hasP ⟨s.l, auA w.b⟩) with
 | true => rw [h4, cond_true] at h; exact absurd h (by decide)
 | false =>
 rw [h4, cond_false] at h
 cases h5 : (chE ⟨s, w⟩ != 0) with
 | true => rw [h5] at h; have h : chE ⟨s, w⟩ = 0 := h; rw [h] at h5; exact absurd h5 (by decide)
 | false =>
 rw [h5, cond_false] at h
 cases h6 : (!J6 w.h (pu .u8 (nxP ⟨s.hash, ZO w⟩))) with
 | true => rw [h6] at h; exact absurd h (by decide)
 | false =>
  have h6 : J6 w.h (pu .u8 (nxP ⟨s.hash, ZO w⟩)) = true := by simpa using h6
  rw [QB hw, Jcg] at h6
  have e : JD w.h = nxP ⟨s.hash, ZO w⟩ := by simpa using h6
  rw [QB hw, e]; exact JuC _
theorem WOk.next' {n : Int} {s : SV} {z : Bool} {w : EW} (h : WOk n s z) (he : eD w = true) (hn : n < 1000000) : WOk (n + 1) (dsS ⟨s, w⟩) (dsZ ⟨s, w⟩ z) :=
 h.next he (JLW (h32_iff.1 (Jcw.1 he).2.2.2).1) hn
theorem WOk.up {n m : Int} {s : SV} {z : Bool} (h : WOk n s z) (hm : n <= m) : WOk m s z := { h with ver := by have := h.ver; omega }
theorem JFk {w : EW} (h : eD w = true) : slB false w.b = true := by
 obtain ⟨h1, h2, h3, h4⟩ := Jcw.1 h
 have : w.b.length <= 65535 := (Xh.1 h2).2.1
 exact XA.2 ⟨fun h => (by cases h), by omega⟩
theorem WOk.w {n : Int} {s : SV} {z : Bool} (h : WOk n s z) : wOk s = true := by
 obtain ⟨s1, s2, _⟩ := Yv.1 h.ok
 obtain ⟨p1, p2, p3⟩ := QI.1 s1
 exact JdC.2 ⟨YV.2 ⟨p1, by omega⟩, s2⟩
theorem JqR {s : SV} (h : wOk s = true) : JgP ⟨s, s⟩ = true := by
 obtain ⟨_, s2⟩ := JdC.1 h
 rw [Jkk]; simp only [beq_self_eq_true, JqK, Jia, Jgw, Jkj (h32_iff.1 s2).1, Bool.and_self]
def zOf (q : PV) : Bool := (q.child 2).nl
theorem JAP {K : List PV} : ∀ (r : List (PV × PV)) (q : PV), Chn K q r -> (zOf q = true -> (sv q).l = []) -> ∀ (j : Nat), j <= r.length -> zOf ((sts q r).getD j .top) = true -> (sv ((sts q r).getD j .top)).l = []
 | r, q, h, hz, 0, hj => hz
 | x :: r, q, h, hz, j + 1, hj => by
  have e : (sts q (x :: r)).getD (j + 1) .top = (sts x.2 r).getD j .top := rfl
  rw [e]
  refine JAP r x.2 h.2 ?_ j (by simpa using hj)
  obtain ⟨p, i, h1, h2, h3, h4⟩ := h.1.ex
  rw [h3]
  exact Jqf (x := stpX K p i (sv q)) hz
theorem BldOk.z {K l : List PV} {n : Nat} (h : BldOk K l n) {j : Nat} (hj : j <= n) : zOf ((bS ⟨K, l⟩).getD j .top) = true -> (sv ((bS ⟨K, l⟩).getD j .top)).l = [] := by
 rw [h.eS]
 exact JAP _ _ h.chn (fun h => by cases h) j (by rw [h.len]; exact hj)
theorem BldOk.at {K l : List PV} {n : Nat} (h : BldOk K l n) {j : Nat} (hj : j <= n) : ∃ s z f, (bS ⟨K, l⟩).getD j .top = stP s z f /\ WOk 25 s z /\ s.ver = j /\ s.ih = 0 /\ s.iN = 3 := by
 have hb := h.ok j hj
 have hv := h.vr j hj
 have hz := h.z hj
 obtain ⟨s, z, f, hs⟩ := JcD.1 hb.st
 rw [hs] at hb hv hz
 exact ⟨s, z, f, hs, ⟨hb.ok, hb.by1, by rw [show s.ih = 0 from hb.ih, Jfh]; rfl, hz, hb.ver⟩, hv, hb.ih, hb.iN⟩
theorem Jqg {n : Nat} {p : PV} (h : Ty tau (n + 3) 69 p) : Jkm p = true /\ spOk (sp p) = true := by
 obtain ⟨fs, rfl, hf⟩ := JqJ (n := n + 2) (T := 69) (tys := [3, 3, 3, 57]) (by kernel_rfl) (List.cons_ne_nil _ _) h
 obtain ⟨p1, r1, rfl, h1, hf⟩ := Jui hf
 obtain ⟨p2, p3, p4, rfl, h2, h3, h4⟩ := JOp hf
 obtain ⟨a, rfl, _⟩ := JiA h1
 obtain ⟨b, rfl, _⟩ := JiA h2
 obtain ⟨c, rfl, _⟩ := JiA h3
 obtain ⟨z, ns, rfl, _, h5, h6⟩ := JxN h4
 have e1 : maxLen <= 9223372036854775807 := by decide
 exact ⟨rfl, Jfx.2 ⟨h6, by show ns.length <= _; omega⟩⟩
theorem Jvw {n : Nat} {p : PV} (h : Ty tau (n + 4) 22 p) : ∃ z l, p = .ro 69 z false l /\ l.all Jkm = true /\ (∀ q ∈ l, spOk (sp q) = true) := by
 have u : tau.und 22 = some (.slice 69) := by kernel_rfl
 obtain ⟨z, b, rfl, h1, h2, h3⟩ := JjC u h
 exact ⟨z, b, rfl, List.all_eq_true.2 fun q hq => (Jqg (h3 q hq)).1, fun q hq => (Jqg (h3 q hq)).2⟩
theorem Jvx {s : SV} {w : EW} (h : dE w.b = 0) (hv : w.at1 ≠ s.ver) : dsE0 ⟨s, w⟩ = 15 := by
 unfold dsE0
 simp only [h]
 exact (Jd rfl).trans (Ja (by simpa [bne] using hv))
theorem JLX {l : List PV} {m i : Nat} (B : BldOk [.ro 5 false false (kb 0 []), .ro 5 false false (kb 1 []), .ro 5 false false (kb 2 [])] l m) (hi : i < m) (f : Nat) (k0 : Bool -> OR) (k1 : OR) (ez : Bool) : ∀ (d j n : Nat), j + d = m + 1 -> d < n ->
  JfR (f + 1) k0 k1 n ez (bE ⟨[.ro 5 false false (kb 0 []), .ro 5 false false (kb 1 []), .ro 5 false false (kb 2 [])], l⟩) (bS ⟨[.ro 5 false false (kb 0 []), .ro 5 false false (kb 1 []), .ro 5 false false (kb 2 [])], l⟩) (i : Int) (j : Int) = k1
 | 0, j, n + 1, hj, hn => by
   simp only [JfR, JfQ, Q7, V8, XO, V7, WA]
   exact Jd (by have := B.lenS; simp [zi]; omega)
 | d + 1, j, n + 1, hj, hn => by
   have hle := B.le
   have IH := JLX B hi f k0 k1 ez d (j + 1) n (by omega) (by omega)
   have g1 := tI j
   have g2 := tI i
   have w1 := wI (i := j) (by omega)
   have g3 : (((j + 1 : Nat) : Int)).toNat = j + 1 := by omega
   obtain ⟨si, zi1, fi, w, a1, a2, a3, a4, a5, a6, a7, a8⟩ := (B.step hi).all (B.ok i (by omega))
   obtain ⟨s, z, fl, b1, b2, b3, b4, b5⟩ := B.at (j := j) (by omega)
   have hiv := B.vr i (by omega)
   rw [a1] at hiv
   have hiv : si.ver = i := hiv
   have hS := B.lenS
   have hE := B.lenE
   have eS : SV.mk (PV.child 0 (PV.child 0 (stP s z fl))).int (PV.child (0 + 1) (PV.child 0 (stP s z fl))).int (PV.child (0 + 1) (stP s z fl)).str (PV.child (0 + 1 + 1) (stP s z fl)).els (PV.child (0 + 1 + 1 + 1) (stP s z fl)).int (PV.child (0 + 1 + 1 + 1 + 1) (stP s z fl)).els = s := rfl
   have eW : EW.mk (PV.child 0 (PV.child 0 (ewP w))).els (PV.child (0 + 1) (PV.child 0 (ewP w))).els (PV.child (0 + 1) (ewP w)).int (PV.child (0 + 1 + 1) (ewP w)).els (PV.child (0 + 1 + 1 + 1) (ewP w)).els (PV.child (0 + 1 + 1 + 1 + 1) (ewP w)).els = w := rfl
   have c1 : (PV.child (0 + 1 + 1) (stP s z fl)).nl = z := rfl
   have c2 : (PV.child (0 + 1 + 1) (stP s z fl)).els = s.l := rfl
   have c3 : (PV.child 0 (PV.child 0 (ewP w))).nl = false := rfl
   have c4 : (PV.child 0 (PV.child 0 (ewP w))).els = w.b := rfl
   simp only [JfR, JfQ, Q7, V8, XO, V7, WA, g1, g2, b1, a2, eS, eW]
   simp only [c1, c2, c3, c4]
   refine (Ja (by simp [zi]; omega)).trans ((Ja ?_).trans ((Ja ?_).trans ((Ja ?_).trans ?_)))
   · have : (decide (0 <= (j : Int)) && decide ((j : Int) < zi (bS ⟨[.ro 5 false false (kb 0 []), .ro 5 false false (kb 1 []), .ro 5 false false (kb 2 [])], l⟩).length) && true && true) = true := by simp [zi]; omega
     exact this
   · have : (decide (0 <= (i : Int)) && decide ((i : Int) < zi (bE ⟨[.ro 5 false false (kb 0 []), .ro 5 false false (kb 1 []), .ro 5 false false (kb 2 [])], l⟩).length) && true && true) = true := by simp [zi]; omega
     exact this
   · rw [b2.ok, a3, b2.zOk, JFk a3]; rfl
   simp only [Jkx, Ji1, JcK, Qe]
   by_cases hij : j = i
   · subst hij
     have hq : stP s z fl = stP si zi1 fi := b1.symm.trans a1
     have hsv : s = si := by have := congrArg sv hq; rwa [JnE, JnE] at this
     subst hsv
     have e5 : (bS ⟨[.ro 5 false false (kb 0 []), .ro 5 false false (kb 1 []), .ro 5 false false (kb 2 [])], l⟩).getD (j + 1) .top = stP (dsS ⟨s, w⟩) (dsZ ⟨s, w⟩ zi1) (dsF ⟨s, w⟩ fi) := a5
     have hw := (b2.next' a3 (by decide)).w
     simp only [w1, g3, e5]
     have eN : SV.mk (PV.child 0 (PV.child 0 (stP (dsS ⟨s, w⟩) (dsZ ⟨s, w⟩ zi1) (dsF ⟨s, w⟩ fi)))).int (PV.child (0 + 1) (PV.child 0 (stP (dsS ⟨s, w⟩) (dsZ ⟨s, w⟩ zi1) (dsF ⟨s, w⟩ fi)))).int (PV.child (0 + 1) (stP (dsS ⟨s, w⟩) (dsZ ⟨s, w⟩ zi1) (dsF ⟨s, w⟩ fi))).str (PV.child (0 + 1 + 1) (stP (dsS ⟨s, w⟩) (dsZ ⟨s, w⟩ zi1) (dsF ⟨s, w⟩ fi))).els (PV.child (0 + 1 + 1 + 1) (stP (dsS ⟨s, w⟩) (dsZ ⟨s, w⟩ zi1) (dsF ⟨s, w⟩ fi))).int (PV.child (0 + 1 + 1 + 1 + 1) (stP (dsS ⟨s, w⟩) (dsZ ⟨s, w⟩ zi1) (dsF ⟨s, w⟩ fi))).els = dsS ⟨s, w⟩ := rfl
     have eM : SV.mk (PV.child 0 (PV.child 0 (stP s z fl))).int (PV.child (0 + 1) (PV.child 0 (stP s z fl))).int (dsD ⟨s, w⟩) (dsL ⟨s, w⟩) (dsV ⟨s, w⟩) (dsH ⟨s, w⟩) = dsS ⟨s, w⟩ := rfl
     simp only [eN, eM, G5, a4]
     refine (Ja (beq_self_eq_true _)).trans ((Jd rfl).trans ((Ja ?_).trans ((Ja (by rw [hw]; rfl)).trans ((Jd (by rw [JqR hw]; rfl)).trans ((Jd (by simp)).trans ?_)))))
     · have : (decide (0 <= ((j + 1 : Nat) : Int)) && decide (((j + 1 : Nat) : Int) < zi (bS ⟨[.ro 5 false false (kb 0 []), .ro 5 false false (kb 1 []), .ro 5 false false (kb 2 [])], l⟩).length) && true && true) = true := by simp [zi]; omega
       exact this
     · exact IH
   · have hv : dsE0 ⟨s, w⟩ = 15 := Jvx a7 (by rw [a6, hiv, b3]; omega)
     simp only [G5, hv, w1]
     exact (Jd (beq_false_of_ne (by omega))).trans ((Ja (by simp [bne]; omega)).trans ((Jd rfl).trans IH))
theorem JyA (z f : Bool) (l : List PV) (at1 : Int) (h1 : l.all Jkm = true) (h2 : ∀ p ∈ l, spOk (sp p) = true) (k : KR) : g5 50 z f l at1 k = k ⟨.sc (.bool true), [], []⟩ := by
 unfold g5 Jdg
 by_cases hl : ¬ l.length <= 25
 · exact Ja (by simp [zi]; omega)
 have hl := Decidable.not_not.1 hl
 have hlo : lOk l = true := JdD.2 ⟨h1, h2, hl⟩
 have B := Jyz (K := [.ro 5 false false (kb 0 []), .ro 5 false false (kb 1 []), .ro 5 false false (kb 2 [])]) hlo
 generalize (bld [.ro 5 false false (kb 0 []), .ro 5 false false (kb 1 []), .ro 5 false false (kb 2 [])] l 0 q0).length = m at B
 have hE := B.lenE
 refine (Jd (by simp [zi]; omega)).trans ((Ja (by rw [hlo, JFj]; rfl)).trans ?_)
 by_cases h0 : m = 0
 · exact Ja (by rw [hE, h0]; rfl)
 have hz : zi (bE ⟨[.ro 5 false false (kb 0 []), .ro 5 false false (kb 1 []), .ro 5 false false (kb 2 [])], l⟩).length = (m : Int) := by rw [hE]
 have hle := B.le
 obtain ⟨m1, m2⟩ := JbM at1 (m := (m : Int)) (by omega)
 refine (Jd (by rw [hz]; simp; omega)).trans ((Ja (JAi (by rw [hz]; omega) (by rw [hz]; omega))).trans ?_)
 rw [hz]
 have hi : at1 % (m : Int) = ((at1 % (m : Int)).toNat : Int) := by omega
 rw [hi]
 exact JLX B (i := (at1 % (m : Int)).toNat) (by omega) 49 _ _ _ (m + 1) 0 50 (by omega) (by omega)
def Jvy : Jz
 | [.ro 69 z f l, .sc (.int .i64 at1)], [], k => bif l.all Jkm && l.all (fun p => spOk (sp p)) then k ⟨.sc (.bool true), [], []⟩ else none
 | _, _, _ => none
def s5' : Sig := { own := [], run := Jvy }
theorem JPv : Jc tau Try.prog 5 s5' := Jc.mk' fun xs es k res hl hr => by
 change Jvy xs es k = some res at hr
 unfold Jvy at hr
 split at hr
 · rename_i z f l at1
   obtain ⟨hc, hr⟩ := Jv hr
   rw [Bool.and_eq_true] at hc
   exact J3 Jn Jvq Jo fo5 bo5 (an5 (Jn4 50)) [.ro] 0 0 (ia5 50) hl rfl ((e5 50 z f l at1 k).trans ((JyA z f l at1 hc.1 (List.all_eq_true.1 hc.2) k).trans hr))
 · cases hr
theorem JqS : ∀ pvs, TyL tau 6 [22, 3] pvs -> s5'.run pvs [] some = some ⟨.sc (.bool true), [], []⟩ := by
 intro pvs h
 obtain ⟨p1, p2, rfl, h1, h2⟩ := JOo h
 obtain ⟨z, l, rfl, a1, a2⟩ := Jvw (n := 2) h1
 obtain ⟨w, rfl, _⟩ := JiA (n := 5) h2
 exact Ja (by rw [a1, List.all_eq_true.2 a2]; rfl)
end
end Go.Proofs.Ythpmachmnoljeaa.Rx
