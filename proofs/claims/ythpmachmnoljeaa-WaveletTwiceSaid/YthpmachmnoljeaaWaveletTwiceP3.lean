/- What the functions of this law compute, and their plain laws. Conditions: none. -/
import Derived.KernelRfl
import Derived.Test.YthpmachmnoljeaaWaveletTwiceP2
namespace Go.Proofs.Ythpmachmnoljeaa.Rx
noncomputable section
open Go
set_option linter.unusedVariables false
set_option linter.unusedSimpArgs false
set_option maxRecDepth 100000
set_option maxHeartbeats 0
def cpN (s : RS) : RS := Qd (Jb 8 (Jb 1 s))
def cpV (s : RS) : PV := .st 113 [.sc (.int .i64 (JA 1 s)), .sc (.int .i64 (JA 8 (Jb 1 s))), .sc (.string (JT (Jb 8 (Jb 1 s))))]
def cpR : Nat -> RS -> RS
 | 0, s => s
 | n + 1, s => cpR n (cpN s)
def cpL : Nat -> RS -> List PV
 | 0, _ => []
 | n + 1, s => cpV s :: cpL n (cpN s)
theorem GL : ∀ (n : Nat) (s : RS), (cpL n s).length = n
 | 0, _ => rfl
 | n + 1, s => by rw [cpL, List.length_cons, GL n]
theorem Jti : ∀ (n : Nat) (s : RS), (cpL n s).all isCp = true
 | 0, _ => rfl
 | n + 1, s => by rw [cpL, List.all_cons, Jti n, Bool.and_true]; exact JjG.2 ⟨_, _, _, rfl⟩
theorem Jxf {s : RS} (h : byB s.b = true) : byB (cpN s).b = true := JoG (Qk (Qk h 1) 8)
def opN (b : List PV) : Nat := bif decide (JA 1 ⟨b, 0⟩ > 40) then 0 else (JA 1 ⟨b, 0⟩).toNat
def opS (b : List PV) : RS := bif decide (JA 1 ⟨b, 0⟩ > 40) then Z9 4 (Jb 1 ⟨b, 0⟩) else Jb 1 ⟨b, 0⟩
def Zo (b : List PV) : Int := bif (cpR (opN b) (opS b)).e == 0 then (bif decide ((cpR (opN b) (opS b)).b.length > 0) then 9 else ckO (cpL (opN b) (opS b))) else (cpR (opN b) (opS b)).e
def opE : List PV -> Int := hid Zo
def opL : List PV -> List PV := hid fun b => bif Zo b == 0 then cpL (opN b) (opS b) else []
def opF : List PV -> Bool := hid fun b => !(Zo b == 0)
theorem Je1 (b : List PV) : opE b = Zo b := by rw [opE, hid_eq]
theorem Je2 (b : List PV) : opL b = bif Zo b == 0 then cpL (opN b) (opS b) else [] := by rw [opL, hid_eq]
theorem JmK (b : List PV) : opF b = !(Zo b == 0) := by rw [opF, hid_eq]
def WP (e : Int) : PV := .tup [.ro 113 true true [], .sc (.int .i64 e)]
def opP (b : List PV) : PV := .tup [.ro 113 (opL b).isEmpty (opL b).isEmpty (opL b), .sc (.int .i64 (opE b))]
def opQ (b : List PV) : PV := .tup [.ro 113 (opL b).isEmpty (opF b) (opL b), .sc (.int .i64 (opE b))]
theorem Jie {b : List PV} {e : Int} (h : Zo b = e) (h0 : (e == 0) = false) : opP b = WP e := by
 simp only [opP, WP, Je2, Je1, h, h0, cond_false, List.isEmpty_nil]
theorem Jif {b : List PV} {e : Int} (h : Zo b = e) (h0 : (e == 0) = false) : opQ b = WP e := by
 simp only [opQ, WP, Je2, Je1, JmK, h, h0, cond_false, List.isEmpty_nil, Bool.not_false]
theorem JDj {b : List PV} (h : Zo b = 0) : opP b = .tup [.ro 113 (cpL (opN b) (opS b)).isEmpty (cpL (opN b) (opS b)).isEmpty (cpL (opN b) (opS b)), .sc (.int .i64 0)] := by
 simp only [opP, Je2, Je1, h, beq_self_eq_true, cond_true]
theorem JDk {b : List PV} (h : Zo b = 0) : opQ b = .tup [.ro 113 (cpL (opN b) (opS b)).isEmpty false (cpL (opN b) (opS b)), .sc (.int .i64 0)] := by
 simp only [opQ, Je2, Je1, JmK, h, beq_self_eq_true, cond_true, Bool.not_true]
theorem JmL {b : List PV} (h : byB b = true) : opN b <= 40 := by
 unfold opN
 have h0 : 0 <= JA 1 ⟨b, 0⟩ := by rw [Ze]; exact (XX (s := ⟨b, 0⟩) h (n := 1) (by omega)).1
 cases hc : decide (JA 1 ⟨b, 0⟩ > 40) with
 | true => exact Nat.zero_le _
 | false =>
  have : ¬ JA 1 ⟨b, 0⟩ > 40 := by simpa using hc
  rw [cond_false]; omega
theorem Jxg {b : List PV} (h : byB b = true) : byB (opS b).b = true := by
 have := Qk (s := ⟨b, 0⟩) h 1
 unfold opS Z9
 cases decide (JA 1 ⟨b, 0⟩ > 40) <;> exact this
theorem Jig {n : Nat} (h : n <= 40) (s : RS) : cOk (cpL n s) = true := Yj.2 ⟨Jti n s, by rw [GL]; omega⟩
theorem JzU (f : Nat) (k0 : Nat -> Bool -> Bool -> List PV -> Int -> Bool -> List PV -> OR) (z fl : Bool) (hz : (!z || fl) = true) (N : Nat) (hN : N <= 40) : ∀ (d i n : Nat) (s : RS) (nl : Bool) (L : List PV), i + d = N -> d < n -> byB s.b = true -> L.length = i ->
  YD f k0 n L.length (N : Int) (i : Int) z fl s.b s.e nl L = k0 (L ++ cpL d s).length z fl (cpR d s).b (cpR d s).e (nl && (cpL d s).isEmpty) (L ++ cpL d s)
 | 0, i, n + 1, s, nl, L, h, hn, hb, hL => by
   obtain rfl : i = N := by omega
   simp only [YD, Jbf, cpR, cpL, List.append_nil, List.isEmpty_nil, Bool.and_true]
   exact Jd (by simp)
 | d + 1, i, n + 1, s, nl, L, h, hn, hb, hL => by
   have w := wI (i := i) (by omega)
   have hm : RS.mk s.b s.e = s := rfl
   have hn1 : Qd (Jb 8 (Jb 1 s)) = cpN s := rfl
   have hv1 : PV.st 113 [.sc (.int .i64 (JA 1 s)), .sc (.int .i64 (JA 8 (Jb 1 s))), .sc (.string (JT (Jb 8 (Jb 1 s))))] = cpV s := rfl
   simp only [YD, Jbf, w, hm, hn1, hv1, List.take_length]
   refine (Ja (by simp; omega)).trans ((Ja (by rw [hb, hz]; rfl)).trans ((Ja (by rw [Qk hb 1, hz]; rfl)).trans ((Ja (by rw [Qk (Qk hb 1) 8, hz]; rfl)).trans ((Ja (by simp [Je]; omega)).trans ?_))))
   have := JzU f k0 z fl hz N hN d (i + 1) n (cpN s) (nl && false) (L ++ [cpV s]) (by omega) (by omega) (Jxf hb) (by simp [hL])
   rw [List.length_append] at this
   refine Eq.trans this ?_
   simp only [cpR, cpL, Bool.and_false, Bool.false_and, List.isEmpty_cons, List.append_assoc, List.cons_append, List.nil_append]
theorem JDl (z f : Bool) (b : List PV) (hz : slB z b = true) (hb : byB b = true) (k : KR) :
  g84 50 z f b k = k ⟨opP b, [], []⟩ := by
 have hE : Zo b = Zo b := rfl
 conv at hE => rhs; unfold Zo
 have hN := JmL hb
 have hS := Jxg hb
 have key : ∀ (N : Nat) (s : RS) (K : Nat -> Bool -> Bool -> List PV -> Int -> Bool -> List PV -> OR), opN b = N -> opS b = s ->
   (∀ (e : Int) (x1 x2 : Bool), Zo b = (bif (cpR N s).e == 0 then (bif decide ((cpR N s).b.length > 0) then 9 else ckO (cpL N s)) else (cpR N s).e) -> K (cpL N s).length x1 x2 (cpR N s).b (cpR N s).e (true && (cpL N s).isEmpty) ([] ++ cpL N s) = k ⟨opP b, [], []⟩) ->
   YD 50 K 50 0 (N : Int) 0 z z s.b s.e true [] = k ⟨opP b, [], []⟩ := by
  intro N s K h1 h2 h3
  subst h1; subst h2
  refine (JzU 50 K z z (by cases z <;> rfl) (opN b) hN (opN b) 0 50 (opS b) true [] (by omega) (by omega) hS rfl).trans ?_
  exact h3 0 z z hE
 have fin : ∀ (N : Nat) (s : RS), opN b = N -> opS b = s -> Zo b = (bif (cpR N s).e == 0 then (bif decide ((cpR N s).b.length > 0) then 9 else ckO (cpL N s)) else (cpR N s).e) ->
   (bif (cpR N s).e == 0 then
    bif decide (zi (cpR N s).b.length > 0) then k ⟨WP 9, [], []⟩
    else bif (cpR N s).e == 0 then
     bif cOk (List.take (cpL N s).length ([] ++ cpL N s)) then
      bif ckO (List.take (cpL N s).length ([] ++ cpL N s)) != 0 then k ⟨WP (ckO (List.take (cpL N s).length ([] ++ cpL N s))), [], []⟩
      else bif (Ent.vec false 113 (true && (cpL N s).isEmpty) ([] ++ cpL N s)).nil then k ⟨WP 0, [], []⟩
      else bif Je (0 + (List.take (cpL N s).length ([] ++ cpL N s)).length) 32 && true then k ⟨.tup [.ro 113 false false (List.take (0 + (List.take (cpL N s).length ([] ++ cpL N s)).length) (List.take (cpL N s).length ([] ++ cpL N s))), .sc (.int .i64 0)], [], []⟩ else none
     else none
    else bif (cpR N s).e != 0 then k ⟨WP (cpR N s).e, [], []⟩
    else bif (Ent.vec false 113 (true && (cpL N s).isEmpty) ([] ++ cpL N s)).nil then k ⟨WP 0, [], []⟩
      else bif Je (0 + (List.take (cpL N s).length ([] ++ cpL N s)).length) 32 && true then k ⟨.tup [.ro 113 false false (List.take (0 + (List.take (cpL N s).length ([] ++ cpL N s)).length) (List.take (cpL N s).length ([] ++ cpL N s))), .sc (.int .i64 0)], [], []⟩ else none
   else bif (cpR N s).e == 0 then
     bif cOk (List.take (cpL N s).length ([] ++ cpL N s)) then
      bif ckO (List.take (cpL N s).length ([] ++ cpL N s)) != 0 then k ⟨WP (ckO (List.take (cpL N s).length ([] ++ cpL N s))), [], []⟩
      else bif (Ent.vec false 113 (true && (cpL N s).isEmpty) ([] ++ cpL N s)).nil then k ⟨WP 0, [], []⟩
      else bif Je (0 + (List.take (cpL N s).length ([] ++ cpL N s)).length) 32 && true then k ⟨.tup [.ro 113 false false (List.take (0 + (List.take (cpL N s).length ([] ++ cpL N s)).length) (List.take (cpL N s).length ([] ++ cpL N s))), .sc (.int .i64 0)], [], []⟩ else none
     else none
    else bif (cpR N s).e != 0 then k ⟨WP (cpR N s).e, [], []⟩
    else bif (Ent.vec false 113 (true && (cpL N s).isEmpty) ([] ++ cpL N s)).nil then k ⟨WP 0, [], []⟩
      else bif Je (0 + (List.take (cpL N s).length ([] ++ cpL N s)).length) 32 && true then k ⟨.tup [.ro 113 false false (List.take (0 + (List.take (cpL N s).length ([] ++ cpL N s)).length) (List.take (cpL N s).length ([] ++ cpL N s))), .sc (.int .i64 0)], [], []⟩ else none) = k ⟨opP b, [], []⟩ := by
  intro N s h1 h2 h3
  have hco : cOk (cpL N s) = true := Jig (by omega) s
  have hnl : (Ent.vec false 113 (cpL N s).isEmpty (cpL N s)).nil = (cpL N s).isEmpty := by simp [Ent.nil]
  have hlen : (cpL N s).length <= 40 := by rw [GL]; omega
  have hz9 : decide (zi (cpR N s).b.length > 0) = decide ((cpR N s).b.length > 0) := by apply decide_eq_decide.2; simp only [zi]; omega
  simp only [List.nil_append, List.take_length, Bool.true_and, Nat.zero_add, hco, hnl, hz9, cond_true]
  cases he : ((cpR N s).e == 0) with
  | false =>
   rw [he, cond_false] at h3
   rw [Jie h3 he]
   simp only [cond_false]
   exact Ja (by rw [bne, he]; rfl)
  | true =>
   rw [he, cond_true] at h3
   cases h9 : decide ((cpR N s).b.length > 0) with
   | true =>
    rw [h9, cond_true] at h3
    rw [Jie h3 (by decide)]
    rfl
   | false =>
    rw [h9, cond_false] at h3
    simp only [cond_true, cond_false]
    cases hc : (ckO (cpL N s) == 0) with
    | false =>
     rw [Jie h3 hc]
     exact Ja (by rw [bne, hc]; rfl)
    | true =>
     have hc' : ckO (cpL N s) = 0 := by simpa using hc
     rw [hc'] at h3
     rw [JDj h3, h1, h2]
     refine (Jd (by rw [bne, hc]; rfl)).trans ?_
     cases hl : cpL N s with
     | nil => rfl
     | cons p ps =>
      rw [hl] at hlen
      refine (Jd rfl).trans ((Ja (by simp [Je] at hlen ⊢; omega)).trans rfl)
 unfold g84 Jic W7
 refine (Ja hz).trans ((Ja (by rw [hb]; cases z <;> rfl)).trans ?_)
 have h0 : 0 <= JA 1 ⟨b, 0⟩ := by rw [Ze]; exact (XX (s := ⟨b, 0⟩) hb (n := 1) (by omega)).1
 cases h4 : decide (JA 1 ⟨b, 0⟩ > 40) with
 | true =>
  have hN0 : opN b = 0 := by unfold opN; rw [h4]; rfl
  have hS0 : opS b = Z9 4 (Jb 1 ⟨b, 0⟩) := by unfold opS; rw [h4]; rfl
  rw [cond_true]
  cases he : ((Jb 1 ⟨b, 0⟩).e == 0) with
  | true =>
   rw [cond_true]
   have hs : opS b = ⟨(Jb 1 ⟨b, 0⟩).b, 4⟩ := by rw [hS0]; unfold Z9; rw [he]; rfl
   exact key 0 ⟨(Jb 1 ⟨b, 0⟩).b, 4⟩ _ hN0 hs fun _ _ _ h => fin 0 _ hN0 hs h
  | false =>
   rw [cond_false]
   have hs : opS b = ⟨(Jb 1 ⟨b, 0⟩).b, (Jb 1 ⟨b, 0⟩).e⟩ := by rw [hS0]; unfold Z9; rw [he]; rfl
   exact key 0 ⟨(Jb 1 ⟨b, 0⟩).b, (Jb 1 ⟨b, 0⟩).e⟩ _ hN0 hs fun _ _ _ h => fin 0 _ hN0 hs h
 | false =>
  have hN0 : opN b = (JA 1 ⟨b, 0⟩).toNat := by unfold opN; rw [h4]; rfl
  have hS0 : opS b = Jb 1 ⟨b, 0⟩ := by unfold opS; rw [h4]; rfl
  rw [cond_false]
  have q := fun K hK => key (JA 1 ⟨b, 0⟩).toNat (Jb 1 ⟨b, 0⟩) K hN0 hS0 hK
  rw [Int.toNat_of_nonneg h0] at q
  exact q _ fun _ _ _ h => fin _ _ hN0 hS0 h
def JmM : Jz
 | [.ro 5 z f b], [], k => bif slB z b && byB b then k ⟨opP b, [], []⟩ else none
 | _, _, _ => none
def JI1 : Sig := { own := [], run := JmM }
theorem JI2 : Jc tau Try.prog 84 JI1 := Jc.mk' fun xs es k res hl hr => by
 change JmM xs es k = some res at hr
 unfold JmM at hr
 split at hr
 · rename_i z f b
   obtain ⟨hc, hr⟩ := Jv hr
   rw [Bool.and_eq_true] at hc
   have hg := (JDl z f b hc.1 hc.2 k).trans hr
   exact J3 Jn Jtb Jo JIN JIO (Jxb (JeY 50)) [.ro, .ro] 0 0 (JND 50) hl rfl ((e84 50 z f b k).trans hg)
 · cases hr
/-! The document's. -/
theorem Jxh {s : RS} (h : s.e ≠ 0) : cpN s = s := by
 unfold cpN; rw [XW, XW, JaG h, JaG h, Jdu]; unfold JjI; rw [JaG h 2, JaG h]
theorem Jo4 : ∀ (n : Nat) {s : RS}, s.e ≠ 0 -> cpR n s = s
 | 0, _, _ => rfl
 | n + 1, s, h => by show cpR n (cpN s) = s; rw [Jxh h, Jo4 n h]
theorem Jtj (f : Nat) (k0 : Nat -> Bool -> Bool -> List PV -> Int -> Int -> Bool -> List PV -> OR) (n : Nat) {N i : Int} {z fl : Bool} {B : List PV} {P e : Int} (he : (e == 0) = false) {m : Nat} {nl : Bool} {L : List PV} :
  X4 f k0 (n + 1) N m i z fl B P e nl L = k0 m z fl B P e nl L := by
 simp only [X4, VT, he, cond_false]
 cases decide (i < N) <;> rfl
theorem JzV (f : Nat) (k0 : Nat -> Bool -> Bool -> List PV -> Int -> Int -> Bool -> List PV -> OR) (R : OR) {z fl : Bool} (N : Nat) (hN : N <= 40) :
  ∀ (d i n : Nat) (t : RT) (nl : Bool) (L : List PV), i + d = N -> d < n -> okT t = true -> L.length <= i ->
  (∀ (t' : RT) (nl' : Bool) (L' : List PV), okT t' = true -> t'.view = cpR d t.view -> L'.length <= 40 -> (t'.view.e = 0 -> L' = L ++ cpL d t.view /\ nl' = (nl && (cpL d t.view).isEmpty)) -> k0 L'.length z fl t'.B t'.P t'.e nl' L' = R) ->
  X4 f k0 n (N : Int) L.length (i : Int) z fl t.B t.P t.e nl L = R
 | 0, i, n + 1, t, nl, L, h, hn, ht, hL, hk => by
   simp only [X4, VT]
   exact (Jd (by simp; omega)).trans (hk t nl L ht rfl (by omega) fun _ => by simp [cpL])
 | d + 1, i, n + 1, t, nl, L, h, hn, ht, hL, hk => by
   cases he : (t.e == 0) with
   | false =>
    have he' : t.view.e ≠ 0 := by simpa [RT.view] using he
    rw [Jtj f k0 n he]
    exact hk t nl L ht (Jo4 _ he').symm (by omega) fun h0 => absurd h0 he'
   | true =>
    have w := wI (i := i) (by omega)
    have hm : RT.mk t.B t.P t.e = t := rfl
    have o1 := QD ht 1
    have o2 := QD o1 8
    have hview : (QX (Jh 8 (Jh 1 t))).view = cpN t.view := by simp only [Jgo, Qm, cpN]
    have hv1 : PV.st 113 [.sc (.int .i64 (Ql 1 t)), .sc (.int .i64 (Ql 8 (Jh 1 t))), .sc (.string (XY (Jh 8 (Jh 1 t))))] = cpV t.view := by simp only [WG, Jgp, Qm, cpV]
    simp only [X4, VT, w, hm, List.take_length, he]
    refine (Ja (by simp; omega)).trans ((Ja rfl).trans ((Ja ht).trans ((Ja o1).trans ((Ja o2).trans ((Ja (by simp [Je]; omega)).trans ?_)))))
    rw [hv1]
    have := JzV f k0 R (z := z) (fl := fl) N hN d (i + 1) n (QX (Jh 8 (Jh 1 t))) (nl && false) (L ++ [cpV t.view]) (by omega) (by omega) (JjL o2) (by simp; omega) fun t' nl' L' h1 h2 h3 h4 => hk t' nl' L' h1 (by rw [h2, hview]; rfl) h3 fun h0 => by
     obtain ⟨q1, q2⟩ := h4 h0
     rw [hview] at q1 q2
     exact ⟨by rw [q1]; simp [cpL], by rw [q2]; simp [cpL]⟩
    rw [List.length_append] at this
    exact this
theorem JDm (z f : Bool) (b : List PV) (hb : byB b = true) (hlen : b.length <= 1000000000) (k : KR) :
  g49 50 z f b k = k ⟨opQ b, [], []⟩ := by
 have hE : Zo b = Zo b := rfl
 conv at hE => rhs; unfold Zo
 have hN := JmL hb
 have hok0 : okT (RT.mk b 0 0) = true := by simp [okT, hb]; omega
 have hv0 : (RT.mk b 0 0).view = RS.mk b 0 := rfl
 have fin : ∀ (t' : RT) (nl' : Bool) (L' : List PV), okT t' = true -> t'.view = cpR (opN b) (opS b) -> L'.length <= 40 -> (t'.view.e = 0 -> L' = cpL (opN b) (opS b) /\ nl' = (cpL (opN b) (opS b)).isEmpty) ->
   (bif t'.e == 0 then
     bif decide (t'.P < zi t'.B.length) then k ⟨WP 9, [], []⟩
     else bif t'.e == 0 then
      bif cOk (List.take L'.length L') then
       bif ckO (List.take L'.length L') != 0 then k ⟨WP (ckO (List.take L'.length L')), [], []⟩
       else k ⟨.tup [.ro 113 (Ent.vec false 113 nl' L').nil false (List.take L'.length L'), .sc (.int .i64 0)], [], []⟩
      else none
     else bif t'.e != 0 then k ⟨WP t'.e, [], []⟩
     else k ⟨.tup [.ro 113 (Ent.vec false 113 nl' L').nil false (List.take L'.length L'), .sc (.int .i64 0)], [], []⟩
   else bif t'.e == 0 then
      bif cOk (List.take L'.length L') then
       bif ckO (List.take L'.length L') != 0 then k ⟨WP (ckO (List.take L'.length L')), [], []⟩
       else k ⟨.tup [.ro 113 (Ent.vec false 113 nl' L').nil false (List.take L'.length L'), .sc (.int .i64 0)], [], []⟩
      else none
     else bif t'.e != 0 then k ⟨WP t'.e, [], []⟩
     else k ⟨.tup [.ro 113 (Ent.vec false 113 nl' L').nil false (List.take L'.length L'), .sc (.int .i64 0)], [], []⟩) = k ⟨opQ b, [], []⟩ := by
  intro t' nl' L' ht hV hL hq
  have hve : t'.e = (cpR (opN b) (opS b)).e := by rw [← hV]; rfl
  have hvP : decide (t'.P < zi t'.B.length) = decide ((cpR (opN b) (opS b)).b.length > 0) := by
   rw [← hV]
   show decide _ = decide ((List.drop _ _).length > 0)
   rw [List.length_drop]
   simp only [okT, Bool.and_eq_true, decide_eq_true_eq] at ht
   apply decide_eq_decide.2
   simp only [zi]; omega
  simp only [hvP, List.take_length]
  cases he : (t'.e == 0) with
  | false =>
   have he2 : ((cpR (opN b) (opS b)).e == 0) = false := by rw [← hve]; exact he
   rw [he2, cond_false, ← hve] at hE
   rw [Jif hE he]
   simp only [cond_false]
   exact Ja (by rw [bne, he]; rfl)
  | true =>
   have he2 : ((cpR (opN b) (opS b)).e == 0) = true := by rw [← hve]; exact he
   rw [he2, cond_true] at hE
   cases h9 : decide ((cpR (opN b) (opS b)).b.length > 0) with
   | true =>
     rw [h9, cond_true] at hE
     rw [Jif hE (by decide)]
     rfl
   | false =>
     rw [h9, cond_false] at hE
     obtain ⟨w1, w2⟩ := hq (by have := he; rw [beq_iff_eq] at this; exact this)
     simp only [cond_true, cond_false]
     rw [w1, w2]
     have hco : cOk (cpL (opN b) (opS b)) = true := Jig hN _
     have hnl : (Ent.vec false 113 (cpL (opN b) (opS b)).isEmpty (cpL (opN b) (opS b))).nil = (cpL (opN b) (opS b)).isEmpty := by simp [Ent.nil]
     refine (Ja hco).trans ?_
     cases hc : (ckO (cpL (opN b) (opS b)) == 0) with
     | false =>
      rw [Jif hE hc]
      exact Ja (by rw [bne, hc]; rfl)
     | true =>
      have hc' : ckO (cpL (opN b) (opS b)) = 0 := by simpa using hc
      rw [hc'] at hE
      rw [JDk hE, hnl]
      exact (Jd (by rw [bne, hc]; rfl))
 unfold g49 Jid
 refine (Ja hok0).trans ?_
 have hn : Ql 1 (RT.mk b 0 0) = JA 1 ⟨b, 0⟩ := by rw [WG, hv0]
 have hvs : (Jh 1 (RT.mk b 0 0)).view = Jb 1 ⟨b, 0⟩ := by rw [Qm, hv0]
 have hos : okT (Jh 1 (RT.mk b 0 0)) = true := QD hok0 1
 generalize hst : Jh 1 (RT.mk b 0 0) = st at *
 have hse : st.e = (Jb 1 ⟨b, 0⟩).e := by rw [← hvs]; rfl
 rw [hn]
 have h0 : 0 <= JA 1 ⟨b, 0⟩ := by rw [Ze]; exact (XX (s := ⟨b, 0⟩) hb (n := 1) (by omega)).1
 cases h4 : decide (JA 1 ⟨b, 0⟩ > 40) with
 | true =>
  have hN0 : opN b = 0 := by unfold opN; rw [h4]; rfl
  have hS0 : opS b = Z9 4 (Jb 1 ⟨b, 0⟩) := by unfold opS; rw [h4]; rfl
  rw [cond_true]
  cases he : (st.e == 0) with
  | true =>
   rw [cond_true]
   refine (Jtj 50 _ 49 (by decide)).trans ?_
   refine fin ⟨st.B, st.P, 4⟩ true [] hos ?_ (by decide) fun h => ?_
   · rw [hN0, hS0, ← hvs]
     show RS.mk _ _ = Z9 4 st.view
     unfold Z9
     rw [show (st.view.e == 0) = true from he]; rfl
   · have h' : (4 : Int) = 0 := h
     exact absurd h' (by decide)
  | false =>
   rw [cond_false]
   refine (Jtj 50 _ 49 he).trans ?_
   refine fin st true [] hos ?_ (by decide) fun h => ?_
   · rw [hN0, hS0, ← hvs]
     show st.view = Z9 4 st.view
     unfold Z9
     rw [show (st.view.e == 0) = false from he]; rfl
   · have h' : st.e = 0 := h
     rw [h'] at he; exact absurd he (by decide)
 | false =>
  have hN0 : opN b = (JA 1 ⟨b, 0⟩).toNat := by unfold opN; rw [h4]; rfl
  have hS0 : opS b = Jb 1 ⟨b, 0⟩ := by unfold opS; rw [h4]; rfl
  rw [cond_false]
  have hcn : JA 1 ⟨b, 0⟩ = ((opN b : Nat) : Int) := by rw [hN0]; exact (Int.toNat_of_nonneg h0).symm
  rw [hcn]
  refine JzV 50 _ _ (opN b) hN (opN b) 0 50 st true [] (by omega) (by omega) hos (by decide) fun t' nl' L' q1 q2 q3 q4 => ?_
  have hVt : st.view = opS b := by rw [hS0, hvs]
  rw [hVt] at q2 q4
  exact fin t' nl' L' q1 q2 q3 fun h => by
   obtain ⟨w1, w2⟩ := q4 h
   exact ⟨by rw [w1, List.nil_append], by rw [w2, Bool.true_and]⟩
def JmN : Jz
 | [.ro 5 z f b], [], k => bif byB b && Nat.ble b.length 1000000000 then k ⟨opQ b, [], []⟩ else none
 | _, _, _ => none
def JI3 : Sig := { own := [], run := JmN }
theorem JI4 : Jc tau Try.prog 49 JI3 := Jc.mk' fun xs es k res hl hr => by
 change JmN xs es k = some res at hr
 unfold JmN at hr
 split at hr
 · rename_i z f b
   obtain ⟨hc, hr⟩ := Jv hr
   rw [Bool.and_eq_true, Nat.ble_eq] at hc
   have hg := (JDm z f b hc.1 hc.2 k).trans hr
   exact J3 Jn Jtf Jo JIZ JI0 (Jxd (Je0 50)) [.ro, .ro] 0 0 (JNL 50) hl rfl ((e49 50 z f b k).trans hg)
 · cases hr
def N37 : Nat := 62
def F37 : Fns := Jt 85 JH3 (Jt 84 JI1 (Jt 83 JBt (Jt 82 s82 (Jt 81 s81 (Jt 67 s67 (Jt 65 s65 (F0)))))))
theorem Jtk : Jq tau Try.prog F37 := (((((((Js).add JIC JIB).add JIG JIF).add JF9 JF8).add JGd JGc).add Jy5 JGg).add JI2 JNE).add JH4 JMh
def Jo5 : Code := Qf (Try.f37.body.get!) [1, 1, 1, 0, 1, 0, 0]
def Je3 : Nm := [(2, .any), (4, .any), (5, .any), (21, .any)]
def JmO : Nm := [(2, .any), (4, .any), (5, .any)]
def Jtl : An := (.seq .leaf (.seq (.cond .leaf .leaf) (.seq (.block none (.seq .leaf .leaf)) .leaf)))
def Jxi (r0 : Qw) : An := (.seq .leaf (.seq .leaf (.seq .leaf (.seq (.seq .leaf (.block none (.sum Je3 N37 r0))) (.seq .leaf (.seq .leaf (.seq .leaf (.seq .leaf (.seq (.seq .leaf (.cond .leaf .leaf)) (.seq (.seq .leaf (.cond .leaf .leaf)) (.seq (.seq .leaf (.cond (.seq .leaf .leaf) .leaf)) (.seq .leaf .leaf))))))))))))
abbrev Jtm := Int -> Int -> Int -> Int -> Int -> List PV -> Int -> List PV -> Int -> Int -> Bool -> Bool -> List PV -> Int -> Int -> Int -> Int -> Int -> List PV -> Int -> List PV -> Int -> Int -> OR
def Jbh (f : Nat) (rc : Jtm) (k0 : Int -> Int -> Int -> Int -> List PV -> Int -> List PV -> Int -> Int -> Bool -> Bool -> List PV -> Int -> Int -> Int -> Int -> Int -> List PV -> Int -> List PV -> Int -> Int -> OR) (v0 v1 v2 v3 v4 : Int) (v5 : List PV) (v6 : Int) (v7 : List PV) (v8 v9 : Int) (v10 v11 : Bool) (v12 : List PV) (v13 v14 v15 v16 v17 : Int) (v18 : List PV) (v19 : Int) (v20 : List PV) (v21 v22 : Int) : OR := bif decide (v0 < 32) then bif (!v10 || v11) && true && byB v12 then bif decide (0 <= v0) && decide (v0 < zi 32) && true then rc (IntKind.i64.wrap (v0 + 1)) v1 v2 v3 v4 v5 v6 v7 v8 v9 v10 v11 ((Jb 1 (RS.mk v12 v13)).b) ((Jb 1 (RS.mk v12 v13)).e) v14 v15 v16 v17 (v18.set v0.toNat (.sc (.int .u8 (IntKind.u8.wrap (JA 1 (RS.mk v12 v13)))))) v19 v20 v21 v22 else none else none else k0 v1 v2 v3 v4 v5 v6 v7 v8 v9 v10 v11 v12 v13 v14 v15 v16 v17 v18 v19 v20 v21 v22
def GM (f : Nat) (k0 : Int -> Int -> Int -> Int -> List PV -> Int -> List PV -> Int -> Int -> Bool -> Bool -> List PV -> Int -> Int -> Int -> Int -> Int -> List PV -> Int -> List PV -> Int -> Int -> OR) : Nat -> Jtm
 | 0 => fun _ _ _ _ _ _ _ _ _ _ _ _ _ _ _ _ _ _ _ _ _ _ _ => none
 | n + 1 => Jbh f (GM f k0 n) k0
def Jbi (k : Kont) := fun x0 x1 x2 x3 x4 x5 x6 x7 x8 x9 x10 x11 x12 x13 x14 x15 x16 x17 x18 x19 x20 x21 => k (Ex.exit 0) (Jj JmO N37 [.ptr 1008 [], .ptr 1009 [], .ptr 1010 []] [(1008, .box false 53 (PV.st 53 [.st 42 [.sc (.int .i64 x0), .sc (.int .i64 x1)], .sc (.int .i64 x2), .sc (.int .i64 x3), .ar 37 x4, .sc (.int .i64 x5), .ro 113 true true x6, .st 42 [.sc (.int .i64 x7), .sc (.int .i64 x8)]])), (1009, .box false 166 (PV.st 166 [.ro 5 x9 x10 x11, .sc (.int .i64 x12)])), (1010, .box false 53 (PV.st 53 [.st 42 [.sc (.int .i64 x13), .sc (.int .i64 x14)], .sc (.int .i64 x15), .sc (.int .i64 x16), .ar 37 x17, .sc (.int .i64 x18), .ro 113 true true x19, .st 42 [.sc (.int .i64 x20), .sc (.int .i64 x21)]]))])
def JmP (f : Nat) (k : Kont) (n : Nat) (v0 v1 v2 v3 v4 : Int) (v5 : List PV) (v6 : Int) (v7 : List PV) (v8 v9 : Int) (v10 v11 : Bool) (v12 : List PV) (v13 v14 v15 v16 v17 : Int) (v18 : List PV) (v19 : Int) (v20 : List PV) (v21 v22 : Int) : OR := Jy tau 0 Je3 (fun s k => ev tau F37 0 0 Jo5 (Jtl ) s k) n (Jj Je3 N37 [.ptr 1008 [], .ptr 1009 [], .ptr 1010 [], .sc (.int .i64 v0)] [(1008, .box false 53 (PV.st 53 [.st 42 [.sc (.int .i64 v1), .sc (.int .i64 v2)], .sc (.int .i64 v3), .sc (.int .i64 v4), .ar 37 v5, .sc (.int .i64 v6), .ro 113 true true v7, .st 42 [.sc (.int .i64 v8), .sc (.int .i64 v9)]])), (1009, .box false 166 (PV.st 166 [.ro 5 v10 v11 v12, .sc (.int .i64 v13)])), (1010, .box false 53 (PV.st 53 [.st 42 [.sc (.int .i64 v14), .sc (.int .i64 v15)], .sc (.int .i64 v16), .sc (.int .i64 v17), .ar 37 v18, .sc (.int .i64 v19), .ro 113 true true v20, .st 42 [.sc (.int .i64 v21), .sc (.int .i64 v22)]]))]) (JG tau 0 JmO k)
theorem Jxj (f : Nat) (k : Kont) (n : Nat) : JmP f k (n + 1) = Jbh f (JmP f k n) (Jbi k) := by kernel_rfl
theorem Jo6 (f : Nat) (k : Kont) : ∀ n, JmP f k n = GM f (Jbi k) n
 | 0 => rfl
 | n + 1 => (Jxj f k n).trans (congrArg (fun r => Jbh f r (Jbi k)) (Jo6 f k n))
def Je4 (f : Nat) : List PV -> List (Nat × Ent) -> Kont -> OR
 | [.ptr 1008 [], .ptr 1009 [], .ptr 1010 [],
 PV.sc
  (Value.int IntKind.i64
   v0)], [(1008,
  Ent.box false 53
   (PV.st 53
    [.st 42 [.sc (.int .i64 v1), .sc (.int .i64 v2)], .sc (.int .i64 v3), .sc (.int .i64 v4), .ar 37 v5,
     .sc (.int .i64 v6), .ro 113 true true v7, .st 42 [.sc (.int .i64 v8), .sc (.int .i64 v9)]])),
 (1009, .box false 166 (PV.st 166 [.ro 5 v10 v11 v12, .sc (.int .i64 v13)])),
 (1010,
  Ent.box false 53
   (PV.st 53
    [.st 42 [.sc (.int .i64 v14), .sc (.int .i64 v15)], .sc (.int .i64 v16), .sc (.int .i64 v17), .ar 37 v18,
     .sc (.int .i64 v19), .ro 113 true true v20,
     PV.st 42
      [.sc (.int .i64 v21),
       PV.sc
        (Value.int IntKind.i64
         v22)]]))], k => GM f (Jbi k) f v0 v1 v2 v3 v4 v5 v6 v7 v8 v9 v10 v11 v12 v13 v14 v15 v16 v17 v18 v19 v20 v21 v22
 | _, _, _ => none
theorem JDn (f : Nat) : Jg Jo5 Jtl = [] := by kernel_rfl
theorem JDo (f : Nat) : (Item.l Jo5 Je3 N37 (Je4 f)).Ok tau Try.prog 0 := Ju Jn Jtk Jo (x := Jtl) (nm2 := JmO) (Jk _ _ (by rw [JDn f]; intro q hq; cases hq)) fun vs hp k res hr => by
 unfold Je4 at hr
 split at hr
 · rw [← Jo6 f] at hr; exact ⟨f, 0, hr⟩
 · cases hr
abbrev Xt := Jch
abbrev Je5 (b : List PV) := (Jb 8 (Jb 8 (Jb 8 (RS.mk b 0))))
def g37 (f : Nat) (b_z b_f : Bool) (b : List PV) (k : KR) : OR := bif slB b_z b then bif (!b_z || b_z) && true && byB b then bif (!b_z || b_z) && true && byB (Jb 8 (RS.mk b 0)).b then bif (!b_z || b_z) && true && byB (Jb 8 (Jb 8 (RS.mk b 0))).b then bif (!b_z || b_z) && true && byB (Je5 b).b then GM f (fun _ _ _ _ _ _ _ _ _ x9_0 x10_0 Jp x12_0 Wq x14_0 x15_0 x16_0 x17_0 _ x19_0 _ _ => bif (!x9_0 || x10_0) && true && byB Jp then bif (!x9_0 || x10_0) && byB (Jb 1 (RS.mk Jp x12_0)).b then bif (!x9_0 || x10_0) && true && byB (Qd (Jb 1 (RS.mk Jp x12_0))).b then bif (!x9_0 || x10_0) && true && byB (Jb 8 (Qd (Jb 1 (RS.mk Jp x12_0)))).b then bif (Jb 8 (Jb 8 (Qd (Jb 1 (RS.mk Jp x12_0))))).e == 0 then bif decide (zi (Jb 8 (Jb 8 (Qd (Jb 1 (RS.mk Jp x12_0))))).b.length > 0) then k (Res.mk (.tup [.st 53 [.st 42 [.sc (.int .i64 0), .sc (.int .i64 0)], .sc (.int .i64 0), .sc (.int .i64 0), .ar 37 Xt, .sc (.int .i64 0), .ro 113 true true [], .st 42 [.sc (.int .i64 0), .sc (.int .i64 0)]], .sc (.int .i64 9)]) [] []) else bif (Jb 8 (Jb 8 (Qd (Jb 1 (RS.mk Jp x12_0))))).e == 0 then bif Je (JT (Jb 1 (RS.mk Jp x12_0))).size 1 && true then bif slB (Ent.vec false 5 false (Ji (JT (Jb 1 (RS.mk Jp x12_0))))).nil (List.take (JT (Jb 1 (RS.mk Jp x12_0))).size (List.drop 0 (Ji (JT (Jb 1 (RS.mk Jp x12_0)))))) && byB (List.take (JT (Jb 1 (RS.mk Jp x12_0))).size (Ji (JT (Jb 1 (RS.mk Jp x12_0))))) then bif opE (List.take (JT (Jb 1 (RS.mk Jp x12_0))).size (Ji (JT (Jb 1 (RS.mk Jp x12_0))))) == 0 then bif cOk (opL (List.take (JT (Jb 1 (RS.mk Jp x12_0))).size (Ji (JT (Jb 1 (RS.mk Jp x12_0)))))) then bif dCk (DV.mk Wq x14_0 x15_0 x16_0 x17_0 (JA 1 (RS.mk Jp x12_0)) (opL (List.take (JT (Jb 1 (RS.mk Jp x12_0))).size (Ji (JT (Jb 1 (RS.mk Jp x12_0)))))) (JA 8 (Qd (Jb 1 (RS.mk Jp x12_0)))) (JA 8 (Jb 8 (Qd (Jb 1 (RS.mk Jp x12_0)))))) != 0 then k (Res.mk (.tup [.st 53 [.st 42 [.sc (.int .i64 0), .sc (.int .i64 0)], .sc (.int .i64 0), .sc (.int .i64 0), .ar 37 Xt, .sc (.int .i64 0), .ro 113 true true [], .st 42 [.sc (.int .i64 0), .sc (.int .i64 0)]], .sc (.int .i64 (dCk (DV.mk Wq x14_0 x15_0 x16_0 x17_0 (JA 1 (RS.mk Jp x12_0)) (opL (List.take (JT (Jb 1 (RS.mk Jp x12_0))).size (Ji (JT (Jb 1 (RS.mk Jp x12_0)))))) (JA 8 (Qd (Jb 1 (RS.mk Jp x12_0)))) (JA 8 (Jb 8 (Qd (Jb 1 (RS.mk Jp x12_0))))))))]) [] []) else k (Res.mk (.tup [.st 53 [.st 42 [.sc (.int .i64 Wq), .sc (.int .i64 x14_0)], .sc (.int .i64 x15_0), .sc (.int .i64 x16_0), .ar 37 x17_0, .sc (.int .i64 (JA 1 (RS.mk Jp x12_0))), .ro 113 (opL (List.take (JT (Jb 1 (RS.mk Jp x12_0))).size (Ji (JT (Jb 1 (RS.mk Jp x12_0)))))).isEmpty (opL (List.take (JT (Jb 1 (RS.mk Jp x12_0))).size (Ji (JT (Jb 1 (RS.mk Jp x12_0)))))).isEmpty (opL (List.take (JT (Jb 1 (RS.mk Jp x12_0))).size (Ji (JT (Jb 1 (RS.mk Jp x12_0)))))), .st 42 [.sc (.int .i64 (JA 8 (Qd (Jb 1 (RS.mk Jp x12_0))))), .sc (.int .i64 (JA 8 (Jb 8 (Qd (Jb 1 (RS.mk Jp x12_0))))))]], .sc (.int .i64 0)]) [] []) else none else bif opE (List.take (JT (Jb 1 (RS.mk Jp x12_0))).size (Ji (JT (Jb 1 (RS.mk Jp x12_0))))) != 0 then k (Res.mk (.tup [.st 53 [.st 42 [.sc (.int .i64 0), .sc (.int .i64 0)], .sc (.int .i64 0), .sc (.int .i64 0), .ar 37 Xt, .sc (.int .i64 0), .ro 113 true true [], .st 42 [.sc (.int .i64 0), .sc (.int .i64 0)]], .sc (.int .i64 (opE (List.take (JT (Jb 1 (RS.mk Jp x12_0))).size (Ji (JT (Jb 1 (RS.mk Jp x12_0)))))))]) [] []) else k (Res.mk (.tup [.st 53 [.st 42 [.sc (.int .i64 Wq), .sc (.int .i64 x14_0)], .sc (.int .i64 x15_0), .sc (.int .i64 x16_0), .ar 37 x17_0, .sc (.int .i64 (JA 1 (RS.mk Jp x12_0))), .ro 113 (opL (List.take (JT (Jb 1 (RS.mk Jp x12_0))).size (Ji (JT (Jb 1 (RS.mk Jp x12_0)))))).isEmpty (opL (List.take (JT (Jb 1 (RS.mk Jp x12_0))).size (Ji (JT (Jb 1 (RS.mk Jp x12_0)))))).isEmpty (opL (List.take (JT (Jb 1 (RS.mk Jp x12_0))).size (Ji (JT (Jb 1 (RS.mk Jp x12_0)))))), .st 42 [.sc (.int .i64 (JA 8 (Qd (Jb 1 (RS.mk Jp x12_0))))), .sc (.int .i64 (JA 8 (Jb 8 (Qd (Jb 1 (RS.mk Jp x12_0))))))]], .sc (.int .i64 0)]) [] []) else none else none else bif (Jb 8 (Jb 8 (Qd (Jb 1 (RS.mk Jp x12_0))))).e == 0 then bif cOk x19_0 then bif dCk (DV.mk Wq x14_0 x15_0 x16_0 x17_0 (JA 1 (RS.mk Jp x12_0)) x19_0 (JA 8 (Qd (Jb 1 (RS.mk Jp x12_0)))) (JA 8 (Jb 8 (Qd (Jb 1 (RS.mk Jp x12_0)))))) != 0 then k (Res.mk (.tup [.st 53 [.st 42 [.sc (.int .i64 0), .sc (.int .i64 0)], .sc (.int .i64 0), .sc (.int .i64 0), .ar 37 Xt, .sc (.int .i64 0), .ro 113 true true [], .st 42 [.sc (.int .i64 0), .sc (.int .i64 0)]], .sc (.int .i64 (dCk (DV.mk Wq x14_0 x15_0 x16_0 x17_0 (JA 1 (RS.mk Jp x12_0)) x19_0 (JA 8 (Qd (Jb 1 (RS.mk Jp x12_0)))) (JA 8 (Jb 8 (Qd (Jb 1 (RS.mk Jp x12_0))))))))]) [] []) else k (Res.mk (.tup [.st 53 [.st 42 [.sc (.int .i64 Wq), .sc (.int .i64 x14_0)], .sc (.int .i64 x15_0), .sc (.int .i64 x16_0), .ar 37 x17_0, .sc (.int .i64 (JA 1 (RS.mk Jp x12_0))), .ro 113 true true x19_0, .st 42 [.sc (.int .i64 (JA 8 (Qd (Jb 1 (RS.mk Jp x12_0))))), .sc (.int .i64 (JA 8 (Jb 8 (Qd (Jb 1 (RS.mk Jp x12_0))))))]], .sc (.int .i64 0)]) [] []) else none else bif (Jb 8 (Jb 8 (Qd (Jb 1 (RS.mk Jp x12_0))))).e != 0 then k (Res.mk (.tup [.st 53 [.st 42 [.sc (.int .i64 0), .sc (.int .i64 0)], .sc (.int .i64 0), .sc (.int .i64 0), .ar 37 Xt, .sc (.int .i64 0), .ro 113 true true [], .st 42 [.sc (.int .i64 0), .sc (.int .i64 0)]], .sc (.int .i64 (Jb 8 (Jb 8 (Qd (Jb 1 (RS.mk Jp x12_0))))).e)]) [] []) else k (Res.mk (.tup [.st 53 [.st 42 [.sc (.int .i64 Wq), .sc (.int .i64 x14_0)], .sc (.int .i64 x15_0), .sc (.int .i64 x16_0), .ar 37 x17_0, .sc (.int .i64 (JA 1 (RS.mk Jp x12_0))), .ro 113 true true x19_0, .st 42 [.sc (.int .i64 (JA 8 (Qd (Jb 1 (RS.mk Jp x12_0))))), .sc (.int .i64 (JA 8 (Jb 8 (Qd (Jb 1 (RS.mk Jp x12_0))))))]], .sc (.int .i64 0)]) [] []) else bif (Jb 8 (Jb 8 (Qd (Jb 1 (RS.mk Jp x12_0))))).e == 0 then bif Je (JT (Jb 1 (RS.mk Jp x12_0))).size 1 && true then bif slB (Ent.vec false 5 false (Ji (JT (Jb 1 (RS.mk Jp x12_0))))).nil (List.take (JT (Jb 1 (RS.mk Jp x12_0))).size (List.drop 0 (Ji (JT (Jb 1 (RS.mk Jp x12_0)))))) && byB (List.take (JT (Jb 1 (RS.mk Jp x12_0))).size (Ji (JT (Jb 1 (RS.mk Jp x12_0))))) then bif opE (List.take (JT (Jb 1 (RS.mk Jp x12_0))).size (Ji (JT (Jb 1 (RS.mk Jp x12_0))))) == 0 then bif cOk (opL (List.take (JT (Jb 1 (RS.mk Jp x12_0))).size (Ji (JT (Jb 1 (RS.mk Jp x12_0)))))) then bif dCk (DV.mk Wq x14_0 x15_0 x16_0 x17_0 (JA 1 (RS.mk Jp x12_0)) (opL (List.take (JT (Jb 1 (RS.mk Jp x12_0))).size (Ji (JT (Jb 1 (RS.mk Jp x12_0)))))) (JA 8 (Qd (Jb 1 (RS.mk Jp x12_0)))) (JA 8 (Jb 8 (Qd (Jb 1 (RS.mk Jp x12_0)))))) != 0 then k (Res.mk (.tup [.st 53 [.st 42 [.sc (.int .i64 0), .sc (.int .i64 0)], .sc (.int .i64 0), .sc (.int .i64 0), .ar 37 Xt, .sc (.int .i64 0), .ro 113 true true [], .st 42 [.sc (.int .i64 0), .sc (.int .i64 0)]], .sc (.int .i64 (dCk (DV.mk Wq x14_0 x15_0 x16_0 x17_0 (JA 1 (RS.mk Jp x12_0)) (opL (List.take (JT (Jb 1 (RS.mk Jp x12_0))).size (Ji (JT (Jb 1 (RS.mk Jp x12_0)))))) (JA 8 (Qd (Jb 1 (RS.mk Jp x12_0)))) (JA 8 (Jb 8 (Qd (Jb 1 (RS.mk Jp x12_0))))))))]) [] []) else k (Res.mk (.tup [.st 53 [.st 42 [.sc (.int .i64 Wq), .sc (.int .i64 x14_0)], .sc (.int .i64 x15_0), .sc (.int .i64 x16_0), .ar 37 x17_0, .sc (.int .i64 (JA 1 (RS.mk Jp x12_0))), .ro 113 (opL (List.take (JT (Jb 1 (RS.mk Jp x12_0))).size (Ji (JT (Jb 1 (RS.mk Jp x12_0)))))).isEmpty (opL (List.take (JT (Jb 1 (RS.mk Jp x12_0))).size (Ji (JT (Jb 1 (RS.mk Jp x12_0)))))).isEmpty (opL (List.take (JT (Jb 1 (RS.mk Jp x12_0))).size (Ji (JT (Jb 1 (RS.mk Jp x12_0)))))), .st 42 [.sc (.int .i64 (JA 8 (Qd (Jb 1 (RS.mk Jp x12_0))))), .sc (.int .i64 (JA 8 (Jb 8 (Qd (Jb 1 (RS.mk Jp x12_0))))))]], .sc (.int .i64 0)]) [] []) else none else bif opE (List.take (JT (Jb 1 (RS.mk Jp x12_0))).size (Ji (JT (Jb 1 (RS.mk Jp x12_0))))) != 0 then k (Res.mk (.tup [.st 53 [.st 42 [.sc (.int .i64 0), .sc (.int .i64 0)], .sc (.int .i64 0), .sc (.int .i64 0), .ar 37 Xt, .sc (.int .i64 0), .ro 113 true true [], .st 42 [.sc (.int .i64 0), .sc (.int .i64 0)]], .sc (.int .i64 (opE (List.take (JT (Jb 1 (RS.mk Jp x12_0))).size (Ji (JT (Jb 1 (RS.mk Jp x12_0)))))))]) [] []) else k (Res.mk (.tup [.st 53 [.st 42 [.sc (.int .i64 Wq), .sc (.int .i64 x14_0)], .sc (.int .i64 x15_0), .sc (.int .i64 x16_0), .ar 37 x17_0, .sc (.int .i64 (JA 1 (RS.mk Jp x12_0))), .ro 113 (opL (List.take (JT (Jb 1 (RS.mk Jp x12_0))).size (Ji (JT (Jb 1 (RS.mk Jp x12_0)))))).isEmpty (opL (List.take (JT (Jb 1 (RS.mk Jp x12_0))).size (Ji (JT (Jb 1 (RS.mk Jp x12_0)))))).isEmpty (opL (List.take (JT (Jb 1 (RS.mk Jp x12_0))).size (Ji (JT (Jb 1 (RS.mk Jp x12_0)))))), .st 42 [.sc (.int .i64 (JA 8 (Qd (Jb 1 (RS.mk Jp x12_0))))), .sc (.int .i64 (JA 8 (Jb 8 (Qd (Jb 1 (RS.mk Jp x12_0))))))]], .sc (.int .i64 0)]) [] []) else none else none else bif (Jb 8 (Jb 8 (Qd (Jb 1 (RS.mk Jp x12_0))))).e == 0 then bif cOk x19_0 then bif dCk (DV.mk Wq x14_0 x15_0 x16_0 x17_0 (JA 1 (RS.mk Jp x12_0)) x19_0 (JA 8 (Qd (Jb 1 (RS.mk Jp x12_0)))) (JA 8 (Jb 8 (Qd (Jb 1 (RS.mk Jp x12_0)))))) != 0 then k (Res.mk (.tup [.st 53 [.st 42 [.sc (.int .i64 0), .sc (.int .i64 0)], .sc (.int .i64 0), .sc (.int .i64 0), .ar 37 Xt, .sc (.int .i64 0), .ro 113 true true [], .st 42 [.sc (.int .i64 0), .sc (.int .i64 0)]], .sc (.int .i64 (dCk (DV.mk Wq x14_0 x15_0 x16_0 x17_0 (JA 1 (RS.mk Jp x12_0)) x19_0 (JA 8 (Qd (Jb 1 (RS.mk Jp x12_0)))) (JA 8 (Jb 8 (Qd (Jb 1 (RS.mk Jp x12_0))))))))]) [] []) else k (Res.mk (.tup [.st 53 [.st 42 [.sc (.int .i64 Wq), .sc (.int .i64 x14_0)], .sc (.int .i64 x15_0), .sc (.int .i64 x16_0), .ar 37 x17_0, .sc (.int .i64 (JA 1 (RS.mk Jp x12_0))), .ro 113 true true x19_0, .st 42 [.sc (.int .i64 (JA 8 (Qd (Jb 1 (RS.mk Jp x12_0))))), .sc (.int .i64 (JA 8 (Jb 8 (Qd (Jb 1 (RS.mk Jp x12_0))))))]], .sc (.int .i64 0)]) [] []) else none else bif (Jb 8 (Jb 8 (Qd (Jb 1 (RS.mk Jp x12_0))))).e != 0 then k (Res.mk (.tup [.st 53 [.st 42 [.sc (.int .i64 0), .sc (.int .i64 0)], .sc (.int .i64 0), .sc (.int .i64 0), .ar 37 Xt, .sc (.int .i64 0), .ro 113 true true [], .st 42 [.sc (.int .i64 0), .sc (.int .i64 0)]], .sc (.int .i64 (Jb 8 (Jb 8 (Qd (Jb 1 (RS.mk Jp x12_0))))).e)]) [] []) else k (Res.mk (.tup [.st 53 [.st 42 [.sc (.int .i64 Wq), .sc (.int .i64 x14_0)], .sc (.int .i64 x15_0), .sc (.int .i64 x16_0), .ar 37 x17_0, .sc (.int .i64 (JA 1 (RS.mk Jp x12_0))), .ro 113 true true x19_0, .st 42 [.sc (.int .i64 (JA 8 (Qd (Jb 1 (RS.mk Jp x12_0))))), .sc (.int .i64 (JA 8 (Jb 8 (Qd (Jb 1 (RS.mk Jp x12_0))))))]], .sc (.int .i64 0)]) [] []) else none else none else none else none) f (0) (0) (0) (0) (0) (Xt) (0) ([]) (0) (0) b_z b_z ((Jb 8 (Je5 b)).b) ((Jb 8 (Je5 b)).e) (JA 8 (RS.mk b 0)) (JA 8 (Jb 8 (RS.mk b 0))) (JA 8 (Jb 8 (Jb 8 (RS.mk b 0)))) (JA 8 (Je5 b)) (Xt) (0) ([]) (0) (0) else none else none else none else none else none
theorem e37 (f : Nat) (b_z b_f : Bool) (b : List PV) (k : KR) : JJ tau F37 Try.f37 (Try.f37.body.get!) (Jxi (Je4 f)) [.ro, .ro] 0 [.ro 5 b_z b_f b] [] k = g37 f b_z b_f b k := by kernel_rfl
theorem JNN (f : Nat) : Jg (Try.f37.body.get!) (Jxi (Je4 f)) = [.l Jo5 Je3 N37 (Je4 f)] := by kernel_rfl
theorem JNO (f : Nat) : ∀ q ∈ Jg (Try.f37.body.get!) (Jxi (Je4 f)), q.Ok tau Try.prog 0 := by rw [JNN f]; exact JL (JDo f) (fun _ h => nomatch h)
theorem JI5 : Try.prog.funcs[37]? = some Try.f37 := by kernel_rfl
theorem JI6 : Try.f37.body = some (Try.f37.body.get!) := by kernel_rfl
theorem JNP : Enters Try.prog 37 := enters_of JI5 (by kernel_rfl) JI6
def F43 : Fns := Jt 44 Jwi (F0)
theorem JDp : Jq tau Try.prog F43 := (Js).add Jr5 JBC
def JDq : An := (.seq .leaf (.seq .leaf (.seq .leaf (.seq .leaf .leaf))))
def g43 (f : Nat) (y0 y1 : Bool) (r_B : List PV) (r_P y2 : Int) (k : KR) : OR := bif okT (RT.mk r_B r_P y2) then bif okT (Jh 8 (RT.mk r_B r_P y2)) then k (Res.mk (.st 42 [.sc (.int .i64 (Ql 8 (RT.mk r_B r_P y2))), .sc (.int .i64 (Ql 8 (Jh 8 (RT.mk r_B r_P y2))))]) [.box false 135 (PV.st 135 [.ro 5 y0 y1 (Jh 8 (Jh 8 (RT.mk r_B r_P y2))).B, .sc (.int .i64 (Jh 8 (Jh 8 (RT.mk r_B r_P y2))).P), .sc (.int .i64 (Jh 8 (Jh 8 (RT.mk r_B r_P y2))).e)])] []) else none else none
theorem e43 (f : Nat) (y0 y1 : Bool) (r_B : List PV) (r_P y2 : Int) (k : KR) : JJ tau F43 Try.f43 (Try.f43.body.get!) JDq [.ro] 0 [.ptr 0 []] [.box false 135 (.st 135 [.ro 5 y0 y1 r_B, .sc (.int .i64 r_P), .sc (.int .i64 y2)])] k = g43 f y0 y1 r_B r_P y2 k := by kernel_rfl
theorem JNQ (f : Nat) : ∀ q ∈ Jg (Try.f43.body.get!) JDq, q.Ok tau Try.prog 1 := Jw (by kernel_rfl)
theorem JI7 : Try.prog.funcs[43]? = some Try.f43 := by kernel_rfl
theorem JI8 : Try.f43.body = some (Try.f43.body.get!) := by kernel_rfl
theorem JNR : Enters Try.prog 43 := enters_of JI7 (by kernel_rfl) JI8
def Jtn : Jz
 | [.ptr 0 []], [.box false 135 (.st 135 [.ro 5 y0 y1 r_B, .sc (.int .i64 r_P), .sc (.int .i64 y2)])], k => g43 0 y0 y1 r_B r_P y2 k
 | _, _, _ => none
def s43 : Sig := { own := [], run := Jtn }
theorem JNS : Jc tau Try.prog 43 s43 := JO Jn JDp Jo JI7 JI8 JDq [.ro] 1 [] Jtn (JNQ 0) fun xs es k res hr => by
 unfold Jtn at hr
 split at hr
 · exact ⟨rfl, 0, (e43 0 _ _ _ _ _  _).trans hr⟩
 · cases hr
def F15 : Fns := Jt 50 JH5 (Jt 49 JI3 (Jt 48 s48 (Jt 47 JBI (Jt 46 Jwk (Jt 45 JGO (Jt 44 Jwi (Jt 43 s43 (Jt 42 s42 (F0)))))))))
theorem JDr : Jq tau Try.prog F15 := (((((((((Js).add JIS JIR).add JNS JNR).add Jr5 JBC).add JGP JMH).add Jr6 JBF).add Jy7 JGt).add JIW JIV).add JI4 JNM).add JH6 JMk
def JDs : An := (.seq .leaf (.seq .leaf (.seq .leaf (.seq .leaf (.seq .leaf (.seq .leaf (.seq .leaf (.seq .leaf (.seq .leaf (.seq .leaf (.seq (.seq .leaf (.cond .leaf .leaf)) (.seq (.seq .leaf (.cond .leaf .leaf)) (.seq (.seq .leaf (.cond (.seq .leaf .leaf) .leaf)) (.seq .leaf .leaf))))))))))))))
abbrev WI (b : List PV) := (Jh 8 (Jh 8 (Jh 8 (RT.mk b 0 0))))
abbrev J4 (b : List PV) := (Jh 1 (hashT (Jh 8 (WI b))))
abbrev Jcr := Jch
abbrev Jbj (b : List PV) := (Ql 8 (Jh 8 (Jh 8 (RT.mk b 0 0))))
abbrev Jbk (b : List PV) := (pu IntKind.u8 (hashVT (Jh 8 (WI b))))
abbrev WJ (b : List PV) := (List.take (XY (J4 b)).size (Ji (XY (J4 b))))
abbrev Je6 (b : List PV) := (Res.mk (PV.tup [PV.st 53 [PV.st 42 [PV.sc (.int .i64 (Ql 8 (RT.mk b 0 0))), PV.sc (.int .i64 (Ql 8 (Jh 8 (RT.mk b 0 0))))], PV.sc (.int .i64 (Jbj b)), PV.sc (.int .i64 (Ql 8 (WI b))), PV.ar 37 (Jbk b), PV.sc (.int .i64 (Ql 1 (hashT (Jh 8 (WI b))))), PV.ro 113 (opL (WJ b)).isEmpty (opF (WJ b)) (opL (WJ b)), PV.st 42 [PV.sc (.int .i64 (Ql 8 (QX (J4 b)))), PV.sc (.int .i64 (Ql 8 (Jh 8 (QX (J4 b)))))]], PV.sc (.int .i64 0)]) [] [])
abbrev Je7 (b : List PV) := (Res.mk (PV.tup [PV.st 53 [PV.st 42 [PV.sc (.int .i64 (Ql 8 (RT.mk b 0 0))), PV.sc (.int .i64 (Ql 8 (Jh 8 (RT.mk b 0 0))))], PV.sc (.int .i64 (Jbj b)), PV.sc (.int .i64 (Ql 8 (WI b))), PV.ar 37 (Jbk b), PV.sc (.int .i64 (Ql 1 (hashT (Jh 8 (WI b))))), PV.ro 113 true true [], PV.st 42 [PV.sc (.int .i64 (Ql 8 (QX (J4 b)))), PV.sc (.int .i64 (Ql 8 (Jh 8 (QX (J4 b)))))]], PV.sc (.int .i64 0)]) [] [])
abbrev Jih (b : List PV) := (DV.mk (Ql 8 (RT.mk b 0 0)) (Ql 8 (Jh 8 (RT.mk b 0 0))) (Jbj b) (Ql 8 (WI b)) (Jbk b) (Ql 1 (hashT (Jh 8 (WI b)))) (opL (WJ b)) (Ql 8 (QX (J4 b))) (Ql 8 (Jh 8 (QX (J4 b)))))
abbrev Jii (b : List PV) := (DV.mk (Ql 8 (RT.mk b 0 0)) (Ql 8 (Jh 8 (RT.mk b 0 0))) (Jbj b) (Ql 8 (WI b)) (Jbk b) (Ql 1 (hashT (Jh 8 (WI b)))) [] (Ql 8 (QX (J4 b))) (Ql 8 (Jh 8 (QX (J4 b)))))
abbrev JmQ (b : List PV) := (Res.mk (PV.tup [PV.st 53 [PV.st 42 [PV.sc (.int .i64 0), PV.sc (.int .i64 0)], PV.sc (.int .i64 0), PV.sc (.int .i64 0), PV.ar 37 Jcr, PV.sc (.int .i64 0), PV.ro 113 true true [], PV.st 42 [PV.sc (.int .i64 0), PV.sc (.int .i64 0)]], PV.sc (.int .i64 (Jh 8 (Jh 8 (QX (J4 b)))).e)]) [] [])
abbrev JmR (b : List PV) := (Res.mk (PV.tup [PV.st 53 [PV.st 42 [PV.sc (.int .i64 0), PV.sc (.int .i64 0)], PV.sc (.int .i64 0), PV.sc (.int .i64 0), PV.ar 37 Jcr, PV.sc (.int .i64 0), PV.ro 113 true true [], PV.st 42 [PV.sc (.int .i64 0), PV.sc (.int .i64 0)]], PV.sc (.int .i64 (dCk (Jih b)))]) [] [])
abbrev Jij (b : List PV) := (Res.mk (PV.tup [PV.st 53 [PV.st 42 [PV.sc (.int .i64 0), PV.sc (.int .i64 0)], PV.sc (.int .i64 0), PV.sc (.int .i64 0), PV.ar 37 Jcr, PV.sc (.int .i64 0), PV.ro 113 true true [], PV.st 42 [PV.sc (.int .i64 0), PV.sc (.int .i64 0)]], PV.sc (.int .i64 (opE (WJ b)))]) [] [])
abbrev Jik (b : List PV) := (Res.mk (PV.tup [PV.st 53 [PV.st 42 [PV.sc (.int .i64 0), PV.sc (.int .i64 0)], PV.sc (.int .i64 0), PV.sc (.int .i64 0), PV.ar 37 Jcr, PV.sc (.int .i64 0), PV.ro 113 true true [], PV.st 42 [PV.sc (.int .i64 0), PV.sc (.int .i64 0)]], PV.sc (.int .i64 (dCk (Jii b)))]) [] [])
def g15 (f : Nat) (b_z b_f : Bool) (b : List PV) (k : KR) : OR := bif okT (RT.mk b 0 0) then bif okT (Jh 8 (RT.mk b 0 0)) then bif okT (Jh 8 (Jh 8 (RT.mk b 0 0))) then bif okT (WI b) then bif okT (Jh 8 (WI b)) then bif okT (hashT (Jh 8 (WI b))) then bif okT (J4 b) then bif okT (QX (J4 b)) then bif okT (Jh 8 (QX (J4 b))) then bif (Jh 8 (Jh 8 (QX (J4 b)))).e == 0 then bif decide ((Jh 8 (Jh 8 (QX (J4 b)))).P < zi (Jh 8 (Jh 8 (QX (J4 b)))).B.length) then k (Res.mk (.tup [.st 53 [.st 42 [.sc (.int .i64 0), .sc (.int .i64 0)], .sc (.int .i64 0), .sc (.int .i64 0), .ar 37 Jcr, .sc (.int .i64 0), .ro 113 true true [], .st 42 [.sc (.int .i64 0), .sc (.int .i64 0)]], .sc (.int .i64 9)]) [] []) else bif (Jh 8 (Jh 8 (QX (J4 b)))).e == 0 then bif Je (XY (J4 b)).size 1 && true then bif byB (WJ b) && (List.take (XY (J4 b)).size (List.drop 0 (Ji (XY (J4 b))))).length.ble 1000000000 then bif opE (WJ b) == 0 then bif cOk (opL (WJ b)) then bif dCk (Jih b) != 0 then k (JmR b) else k (Je6 b) else none else bif opE (WJ b) != 0 then k (Jij b) else k (Je6 b) else none else none else bif (Jh 8 (Jh 8 (QX (J4 b)))).e == 0 then bif cOk [] then bif dCk (Jii b) != 0 then k (Jik b) else k (Je7 b) else none else bif (Jh 8 (Jh 8 (QX (J4 b)))).e != 0 then k (JmQ b) else k (Je7 b) else bif (Jh 8 (Jh 8 (QX (J4 b)))).e == 0 then bif Je (XY (J4 b)).size 1 && true then bif byB (WJ b) && (List.take (XY (J4 b)).size (List.drop 0 (Ji (XY (J4 b))))).length.ble 1000000000 then bif opE (WJ b) == 0 then bif cOk (opL (WJ b)) then bif dCk (Jih b) != 0 then k (JmR b) else k (Je6 b) else none else bif opE (WJ b) != 0 then k (Jij b) else k (Je6 b) else none else none else bif (Jh 8 (Jh 8 (QX (J4 b)))).e == 0 then bif cOk [] then bif dCk (Jii b) != 0 then k (Jik b) else k (Je7 b) else none else bif (Jh 8 (Jh 8 (QX (J4 b)))).e != 0 then k (JmQ b) else k (Je7 b) else none else none else none else none else none else none else none else none else none
theorem e15 (f : Nat) (b_z b_f : Bool) (b : List PV) (k : KR) : JJ tau F15 Try.f15 (Try.f15.body.get!) JDs [.ro, .ro] 0 [.ro 5 b_z b_f b] [] k = g15 f b_z b_f b k := by kernel_rfl
theorem JNT (f : Nat) : ∀ q ∈ Jg (Try.f15.body.get!) JDs, q.Ok tau Try.prog 0 := Jw (by kernel_rfl)
theorem JI9 : Try.prog.funcs[15]? = some Try.f15 := by kernel_rfl
theorem JJa : Try.f15.body = some (Try.f15.body.get!) := by kernel_rfl
theorem JNU : Enters Try.prog 15 := enters_of JI9 (by kernel_rfl) JJa
def Jto : Jz
 | [.ro 5 b_z b_f b], [], k => g15 0 b_z b_f b k
 | _, _, _ => none
def s15 : Sig := { own := [], run := Jto }
theorem JNV : Jc tau Try.prog 15 s15 := JO Jn JDr Jo JI9 JJa JDs [.ro, .ro] 0 [] Jto (JNT 0) fun xs es k res hr => by
 unfold Jto at hr
 split at hr
 · exact ⟨rfl, 0, (e15 0 _ _ _  _).trans hr⟩
 · cases hr
theorem Jtp (t : ByteArray) : byB (Ji t) = true := by
 unfold byB Ji
 refine List.all_eq_true.2 fun p hp => ?_
 obtain ⟨x, hx, rfl⟩ := List.mem_map.1 hp
 have := x.toNat_lt
 rw [Bool.and_eq_true, Bool.and_eq_true]
 refine ⟨rfl, decide_eq_true ?_, decide_eq_true ?_⟩
 · exact Int.natCast_nonneg _
 · exact Int.ofNat_lt.2 this
def d4 (b : List PV) : RS := Jb 8 (Jb 8 (Jb 8 (Jb 8 ⟨b, 0⟩)))
def d5 (b : List PV) : RS := hashS (d4 b)
def d7 (b : List PV) : RS := Qd (Jb 1 (d5 b))
def d9 (b : List PV) : RS := Jb 8 (Jb 8 (d7 b))
def dt (b : List PV) : List PV := Ji (JT (Jb 1 (d5 b)))
def dv (b : List PV) : DV := ⟨JA 8 ⟨b, 0⟩, JA 8 (Jb 8 ⟨b, 0⟩), JA 8 (Jb 8 (Jb 8 ⟨b, 0⟩)), JA 8 (Jb 8 (Jb 8 (Jb 8 ⟨b, 0⟩))), pu .u8 (hashV (d4 b)), JA 1 (d5 b), opL (dt b), JA 8 (d7 b), JA 8 (Jb 8 (d7 b))⟩
def dE0 (b : List PV) : Int := bif (d9 b).e == 0 then (bif decide ((d9 b).b.length > 0) then 9 else bif opE (dt b) == 0 then dCk (dv b) else opE (dt b)) else (d9 b).e
def dE : List PV -> Int := hid dE0
def dN (b : List PV) : Nat -> Int
 | 0 => (dv b).ad
 | 1 => (dv b).au
 | 2 => (dv b).id
 | 3 => (dv b).ve
 | 4 => (dv b).kd
 | 5 => (dv b).wd
 | _ => (dv b).wu
def dF : Nat -> List PV -> Int := hid fun i b => bif dE0 b == 0 then dN b i else 0
def dH : List PV -> List Int := hid fun b => bif dE0 b == 0 then hashV (d4 b) else List.replicate 32 0
def dO : List PV -> List PV := hid fun b => bif dE0 b == 0 then opL (dt b) else []
def dOF : List PV -> Bool := hid fun b => !(dE0 b == 0)
theorem Jo7 (b : List PV) : dE b = dE0 b := by rw [dE, hid_eq]
theorem Jo8 (i : Nat) (b : List PV) : dF i b = bif dE0 b == 0 then dN b i else 0 := by rw [dF, hid_eq]
theorem Jo9 (b : List PV) : dH b = bif dE0 b == 0 then hashV (d4 b) else List.replicate 32 0 := by rw [dH, hid_eq]
theorem Jpa (b : List PV) : dO b = bif dE0 b == 0 then opL (dt b) else [] := by rw [dO, hid_eq]
theorem Jtq (b : List PV) : dOF b = !(dE0 b == 0) := by rw [dOF, hid_eq]
def Jpb (e : Int) : PV := .tup [.st 53 [.st 42 [.sc (.int .i64 0), .sc (.int .i64 0)], .sc (.int .i64 0), .sc (.int .i64 0), .ar 37 (pu .u8 (List.replicate 32 0)), .sc (.int .i64 0), .ro 113 true true [], .st 42 [.sc (.int .i64 0), .sc (.int .i64 0)]], .sc (.int .i64 e)]
def dP (b : List PV) : PV := .tup [.st 53 [.st 42 [.sc (.int .i64 (dF 0 b)), .sc (.int .i64 (dF 1 b))], .sc (.int .i64 (dF 2 b)), .sc (.int .i64 (dF 3 b)), .ar 37 (pu .u8 (dH b)), .sc (.int .i64 (dF 4 b)), .ro 113 (dO b).isEmpty (dO b).isEmpty (dO b), .st 42 [.sc (.int .i64 (dF 5 b)), .sc (.int .i64 (dF 6 b))]], .sc (.int .i64 (dE b))]
def dQ (b : List PV) : PV := .tup [.st 53 [.st 42 [.sc (.int .i64 (dF 0 b)), .sc (.int .i64 (dF 1 b))], .sc (.int .i64 (dF 2 b)), .sc (.int .i64 (dF 3 b)), .ar 37 (pu .u8 (dH b)), .sc (.int .i64 (dF 4 b)), .ro 113 (dO b).isEmpty (dOF b) (dO b), .st 42 [.sc (.int .i64 (dF 5 b)), .sc (.int .i64 (dF 6 b))]], .sc (.int .i64 (dE b))]
theorem Jil {b : List PV} {e : Int} (h : dE0 b = e) (h0 : (e == 0) = false) : dP b = Jpb e := by
 simp only [dP, Jpb, Jo8, Jo9, Jpa, Jo7, h, h0, cond_false, List.isEmpty_nil]
theorem Jim {b : List PV} {e : Int} (h : dE0 b = e) (h0 : (e == 0) = false) : dQ b = Jpb e := by
 simp only [dQ, Jpb, Jo8, Jo9, Jpa, Jo7, Jtq, h, h0, cond_false, List.isEmpty_nil, Bool.not_false]
theorem JJb {b : List PV} (h : dE0 b = 0) : dP b = .tup [.st 53 [.st 42 [.sc (.int .i64 (JA 8 ⟨b, 0⟩)), .sc (.int .i64 (JA 8 (Jb 8 ⟨b, 0⟩)))], .sc (.int .i64 (JA 8 (Jb 8 (Jb 8 ⟨b, 0⟩)))), .sc (.int .i64 (JA 8 (Jb 8 (Jb 8 (Jb 8 ⟨b, 0⟩))))), .ar 37 (pu .u8 (hashV (d4 b))), .sc (.int .i64 (JA 1 (d5 b))), .ro 113 (opL (dt b)).isEmpty (opL (dt b)).isEmpty (opL (dt b)), .st 42 [.sc (.int .i64 (JA 8 (d7 b))), .sc (.int .i64 (JA 8 (Jb 8 (d7 b))))]], .sc (.int .i64 0)] := by
 simp only [dP, Jo8, Jo9, Jpa, Jo7, h, beq_self_eq_true, cond_true, dN, dv]
theorem JJc {b : List PV} (h : dE0 b = 0) : dQ b = .tup [.st 53 [.st 42 [.sc (.int .i64 (JA 8 ⟨b, 0⟩)), .sc (.int .i64 (JA 8 (Jb 8 ⟨b, 0⟩)))], .sc (.int .i64 (JA 8 (Jb 8 (Jb 8 ⟨b, 0⟩)))), .sc (.int .i64 (JA 8 (Jb 8 (Jb 8 (Jb 8 ⟨b, 0⟩))))), .ar 37 (pu .u8 (hashV (d4 b))), .sc (.int .i64 (JA 1 (d5 b))), .ro 113 (opL (dt b)).isEmpty false (opL (dt b)), .st 42 [.sc (.int .i64 (JA 8 (d7 b))), .sc (.int .i64 (JA 8 (Jb 8 (d7 b))))]], .sc (.int .i64 0)] := by
 simp only [dQ, Jo8, Jo9, Jpa, Jo7, Jtq, h, beq_self_eq_true, cond_true, Bool.not_true, dN, dv]
theorem Jpc {b : List PV} (h : byB b = true) : cOk (opL b) = true := by
 rw [Je2]
 cases Zo b == 0 with
 | true => exact Jig (JmL h) _
 | false => exact Yj.2 ⟨rfl, Nat.zero_le _⟩
theorem JzW (f : Nat) (k0 : Int -> Int -> Int -> Int -> List PV -> Int -> List PV -> Int -> Int -> Bool -> Bool -> List PV -> Int -> Int -> Int -> Int -> Int -> List PV -> Int -> List PV -> Int -> Int -> OR) (z fl : Bool) (hz : (!z || fl) = true) (x1 x2 x3 x4 : Int) (x5 : List PV) (x6 : Int) (x7 : List PV) (x8 x9 y14 y15 y16 y17 y19 : Int) (y20 : List PV) (y21 y22 : Int) : ∀ (d i n : Nat) (s : RS) (L : List Int), i + d = 32 -> d < n -> byB s.b = true -> L.length = 32 ->
  GM f k0 n (i : Int) x1 x2 x3 x4 x5 x6 x7 x8 x9 z fl s.b s.e y14 y15 y16 y17 (pu .u8 L) y19 y20 y21 y22 = k0 x1 x2 x3 x4 x5 x6 x7 x8 x9 z fl (Jev d s).b (Jev d s).e y14 y15 y16 y17 (pu .u8 (L.take i ++ JaQ d s)) y19 y20 y21 y22
 | 0, i, n + 1, s, L, h, hn, hb, hL => by
   obtain rfl : i = 32 := by omega
   simp only [GM, Jbh, Jev, JaQ, List.append_nil]
   rw [List.take_of_length_le (by omega)]
   exact Jd (by decide)
 | d + 1, i, n + 1, s, L, h, hn, hb, hL => by
   have g1 := tI i
   have w1 := wI (i := i) (by omega)
   have hm : RS.mk s.b s.e = s := rfl
   simp only [GM, Jbh, g1, w1, hm, Xs]
   refine (Ja (by simp; omega)).trans ((Ja (by rw [hb, hz]; rfl)).trans ((Ja (by simp [zi]; omega)).trans ?_))
   have := JzW f k0 z fl hz x1 x2 x3 x4 x5 x6 x7 x8 x9 y14 y15 y16 y17 y19 y20 y21 y22 d (i + 1) n (Qj 1 s) (L.set i (IntKind.u8.wrap (JA 1 s))) (by omega) (by omega) (YS hb 1) (by simpa using hL)
   rw [XW]
   refine Eq.trans this ?_
   have hset : (L.set i (IntKind.u8.wrap (JA 1 s))).take (i + 1) = L.take i ++ [IntKind.u8.wrap (JA 1 s)] := by
    rw [List.take_add_one, List.take_set_of_le (Nat.le_refl i), List.getElem?_set_self (by omega)]; rfl
   rw [hset, Ze]
   simp only [Jev, JaQ, List.append_assoc, List.cons_append, List.nil_append]
theorem JDt (z f : Bool) (b : List PV) (hz : slB z b = true) (hb : byB b = true) (k : KR) :
  g37 40 z f b k = k ⟨dP b, [], []⟩ := by
 have hE : dE0 b = dE0 b := rfl
 conv at hE => rhs; unfold dE0
 have hzz : (!z || z) = true := by cases z <;> rfl
 have c1 := Qk (s := ⟨b, 0⟩) hb 8
 have c2 := Qk c1 8
 have c3 := Qk c2 8
 have c4 : byB (d4 b).b = true := Qk c3 8
 have c5 : byB (d5 b).b = true := by unfold d5; rw [hashS_eq]; exact JhL 32 c4
 have c6 := Qk c5 1
 have c7 : byB (d7 b).b = true := JoG c6
 have c8 := Qk c7 8
 unfold g37 Je5 Xt
 refine (Ja hz).trans ((Ja (by rw [hb, hzz]; rfl)).trans ((Ja (by rw [c1, hzz]; rfl)).trans ((Ja (by rw [c2, hzz]; rfl)).trans ((Ja (by rw [c3, hzz]; rfl)).trans ?_))))
 refine (JzW 40 _ z z hzz _ _ _ _ _ _ _ _ _ _ _ _ _ _ _ _ _ 32 0 40 (d4 b) (List.replicate 32 0) (by omega) (by omega) c4 (by simp)).trans ?_
 have hr : Jev 32 (d4 b) = d5 b := by unfold d5; rw [hashS_eq]
 have hv : JaQ 32 (d4 b) = hashV (d4 b) := by rw [hashV_eq]
 have hm : RS.mk (d5 b).b (d5 b).e = d5 b := rfl
 have h7 : Qd (Jb 1 (d5 b)) = d7 b := rfl
 have h9 : Jb 8 (Jb 8 (d7 b)) = d9 b := rfl
 have hsz := Jgt c6
 have htk : List.take (JT (Jb 1 (d5 b))).size (dt b) = dt b := List.take_of_length_le (by unfold dt; rw [Yo]; exact Nat.le_refl _)
 have hto : Ji (JT (Jb 1 (d5 b))) = dt b := rfl
 have hbt : byB (dt b) = true := Jtp _
 have hlt : (dt b).length <= 65535 := by unfold dt; rw [Yo]; exact hsz
 have hsl : slB (Ent.vec false 5 false (dt b)).nil (dt b) = true := XA.2 ⟨fun h => by simp [Ent.nil] at h, by omega⟩
 have hz9 : decide (zi (d9 b).b.length > 0) = decide ((d9 b).b.length > 0) := by apply decide_eq_decide.2; simp only [zi]; omega
 have hdv : DV.mk (JA 8 ⟨b, 0⟩) (JA 8 (Jb 8 ⟨b, 0⟩)) (JA 8 (Jb 8 (Jb 8 ⟨b, 0⟩))) (JA 8 (Jb 8 (Jb 8 (Jb 8 ⟨b, 0⟩)))) (pu .u8 (hashV (d4 b))) (JA 1 (d5 b)) (opL (dt b)) (JA 8 (d7 b)) (JA 8 (Jb 8 (d7 b))) = dv b := rfl
 simp only [hr, hv, hm, h7, h9, List.take_zero, List.nil_append, List.drop_zero, htk, hto, hz9, hdv, hsl, hbt, hzz, c5, c6, c7, c8, Jpc hbt, Bool.true_and, Bool.and_true, cond_true]
 cases he : ((d9 b).e == 0) with
 | false =>
  rw [he, cond_false] at hE
  rw [Jil hE he]
  simp only [cond_false]
  exact Ja (by rw [bne, he]; rfl)
 | true =>
  rw [he, cond_true] at hE
  cases h9 : decide ((d9 b).b.length > 0) with
  | true =>
   rw [h9, cond_true] at hE
   rw [Jil hE (by decide)]
   rfl
  | false =>
   rw [h9, cond_false] at hE
   simp only [cond_true, cond_false]
   refine (Ja (by simp [Je]; omega)).trans ?_
   cases ho : (opE (dt b) == 0) with
   | false =>
    rw [ho, cond_false] at hE
    try simp only [cond_false]
    rw [Jil hE ho]
    exact Ja (by rw [bne, ho]; rfl)
   | true =>
    rw [ho, cond_true] at hE
    try simp only [cond_true]
    cases hd : (dCk (dv b) == 0) with
    | false =>
     rw [Jil hE hd]
     exact Ja (by rw [bne, hd]; rfl)
    | true =>
     have hd' : dCk (dv b) = 0 := by simpa using hd
     rw [hd'] at hE
     rw [JJb hE]
     exact Jd (by rw [bne, hd]; rfl)
def JmS : Jz
 | [.ro 5 z f b], [], k => bif slB z b && byB b then k ⟨dP b, [], []⟩ else none
 | _, _, _ => none
def JJd : Sig := { own := [], run := JmS }
theorem JJe : Jc tau Try.prog 37 JJd := Jc.mk' fun xs es k res hl hr => by
 change JmS xs es k = some res at hr
 unfold JmS at hr
 split at hr
 · rename_i z f b
   obtain ⟨hc, hr⟩ := Jv hr
   rw [Bool.and_eq_true] at hc
   have hg := (JDt z f b hc.1 hc.2 k).trans hr
   exact J3 Jn Jtk Jo JI5 JI6 (Jxi (Je4 40)) [.ro, .ro] 0 0 (JNO 40) hl rfl ((e37 40 z f b k).trans hg)
 · cases hr
theorem JDu (z f : Bool) (b : List PV) (hb : byB b = true) (hlen : b.length <= 1000000000) (k : KR) :
  g15 0 z f b k = k ⟨dQ b, [], []⟩ := by
 have hE : dE0 b = dE0 b := rfl
 conv at hE => rhs; unfold dE0
 have c0 : okT (RT.mk b 0 0) = true := by simp [okT, hb]; omega
 have hv0 : (RT.mk b 0 0).view = RS.mk b 0 := rfl
 have c1 := QD c0 8
 have c2 := QD c1 8
 have c3 := QD c2 8
 have c4 := QD c3 8
 have c5 := Jsn c4
 have c6 := QD c5 1
 have c7 := JjL c6
 have c8 := QD c7 8
 have c9 := QD c8 8
 have b1 := Qk (s := ⟨b, 0⟩) hb 8
 have b4 : byB (d4 b).b = true := Qk (Qk (Qk b1 8) 8) 8
 have b5 : byB (d5 b).b = true := by unfold d5; rw [hashS_eq]; exact JhL 32 b4
 have b6 := Qk b5 1
 have v4 : (Jh 8 (Jh 8 (Jh 8 (Jh 8 (RT.mk b 0 0))))).view = d4 b := by simp only [Qm, hv0, d4]
 have v5 : (hashT (Jh 8 (Jh 8 (Jh 8 (Jh 8 (RT.mk b 0 0)))))).view = d5 b := by rw [hashT_view, v4, d5]
 have v7 : (QX (Jh 1 (hashT (Jh 8 (Jh 8 (Jh 8 (Jh 8 (RT.mk b 0 0)))))))).view = d7 b := by rw [Jgo, Qm, v5, d7]
 have v9 : (Jh 8 (Jh 8 (QX (Jh 1 (hashT (Jh 8 (Jh 8 (Jh 8 (Jh 8 (RT.mk b 0 0)))))))))).view = d9 b := by rw [Qm, Qm, v7, d9]
 have n0 : Ql 8 (RT.mk b 0 0) = JA 8 ⟨b, 0⟩ := by rw [WG, hv0]
 have n1 : Ql 8 (Jh 8 (RT.mk b 0 0)) = JA 8 (Jb 8 ⟨b, 0⟩) := by simp only [WG, Qm, hv0]
 have n2 : Ql 8 (Jh 8 (Jh 8 (RT.mk b 0 0))) = JA 8 (Jb 8 (Jb 8 ⟨b, 0⟩)) := by simp only [WG, Qm, hv0]
 have n3 : Ql 8 (Jh 8 (Jh 8 (Jh 8 (RT.mk b 0 0)))) = JA 8 (Jb 8 (Jb 8 (Jb 8 ⟨b, 0⟩))) := by simp only [WG, Qm, hv0]
 have n4 : hashVT (Jh 8 (Jh 8 (Jh 8 (Jh 8 (RT.mk b 0 0))))) = hashV (d4 b) := by rw [hashVT_val, v4]
 have n5 : Ql 1 (hashT (Jh 8 (Jh 8 (Jh 8 (Jh 8 (RT.mk b 0 0)))))) = JA 1 (d5 b) := by rw [WG, v5]
 have n6 : XY (Jh 1 (hashT (Jh 8 (Jh 8 (Jh 8 (Jh 8 (RT.mk b 0 0))))))) = JT (Jb 1 (d5 b)) := by rw [Jgp, Qm, v5]
 have n7 : Ql 8 (QX (Jh 1 (hashT (Jh 8 (Jh 8 (Jh 8 (Jh 8 (RT.mk b 0 0)))))))) = JA 8 (d7 b) := by rw [WG, v7]
 have n8 : Ql 8 (Jh 8 (QX (Jh 1 (hashT (Jh 8 (Jh 8 (Jh 8 (Jh 8 (RT.mk b 0 0))))))))) = JA 8 (Jb 8 (d7 b)) := by rw [WG, Qm, v7]
 unfold g15 Jik Jij JmR JmQ Jii Jih Je7 Je6 WJ Jbk Jbj Jcr J4 WI
 refine (Ja c0).trans ((Ja c1).trans ((Ja c2).trans ((Ja c3).trans ((Ja c4).trans ((Ja c5).trans ((Ja c6).trans ((Ja c7).trans ((Ja c8).trans ?_))))))))
 simp only [n0, n1, n2, n3, n4, n5, n6, n7, n8]
 generalize Jh 8 (Jh 8 (QX (Jh 1 (hashT (Jh 8 (Jh 8 (Jh 8 (Jh 8 (RT.mk b 0 0))))))))) = t at *
 have hte : t.e = (d9 b).e := by rw [← v9]; rfl
 have htP : decide (t.P < zi t.B.length) = decide ((d9 b).b.length > 0) := by
  rw [← v9]
  show decide _ = decide ((List.drop _ _).length > 0)
  rw [List.length_drop]
  simp only [okT, Bool.and_eq_true, decide_eq_true_eq] at c9
  apply decide_eq_decide.2
  simp only [zi]; omega
 have hsz := Jgt b6
 have htk : List.take (JT (Jb 1 (d5 b))).size (dt b) = dt b := List.take_of_length_le (by unfold dt; rw [Yo]; exact Nat.le_refl _)
 have hto : Ji (JT (Jb 1 (d5 b))) = dt b := rfl
 have hbt : byB (dt b) = true := Jtp _
 have hlt : (dt b).length <= 65535 := by unfold dt; rw [Yo]; exact hsz
 have hble : (dt b).length.ble 1000000000 = true := by rw [Nat.ble_eq]; omega
 have hdv : DV.mk (JA 8 ⟨b, 0⟩) (JA 8 (Jb 8 ⟨b, 0⟩)) (JA 8 (Jb 8 (Jb 8 ⟨b, 0⟩))) (JA 8 (Jb 8 (Jb 8 (Jb 8 ⟨b, 0⟩)))) (pu .u8 (hashV (d4 b))) (JA 1 (d5 b)) (opL (dt b)) (JA 8 (d7 b)) (JA 8 (Jb 8 (d7 b))) = dv b := rfl
 simp only [hte, htP, List.drop_zero, htk, hto, hdv, hbt, hble, Jpc hbt, Bool.true_and, Bool.and_true, cond_true]
 cases he : ((d9 b).e == 0) with
 | false =>
  rw [he, cond_false] at hE
  rw [Jim hE he]
  simp only [cond_false]
  exact Ja (by rw [bne, he]; rfl)
 | true =>
  rw [he, cond_true] at hE
  cases h9 : decide ((d9 b).b.length > 0) with
  | true =>
   rw [h9, cond_true] at hE
   rw [Jim hE (by decide)]
   rfl
  | false =>
   rw [h9, cond_false] at hE
   simp only [cond_true, cond_false]
   refine (Ja (by simp [Je]; omega)).trans ?_
   cases ho : (opE (dt b) == 0) with
   | false =>
    rw [ho, cond_false] at hE
    try simp only [cond_false]
    rw [Jim hE ho]
    exact Ja (by rw [bne, ho]; rfl)
   | true =>
    have hoF : opF (dt b) = false := by rw [JmK, ← Je1, ho]; rfl
    rw [ho, cond_true] at hE
    try simp only [cond_true]
    cases hd : (dCk (dv b) == 0) with
    | false =>
     rw [Jim hE hd]
     exact Ja (by rw [bne, hd]; rfl)
    | true =>
     have hd' : dCk (dv b) = 0 := by simpa using hd
     rw [hd'] at hE
     rw [JJc hE, hoF]
     exact Jd (by rw [bne, hd]; rfl)
def JmT : Jz
 | [.ro 5 z f b], [], k => bif byB b && Nat.ble b.length 1000000000 then k ⟨dQ b, [], []⟩ else none
 | _, _, _ => none
def JJf : Sig := { own := [], run := JmT }
theorem JJg : Jc tau Try.prog 15 JJf := JNV.of fun xs es k res hr => by
 change JmT xs es k = some res at hr
 unfold JmT at hr
 split at hr
 · rename_i z f b
   obtain ⟨hc, hr⟩ := Jv hr
   rw [Bool.and_eq_true, Nat.ble_eq] at hc
   exact (JDu z f b hc.1 hc.2 k).trans hr
 · cases hr
def F95 : Fns := F0
theorem JDv : Jq tau Try.prog F95 := Js
def JDw : An := (.seq .leaf (.seq .leaf .leaf))
def g95 (f : Nat) (k : KR) : OR := k (Res.mk (.ar 159 [.sc (.int .u32 1116352408), .sc (.int .u32 1899447441), .sc (.int .u32 3049323471), .sc (.int .u32 3921009573), .sc (.int .u32 961987163), .sc (.int .u32 1508970993), .sc (.int .u32 2453635748), .sc (.int .u32 2870763221), .sc (.int .u32 3624381080), .sc (.int .u32 310598401), .sc (.int .u32 607225278), .sc (.int .u32 1426881987), .sc (.int .u32 1925078388), .sc (.int .u32 2162078206), .sc (.int .u32 2614888103), .sc (.int .u32 3248222580), .sc (.int .u32 3835390401), .sc (.int .u32 4022224774), .sc (.int .u32 264347078), .sc (.int .u32 604807628), .sc (.int .u32 770255983), .sc (.int .u32 1249150122), .sc (.int .u32 1555081692), .sc (.int .u32 1996064986), .sc (.int .u32 2554220882), .sc (.int .u32 2821834349), .sc (.int .u32 2952996808), .sc (.int .u32 3210313671), .sc (.int .u32 3336571891), .sc (.int .u32 3584528711), .sc (.int .u32 113926993), .sc (.int .u32 338241895), .sc (.int .u32 666307205), .sc (.int .u32 773529912), .sc (.int .u32 1294757372), .sc (.int .u32 1396182291), .sc (.int .u32 1695183700), .sc (.int .u32 1986661051), .sc (.int .u32 2177026350), .sc (.int .u32 2456956037), .sc (.int .u32 2730485921), .sc (.int .u32 2820302411), .sc (.int .u32 3259730800), .sc (.int .u32 3345764771), .sc (.int .u32 3516065817), .sc (.int .u32 3600352804), .sc (.int .u32 4094571909), .sc (.int .u32 275423344), .sc (.int .u32 430227734), .sc (.int .u32 506948616), .sc (.int .u32 659060556), .sc (.int .u32 883997877), .sc (.int .u32 958139571), .sc (.int .u32 1322822218), .sc (.int .u32 1537002063), .sc (.int .u32 1747873779), .sc (.int .u32 1955562222), .sc (.int .u32 2024104815), .sc (.int .u32 2227730452), .sc (.int .u32 2361852424), .sc (.int .u32 2428436474), .sc (.int .u32 2756734187), .sc (.int .u32 3204031479), .sc (.int .u32 3329325298)]) [] [])
theorem e95 (f : Nat) (k : KR) : JJ tau F95 Try.f95 (Try.f95.body.get!) JDw [.ro] 0 [] [] k = g95 f k := by kernel_rfl
theorem JNW (f : Nat) : ∀ q ∈ Jg (Try.f95.body.get!) JDw, q.Ok tau Try.prog 0 := Jw (by kernel_rfl)
theorem JJh : Try.prog.funcs[95]? = some Try.f95 := by kernel_rfl
theorem JJi : Try.f95.body = some (Try.f95.body.get!) := by kernel_rfl
theorem JNX : Enters Try.prog 95 := enters_of JJh (by kernel_rfl) JJi
def Jtr : Jz
 | [], [], k => g95 0  k
 | _, _, _ => none
def s95 : Sig := { own := [], run := Jtr }
theorem JNY : Jc tau Try.prog 95 s95 := JO Jn JDv Jo JJh JJi JDw [.ro] 0 [] Jtr (JNW 0) fun xs es k res hr => by
 unfold Jtr at hr
 split at hr
 · exact ⟨rfl, 0, (e95 0  _).trans hr⟩
 · cases hr
def N51 : Nat := 278
def F51 : Fns := Jt 95 s95 (Jt 96 JGH F0)
theorem Zp : Jq tau Try.prog F51 := (Js.add JGI JMM).add JNY JNX
def Jpd : Code := Qf (Try.f51.body.get!) [1, 1, 1, 1, 1, 0, 0, 0]
def Je8 : Nm := [(0, .any), (2, .any), (3, .any), (4, .any), (5, .any)]
def JmU : Nm := [(0, .any), (2, .any), (3, .any), (4, .any), (5, .any)]
def Jts : An := (.seq (.seq .leaf (.cond .leaf .leaf)) (.block none .leaf))
def JgD : Code := Qf (Try.f51.body.get!) [1, 1, 1, 1, 1, 1, 1, 0, 1, 0, 0]
def Zq : Nm := [(2, .any), (3, .any), (4, .any), (5, .any), (6, .any), (7, .any)]
def Vp : Nm := [(2, .any), (3, .any), (4, .any), (5, .any)]
def Jj3 : An := (.seq (.seq .leaf (.cond .leaf .leaf)) (.seq (.block none .leaf) .leaf))
def JgE : Code := Qf (Try.f51.body.get!) [1, 1, 1, 1, 1, 1, 1, 1, 1, 0, 1, 0, 0, 1, 0, 0, 0, 1, 0, 0]
def Zr : Nm := [(2, .any), (3, .any), (4, .any), (5, .any), (8, .any), (9, .any), (10, .any)]
def Vq : Nm := [(2, .any), (3, .any), (4, .any), (5, .any), (8, .any), (9, .any)]
def Jj4 : An := (.seq (.seq .leaf (.cond .leaf .leaf)) (.seq (.block none (.seq .leaf .leaf)) .leaf))
def JgF : Code := Qf (Try.f51.body.get!) [1, 1, 1, 1, 1, 1, 1, 1, 1, 0, 1, 0, 0, 1, 0, 0, 1, 0, 1, 0, 0]
def Zs : Nm := [(2, .any), (3, .any), (4, .any), (5, .any), (8, .any), (9, .any), (12, .any)]
def Vr : Nm := [(2, .any), (3, .any), (4, .any), (5, .any), (8, .any), (9, .any)]
def Jj5 : An := (.seq (.seq .leaf (.cond .leaf .leaf)) (.seq (.block none (.seq .leaf .leaf)) .leaf))
def JgG : Code := Qf (Try.f51.body.get!) [1, 1, 1, 1, 1, 1, 1, 1, 1, 0, 1, 0, 0, 1, 0, 0, 1, 1, 1, 0, 1, 0, 0]
def Zt : Nm := [(2, .any), (3, .any), (4, .any), (5, .any), (8, .any), (9, .any), (15, .any), (16, .any)]
def Vs : Nm := [(2, .any), (3, .any), (4, .any), (5, .any), (8, .any), (9, .any), (15, .any)]
def Jj6 : An := (.seq (.seq .leaf (.cond .leaf .leaf)) (.seq (.block none (.seq .leaf (.seq .leaf (.seq .leaf .leaf)))) .leaf))
def JgH : Code := Qf (Try.f51.body.get!) [1, 1, 1, 1, 1, 1, 1, 1, 1, 0, 1, 0, 0, 1, 0, 0, 1, 1, 1, 1, 1, 0, 0]
def Zu : Nm := [(2, .any), (3, .any), (4, .any), (5, .any), (8, .any), (9, .any), (15, .any), (20, .any)]
def Vt : Nm := [(2, .any), (3, .any), (4, .any), (5, .any), (8, .any), (9, .any)]
def Jj7 : An := (.seq (.seq .leaf (.cond .leaf .leaf)) (.seq (.block none .leaf) .leaf))
def JgI : Code := Qf (Try.f51.body.get!) [1, 1, 1, 1, 1, 1, 1, 1, 1, 0, 1, 0, 0]
def Zv : Nm := [(2, .any), (3, .any), (4, .any), (5, .any), (8, .any), (9, .any)]
def Vu : Nm := [(2, .any), (4, .any)]
def Jj8 (r3 : Qw) (r4 : Qw) (r5 : Qw) (r6 : Qw) : An := (.seq (.seq .leaf (.cond .leaf .leaf)) (.seq (.block none (.seq (.seq .leaf (.block none (.sum Zr N51 r3))) (.seq (.seq .leaf (.block none (.sum Zs N51 r4))) (.seq .leaf (.seq (.seq .leaf (.block none (.sum Zt N51 r5))) (.seq .leaf (.block none (.sum Zu N51 r6)))))))) .leaf))
def Jpe : Code := Qf (Try.f51.body.get!) [1, 1, 1, 1, 1, 1, 1, 1, 1, 1, 1, 0, 1, 0, 0]
def Je9 : Nm := [(2, .any), (4, .any), (21, .any), (22, .any)]
def JmV : Nm := [(2, .any), (21, .any)]
def Jtt : An := (.seq (.seq .leaf (.cond .leaf .leaf)) (.seq (.block none .leaf) .leaf))
def Jxk (r0 : Qw) (r1 : Qw) (r2 : Qw) (r7 : Qw) : An := (.seq .leaf (.seq .leaf (.seq .leaf (.seq .leaf (.seq .leaf (.seq (.block none (.sum Je8 N51 r0)) (.seq .leaf (.seq (.seq .leaf (.block none (.sum Zq N51 r1))) (.seq .leaf (.seq (.seq .leaf (.block none (.sum Zv N51 r2))) (.seq .leaf (.seq (.seq .leaf (.block none (.sum Je9 N51 r7))) (.seq .leaf .leaf)))))))))))))
abbrev Jtu := Bool -> Bool -> List PV -> Nat -> List PV -> List PV -> List PV -> List PV -> OR
def Jbl (f : Nat) (rc : Jtu) (k0 : Bool -> Bool -> List PV -> Nat -> List PV -> List PV -> List PV -> List PV -> OR) (v0 v1 : Bool) (v2 : List PV) (v3 : Nat) (v4 v5 v6 v7 : List PV) : OR := bif (zi v3).tmod 64 != 56 then bif Je (v3 + 1) 1 && true then rc v0 v1 v2 (v3 + 1) v4 v5 v6 (List.take v3 v7 ++ [.sc (.int .u8 0)]) else none else k0 v0 v1 v2 v3 v4 v5 v6 v7
def GN (f : Nat) (k0 : Bool -> Bool -> List PV -> Nat -> List PV -> List PV -> List PV -> List PV -> OR) : Nat -> Jtu
 | 0 => fun _ _ _ _ _ _ _ _ => none
 | n + 1 => Jbl f (GN f k0 n) k0
def Jbm (k : Kont) := fun x0 x1 x2 x3 x4 x5 x6 x7 => k (Ex.exit 0) (Jj JmU N51 [.ro 5 x0 x1 x2, .ptr 4464 [], .ptr 4465 [], .ptr 4466 [], .ow 5 4467 [] 0 x3 none] [(4464, .box false 37 (PV.ar 37 x4)), (4465, .box false 159 (PV.ar 159 x5)), (4466, .box false 142 (PV.ar 142 x6)), (4467, .vec false 5 false x7)])
def JmW (f : Nat) (k : Kont) (n : Nat) (v0 v1 : Bool) (v2 : List PV) (v3 : Nat) (v4 v5 v6 v7 : List PV) : OR := Jy tau 0 Je8 (fun s k => ev tau F51 0 0 Jpd (Jts ) s k) n (Jj Je8 N51 [.ro 5 v0 v1 v2, .ptr 4464 [], .ptr 4465 [], .ptr 4466 [], .ow 5 4467 [] 0 v3 none] [(4464, .box false 37 (PV.ar 37 v4)), (4465, .box false 159 (PV.ar 159 v5)), (4466, .box false 142 (PV.ar 142 v6)), (4467, .vec false 5 false v7)]) (JG tau 0 JmU k)
theorem Jxl (f : Nat) (k : Kont) (n : Nat) : JmW f k (n + 1) = Jbl f (JmW f k n) (Jbm k) := by kernel_rfl
theorem Jpf (f : Nat) (k : Kont) : ∀ n, JmW f k n = GN f (Jbm k) n
 | 0 => rfl
 | n + 1 => (Jxl f k n).trans (congrArg (fun r => Jbl f r (Jbm k)) (Jpf f k n))
def Jfa (f : Nat) : List PV -> List (Nat × Ent) -> Kont -> OR
 | [.ro 5 v0 v1 v2, .ptr 4464 [], .ptr 4465 [], .ptr 4466 [],
 PV.ow 5 4467 [] 0 v3
  none], [(4464, .box false 37 (PV.ar 37 v4)), (4465, .box false 159 (PV.ar 159 v5)), (4466, .box false 142 (PV.ar 142 v6)),
 (4467,
  Ent.vec false 5 false
   v7)], k => GN f (Jbm k) f v0 v1 v2 v3 v4 v5 v6 v7
 | _, _, _ => none
theorem JDx (f : Nat) : Jg Jpd Jts = [] := by kernel_rfl
theorem JJj (f : Nat) : (Item.l Jpd Je8 N51 (Jfa f)).Ok tau Try.prog 0 := Ju Jn Zp Jo (x := Jts) (nm2 := JmU) (Jk _ _ (by rw [JDx f]; intro q hq; cases hq)) fun vs hp k res hr => by
 unfold Jfa at hr
 split at hr
 · exact ⟨f, 0, (Jpf f _ f _ _ _ _ _ _ _ _ ).trans hr⟩
 · cases hr
def Jbn (f : Nat) (rc : Nat -> Int -> Int -> List PV -> List PV -> List PV -> List PV -> OR) (k0 : Nat -> List PV -> List PV -> List PV -> List PV -> OR) (v0 : Nat) (v1 v2 : Int) (v3 v4 v5 v6 : List PV) : OR := bif decide (v2 >= 0) then bif decide (0 <= IntKind.u64.wrap (8 * IntKind.u64.wrap v2)) && true then bif Je (v0 + 1) 1 && true then rc (v0 + 1) v1 (IntKind.i64.wrap (v2 - 1)) v3 v4 v5 (List.take v0 v6 ++ [.sc (.int .u8 (IntKind.u8.wrap (JV IntKind.u64 v1 (IntKind.u64.wrap (8 * IntKind.u64.wrap v2)))))]) else none else none else k0 v0 v3 v4 v5 v6
def GO (f : Nat) (k0 : Nat -> List PV -> List PV -> List PV -> List PV -> OR) : Nat -> Nat -> Int -> Int -> List PV -> List PV -> List PV -> List PV -> OR
 | 0, _, _, _, _, _, _, _ => none
 | n + 1, v0, v1, v2, v3, v4, v5, v6 => Jbn f (GO f k0 n) k0 v0 v1 v2 v3 v4 v5 v6
theorem Jxm (f : Nat) (k : Kont) (n v0 : Nat) (v1 v2 : Int) (v3 v4 v5 v6 : List PV) : Jy tau 0 Zq (fun s k => ev tau F51 0 0 JgD (Jj3 ) s k) (n + 1) (Jj Zq N51 [.ptr 4464 [], .ptr 4465 [], .ptr 4466 [], .ow 5 4467 [] 0 v0 none, .sc (.int .u64 v1), .sc (.int .i64 v2)] [(4464, .box false 37 (PV.ar 37 v3)), (4465, .box false 159 (PV.ar 159 v4)), (4466, .box false 142 (PV.ar 142 v5)), (4467, .vec false 5 false v6)]) (JG tau 0 Vp k) = Jbn f (fun v0 v1 v2 v3 v4 v5 v6 => Jy tau 0 Zq (fun s k => ev tau F51 0 0 JgD (Jj3 ) s k) n (Jj Zq N51 [.ptr 4464 [], .ptr 4465 [], .ptr 4466 [], .ow 5 4467 [] 0 v0 none, .sc (.int .u64 v1), .sc (.int .i64 v2)] [(4464, .box false 37 (PV.ar 37 v3)), (4465, .box false 159 (PV.ar 159 v4)), (4466, .box false 142 (PV.ar 142 v5)), (4467, .vec false 5 false v6)]) (JG tau 0 Vp k)) (fun x0 x1 x2 x3 x4 => k (Ex.exit 2) (Jj Vp N51 [.ptr 4464 [], .ptr 4465 [], .ptr 4466 [], .ow 5 4467 [] 0 x0 none] [(4464, .box false 37 (PV.ar 37 x1)), (4465, .box false 159 (PV.ar 159 x2)), (4466, .box false 142 (PV.ar 142 x3)), (4467, .vec false 5 false x4)])) v0 v1 v2 v3 v4 v5 v6 := by kernel_rfl
theorem Jpg (f : Nat) (k : Kont) : ∀ (n v0 : Nat) (v1 v2 : Int) (v3 v4 v5 v6 : List PV), Jy tau 0 Zq (fun s k => ev tau F51 0 0 JgD (Jj3 ) s k) n (Jj Zq N51 [.ptr 4464 [], .ptr 4465 [], .ptr 4466 [], .ow 5 4467 [] 0 v0 none, .sc (.int .u64 v1), .sc (.int .i64 v2)] [(4464, .box false 37 (PV.ar 37 v3)), (4465, .box false 159 (PV.ar 159 v4)), (4466, .box false 142 (PV.ar 142 v5)), (4467, .vec false 5 false v6)]) (JG tau 0 Vp k) = GO f (fun x0 x1 x2 x3 x4 => k (Ex.exit 2) (Jj Vp N51 [.ptr 4464 [], .ptr 4465 [], .ptr 4466 [], .ow 5 4467 [] 0 x0 none] [(4464, .box false 37 (PV.ar 37 x1)), (4465, .box false 159 (PV.ar 159 x2)), (4466, .box false 142 (PV.ar 142 x3)), (4467, .vec false 5 false x4)])) n v0 v1 v2 v3 v4 v5 v6 | 0, _, _, _, _, _, _, _ => rfl | n + 1, v0, v1, v2, v3, v4, v5, v6 => (Jxm f k n v0 v1 v2 v3 v4 v5 v6).trans (congrArg (fun r => Jbn f r (fun x0 x1 x2 x3 x4 => k (Ex.exit 2) (Jj Vp N51 [.ptr 4464 [], .ptr 4465 [], .ptr 4466 [], .ow 5 4467 [] 0 x0 none] [(4464, .box false 37 (PV.ar 37 x1)), (4465, .box false 159 (PV.ar 159 x2)), (4466, .box false 142 (PV.ar 142 x3)), (4467, .vec false 5 false x4)])) v0 v1 v2 v3 v4 v5 v6) (by funext v0 v1 v2 v3 v4 v5 v6; exact Jpg f k n v0 v1 v2 v3 v4 v5 v6))
def Jfb (f : Nat) : List PV -> List (Nat × Ent) -> Kont -> OR
 | [.ptr 4464 [], .ptr 4465 [], .ptr 4466 [], .ow 5 4467 [] 0 v0 none, .sc (.int .u64 v1),
 PV.sc
  (Value.int IntKind.i64
   v2)], [(4464, .box false 37 (PV.ar 37 v3)), (4465, .box false 159 (PV.ar 159 v4)), (4466, .box false 142 (PV.ar 142 v5)),
 (4467,
  Ent.vec false 5 false
   v6)], k => GO f (fun x0 x1 x2 x3 x4 => k (Ex.exit
 2) (Jj Vp N51 [.ptr 4464 [], .ptr 4465 [], .ptr 4466 [],
 PV.ow 5 4467 [] 0 x0
  none] [(4464, .box false 37 (PV.ar 37 x1)), (4465, .box false 159 (PV.ar 159 x2)), (4466, .box false 142 (PV.ar 142 x3)), (4467, .vec false 5 false x4)])) f v0 v1 v2 v3 v4 v5 v6
 | _, _, _ => none
theorem JDy (f : Nat) : Jg JgD Jj3 = [] := by kernel_rfl
theorem JJk (f : Nat) : (Item.l JgD Zq N51 (Jfb f)).Ok tau Try.prog 0 := Ju Jn Zp Jo (x := Jj3) (nm2 := Vp) (Jk _ _ (by rw [JDy f]; intro q hq; cases hq)) fun vs hp k res hr => by
 unfold Jfb at hr
 split at hr
 · exact ⟨f, 0, (Jpg f _ f _ _ _ _ _ _ _ ).trans hr⟩
 · cases hr
abbrev W8 (v1 : Int) (v2 : Int) := (IntKind.i64.wrap (v1 + IntKind.i64.wrap (4 * v2)) + 1)
abbrev W9 (v1 : Int) (v2 : Int) := (IntKind.i64.wrap (v1 + IntKind.i64.wrap (4 * v2)) + 2)
abbrev Xa (v1 : Int) (v2 : Int) := (IntKind.i64.wrap (v1 + IntKind.i64.wrap (4 * v2)) + 3)
def Jbo (f : Nat) (rc : Nat -> Int -> Int -> List PV -> List PV -> List PV -> List PV -> List PV -> OR) (k0 : Nat -> Int -> List PV -> List PV -> List PV -> List PV -> List PV -> OR) (v0 : Nat) (v1 v2 : Int) (v3 v4 v5 v6 v7 : List PV) : OR := bif decide (v2 < 16) then bif decide (0 <= IntKind.i64.wrap (v1 + IntKind.i64.wrap (4 * v2))) && decide (IntKind.i64.wrap (v1 + IntKind.i64.wrap (4 * v2)) < zi v0) && true then bif PV.isInt IntKind.u8 (Jr (v6.getD (0 + (IntKind.i64.wrap (v1 + IntKind.i64.wrap (4 * v2))).toNat) PV.top) []) && true then bif decide (0 <= IntKind.i64.wrap (W8 v1 v2)) && decide (IntKind.i64.wrap (W8 v1 v2) < zi v0) && true then bif PV.isInt IntKind.u8 (Jr (v6.getD (0 + (IntKind.i64.wrap (W8 v1 v2)).toNat) PV.top) []) && true then bif decide (0 <= IntKind.i64.wrap (W9 v1 v2)) && decide (IntKind.i64.wrap (W9 v1 v2) < zi v0) && true then bif PV.isInt IntKind.u8 (Jr (v6.getD (0 + (IntKind.i64.wrap (W9 v1 v2)).toNat) PV.top) []) && true then bif decide (0 <= IntKind.i64.wrap (Xa v1 v2)) && decide (IntKind.i64.wrap (Xa v1 v2) < zi v0) && true then bif PV.isInt IntKind.u8 (Jr (v6.getD (0 + (IntKind.i64.wrap (Xa v1 v2)).toNat) PV.top) []) && true then bif decide (0 <= v2) && decide (v2 < zi 64) && true then rc v0 v1 (IntKind.i64.wrap (v2 + 1)) v3 v4 v5 v6 (v7.set v2.toNat (.sc (.int .u32 (JM BinOp.or IntKind.u32 (JM BinOp.or IntKind.u32 (JM BinOp.or IntKind.u32 (Xv IntKind.u32 (IntKind.u32.wrap (Jr (v6.getD (0 + (IntKind.i64.wrap (v1 + IntKind.i64.wrap (4 * v2))).toNat) PV.top) []).int) 24) (Xv IntKind.u32 (IntKind.u32.wrap (Jr (v6.getD (0 + (IntKind.i64.wrap (W8 v1 v2)).toNat) PV.top) []).int) 16)) (Xv IntKind.u32 (IntKind.u32.wrap (Jr (v6.getD (0 + (IntKind.i64.wrap (W9 v1 v2)).toNat) PV.top) []).int) 8)) (IntKind.u32.wrap (Jr (v6.getD (0 + (IntKind.i64.wrap (Xa v1 v2)).toNat) PV.top) []).int))))) else none else none else none else none else none else none else none else none else none else k0 v0 v1 v3 v4 v5 v6 v7
def GP (f : Nat) (k0 : Nat -> Int -> List PV -> List PV -> List PV -> List PV -> List PV -> OR) : Nat -> Nat -> Int -> Int -> List PV -> List PV -> List PV -> List PV -> List PV -> OR
 | 0, _, _, _, _, _, _, _, _ => none
 | n + 1, v0, v1, v2, v3, v4, v5, v6, v7 => Jbo f (GP f k0 n) k0 v0 v1 v2 v3 v4 v5 v6 v7
theorem Jxn (f : Nat) (k : Kont) (n v0 : Nat) (v1 v2 : Int) (v3 v4 v5 v6 v7 : List PV) : Jy tau 0 Zr (fun s k => ev tau F51 0 0 JgE (Jj4 ) s k) (n + 1) (Jj Zr N51 [.ptr 4464 [], .ptr 4465 [], .ptr 4466 [], .ow 5 4467 [] 0 v0 none, .ptr 4468 [], .sc (.int .i64 v1), .sc (.int .i64 v2)] [(4464, .box false 37 (PV.ar 37 v3)), (4465, .box false 159 (PV.ar 159 v4)), (4466, .box false 142 (PV.ar 142 v5)), (4467, .vec false 5 false v6), (4468, .box false 159 (PV.ar 159 v7))]) (JG tau 0 Vq k) = Jbo f (fun v0 v1 v2 v3 v4 v5 v6 v7 => Jy tau 0 Zr (fun s k => ev tau F51 0 0 JgE (Jj4 ) s k) n (Jj Zr N51 [.ptr 4464 [], .ptr 4465 [], .ptr 4466 [], .ow 5 4467 [] 0 v0 none, .ptr 4468 [], .sc (.int .i64 v1), .sc (.int .i64 v2)] [(4464, .box false 37 (PV.ar 37 v3)), (4465, .box false 159 (PV.ar 159 v4)), (4466, .box false 142 (PV.ar 142 v5)), (4467, .vec false 5 false v6), (4468, .box false 159 (PV.ar 159 v7))]) (JG tau 0 Vq k)) (fun x0 x1 x2 x3 x4 x5 x6 => k (Ex.exit 6) (Jj Vq N51 [.ptr 4464 [], .ptr 4465 [], .ptr 4466 [], .ow 5 4467 [] 0 x0 none, .ptr 4468 [], .sc (.int .i64 x1)] [(4464, .box false 37 (PV.ar 37 x2)), (4465, .box false 159 (PV.ar 159 x3)), (4466, .box false 142 (PV.ar 142 x4)), (4467, .vec false 5 false x5), (4468, .box false 159 (PV.ar 159 x6))])) v0 v1 v2 v3 v4 v5 v6 v7 := by kernel_rfl
theorem Jph (f : Nat) (k : Kont) : ∀ (n v0 : Nat) (v1 v2 : Int) (v3 v4 v5 v6 v7 : List PV), Jy tau 0 Zr (fun s k => ev tau F51 0 0 JgE (Jj4 ) s k) n (Jj Zr N51 [.ptr 4464 [], .ptr 4465 [], .ptr 4466 [], .ow 5 4467 [] 0 v0 none, .ptr 4468 [], .sc (.int .i64 v1), .sc (.int .i64 v2)] [(4464, .box false 37 (PV.ar 37 v3)), (4465, .box false 159 (PV.ar 159 v4)), (4466, .box false 142 (PV.ar 142 v5)), (4467, .vec false 5 false v6), (4468, .box false 159 (PV.ar 159 v7))]) (JG tau 0 Vq k) = GP f (fun x0 x1 x2 x3 x4 x5 x6 => k (Ex.exit 6) (Jj Vq N51 [.ptr 4464 [], .ptr 4465 [], .ptr 4466 [], .ow 5 4467 [] 0 x0 none, .ptr 4468 [], .sc (.int .i64 x1)] [(4464, .box false 37 (PV.ar 37 x2)), (4465, .box false 159 (PV.ar 159 x3)), (4466, .box false 142 (PV.ar 142 x4)), (4467, .vec false 5 false x5), (4468, .box false 159 (PV.ar 159 x6))])) n v0 v1 v2 v3 v4 v5 v6 v7 | 0, _, _, _, _, _, _, _, _ => rfl | n + 1, v0, v1, v2, v3, v4, v5, v6, v7 => (Jxn f k n v0 v1 v2 v3 v4 v5 v6 v7).trans (congrArg (fun r => Jbo f r (fun x0 x1 x2 x3 x4 x5 x6 => k (Ex.exit 6) (Jj Vq N51 [.ptr 4464 [], .ptr 4465 [], .ptr 4466 [], .ow 5 4467 [] 0 x0 none, .ptr 4468 [], .sc (.int .i64 x1)] [(4464, .box false 37 (PV.ar 37 x2)), (4465, .box false 159 (PV.ar 159 x3)), (4466, .box false 142 (PV.ar 142 x4)), (4467, .vec false 5 false x5), (4468, .box false 159 (PV.ar 159 x6))])) v0 v1 v2 v3 v4 v5 v6 v7) (by funext v0 v1 v2 v3 v4 v5 v6 v7; exact Jph f k n v0 v1 v2 v3 v4 v5 v6 v7))
def Jc8 (f : Nat) : List PV -> List (Nat × Ent) -> Kont -> OR
 | [.ptr 4464 [], .ptr 4465 [], .ptr 4466 [], .ow 5 4467 [] 0 v0 none, .ptr 4468 [], .sc (.int .i64 v1),
 PV.sc
  (Value.int IntKind.i64
   v2)], [(4464, .box false 37 (PV.ar 37 v3)), (4465, .box false 159 (PV.ar 159 v4)), (4466, .box false 142 (PV.ar 142 v5)), (4467, .vec false 5 false v6),
 (4468,
  Ent.box false 159
   (PV.ar 159
    v7))], k => GP f (fun x0 x1 x2 x3 x4 x5 x6 => k (Ex.exit
 6) (Jj Vq N51 [.ptr 4464 [], .ptr 4465 [], .ptr 4466 [], .ow 5 4467 [] 0 x0 none, .ptr 4468 [],
 PV.sc
  (Value.int IntKind.i64
   x1)] [(4464, .box false 37 (PV.ar 37 x2)), (4465, .box false 159 (PV.ar 159 x3)), (4466, .box false 142 (PV.ar 142 x4)), (4467, .vec false 5 false x5),
 (4468, .box false 159 (PV.ar 159 x6))])) f v0 v1 v2 v3 v4 v5 v6 v7
 | _, _, _ => none
theorem JDz (f : Nat) : Jg JgE Jj4 = [] := by kernel_rfl
theorem JJl (f : Nat) : (Item.l JgE Zr N51 (Jc8 f)).Ok tau Try.prog 0 := Ju Jn Zp Jo (x := Jj4) (nm2 := Vq) (Jk _ _ (by rw [JDz f]; intro q hq; cases hq)) fun vs hp k res hr => by
 unfold Jc8 at hr
 split at hr
 · exact ⟨f, 0, (Jph f _ f _ _ _ _ _ _ _ _ ).trans hr⟩
 · cases hr
abbrev Xb (v2 : Int) (v7 : List PV) := (Jr (PV.ar 159 v7) [(IntKind.i64.wrap (v2 - 15)).toNat])
abbrev Xc (v2 : Int) (v7 : List PV) := (Jr (PV.ar 159 v7) [(IntKind.i64.wrap (v2 - 2)).toNat])
def Jbp (f : Nat) (rc : Nat -> Int -> Int -> List PV -> List PV -> List PV -> List PV -> List PV -> OR) (k0 : Nat -> Int -> List PV -> List PV -> List PV -> List PV -> List PV -> OR) (v0 : Nat) (v1 v2 : Int) (v3 v4 v5 v6 v7 : List PV) : OR := bif decide (v2 < 64) then bif decide (0 <= IntKind.i64.wrap (v2 - 15)) && decide (IntKind.i64.wrap (v2 - 15) < zi 64) && true then bif PV.isInt IntKind.u32 (Xb v2 v7) && true then bif decide (0 <= IntKind.i64.wrap (v2 - 2)) && decide (IntKind.i64.wrap (v2 - 2) < zi 64) && true then bif PV.isInt IntKind.u32 (Xc v2 v7) && true then bif decide (0 <= IntKind.i64.wrap (v2 - 7)) && decide (IntKind.i64.wrap (v2 - 7) < zi 64) && true then bif PV.isInt IntKind.u32 (Jr (PV.ar 159 v7) [(IntKind.i64.wrap (v2 - 7)).toNat]) && true then bif decide (0 <= IntKind.i64.wrap (v2 - 16)) && decide (IntKind.i64.wrap (v2 - 16) < zi 64) && true then bif PV.isInt IntKind.u32 (Jr (PV.ar 159 v7) [(IntKind.i64.wrap (v2 - 16)).toNat]) && true then bif decide (0 <= v2) && decide (v2 < zi 64) && true then rc v0 v1 (IntKind.i64.wrap (v2 + 1)) v3 v4 v5 v6 (v7.set v2.toNat (.sc (.int .u32 (IntKind.u32.wrap (IntKind.u32.wrap (IntKind.u32.wrap (JM BinOp.xor IntKind.u32 (JM BinOp.xor IntKind.u32 (rr (Xc v2 v7).int 17) (rr (Xc v2 v7).int 19)) (JV IntKind.u32 (Xc v2 v7).int 10) + (Jr (PV.ar 159 v7) [(IntKind.i64.wrap (v2 - 7)).toNat]).int) + JM BinOp.xor IntKind.u32 (JM BinOp.xor IntKind.u32 (rr (Xb v2 v7).int 7) (rr (Xb v2 v7).int 18)) (JV IntKind.u32 (Xb v2 v7).int 3)) + (Jr (PV.ar 159 v7) [(IntKind.i64.wrap (v2 - 16)).toNat]).int))))) else none else none else none else none else none else none else none else none else none else k0 v0 v1 v3 v4 v5 v6 v7
def GQ (f : Nat) (k0 : Nat -> Int -> List PV -> List PV -> List PV -> List PV -> List PV -> OR) : Nat -> Nat -> Int -> Int -> List PV -> List PV -> List PV -> List PV -> List PV -> OR
 | 0, _, _, _, _, _, _, _, _ => none
 | n + 1, v0, v1, v2, v3, v4, v5, v6, v7 => Jbp f (GQ f k0 n) k0 v0 v1 v2 v3 v4 v5 v6 v7
theorem Jxo (f : Nat) (k : Kont) (n v0 : Nat) (v1 v2 : Int) (v3 v4 v5 v6 v7 : List PV) : Jy tau 0 Zs (fun s k => ev tau F51 0 0 JgF (Jj5 ) s k) (n + 1) (Jj Zs N51 [.ptr 4464 [], .ptr 4465 [], .ptr 4466 [], .ow 5 4467 [] 0 v0 none, .ptr 4468 [], .sc (.int .i64 v1), .sc (.int .i64 v2)] [(4464, .box false 37 (PV.ar 37 v3)), (4465, .box false 159 (PV.ar 159 v4)), (4466, .box false 142 (PV.ar 142 v5)), (4467, .vec false 5 false v6), (4468, .box false 159 (PV.ar 159 v7))]) (JG tau 0 Vr k) = Jbp f (fun v0 v1 v2 v3 v4 v5 v6 v7 => Jy tau 0 Zs (fun s k => ev tau F51 0 0 JgF (Jj5 ) s k) n (Jj Zs N51 [.ptr 4464 [], .ptr 4465 [], .ptr 4466 [], .ow 5 4467 [] 0 v0 none, .ptr 4468 [], .sc (.int .i64 v1), .sc (.int .i64 v2)] [(4464, .box false 37 (PV.ar 37 v3)), (4465, .box false 159 (PV.ar 159 v4)), (4466, .box false 142 (PV.ar 142 v5)), (4467, .vec false 5 false v6), (4468, .box false 159 (PV.ar 159 v7))]) (JG tau 0 Vr k)) (fun x0 x1 x2 x3 x4 x5 x6 => k (Ex.exit 8) (Jj Vr N51 [.ptr 4464 [], .ptr 4465 [], .ptr 4466 [], .ow 5 4467 [] 0 x0 none, .ptr 4468 [], .sc (.int .i64 x1)] [(4464, .box false 37 (PV.ar 37 x2)), (4465, .box false 159 (PV.ar 159 x3)), (4466, .box false 142 (PV.ar 142 x4)), (4467, .vec false 5 false x5), (4468, .box false 159 (PV.ar 159 x6))])) v0 v1 v2 v3 v4 v5 v6 v7 := by kernel_rfl
theorem Jpi (f : Nat) (k : Kont) : ∀ (n v0 : Nat) (v1 v2 : Int) (v3 v4 v5 v6 v7 : List PV), Jy tau 0 Zs (fun s k => ev tau F51 0 0 JgF (Jj5 ) s k) n (Jj Zs N51 [.ptr 4464 [], .ptr 4465 [], .ptr 4466 [], .ow 5 4467 [] 0 v0 none, .ptr 4468 [], .sc (.int .i64 v1), .sc (.int .i64 v2)] [(4464, .box false 37 (PV.ar 37 v3)), (4465, .box false 159 (PV.ar 159 v4)), (4466, .box false 142 (PV.ar 142 v5)), (4467, .vec false 5 false v6), (4468, .box false 159 (PV.ar 159 v7))]) (JG tau 0 Vr k) = GQ f (fun x0 x1 x2 x3 x4 x5 x6 => k (Ex.exit 8) (Jj Vr N51 [.ptr 4464 [], .ptr 4465 [], .ptr 4466 [], .ow 5 4467 [] 0 x0 none, .ptr 4468 [], .sc (.int .i64 x1)] [(4464, .box false 37 (PV.ar 37 x2)), (4465, .box false 159 (PV.ar 159 x3)), (4466, .box false 142 (PV.ar 142 x4)), (4467, .vec false 5 false x5), (4468, .box false 159 (PV.ar 159 x6))])) n v0 v1 v2 v3 v4 v5 v6 v7 | 0, _, _, _, _, _, _, _, _ => rfl | n + 1, v0, v1, v2, v3, v4, v5, v6, v7 => (Jxo f k n v0 v1 v2 v3 v4 v5 v6 v7).trans (congrArg (fun r => Jbp f r (fun x0 x1 x2 x3 x4 x5 x6 => k (Ex.exit 8) (Jj Vr N51 [.ptr 4464 [], .ptr 4465 [], .ptr 4466 [], .ow 5 4467 [] 0 x0 none, .ptr 4468 [], .sc (.int .i64 x1)] [(4464, .box false 37 (PV.ar 37 x2)), (4465, .box false 159 (PV.ar 159 x3)), (4466, .box false 142 (PV.ar 142 x4)), (4467, .vec false 5 false x5), (4468, .box false 159 (PV.ar 159 x6))])) v0 v1 v2 v3 v4 v5 v6 v7) (by funext v0 v1 v2 v3 v4 v5 v6 v7; exact Jpi f k n v0 v1 v2 v3 v4 v5 v6 v7))
def Jc9 (f : Nat) : List PV -> List (Nat × Ent) -> Kont -> OR
 | [.ptr 4464 [], .ptr 4465 [], .ptr 4466 [], .ow 5 4467 [] 0 v0 none, .ptr 4468 [], .sc (.int .i64 v1),
 PV.sc
  (Value.int IntKind.i64
   v2)], [(4464, .box false 37 (PV.ar 37 v3)), (4465, .box false 159 (PV.ar 159 v4)), (4466, .box false 142 (PV.ar 142 v5)), (4467, .vec false 5 false v6),
 (4468,
  Ent.box false 159
   (PV.ar 159
    v7))], k => GQ f (fun x0 x1 x2 x3 x4 x5 x6 => k (Ex.exit
 8) (Jj Vr N51 [.ptr 4464 [], .ptr 4465 [], .ptr 4466 [], .ow 5 4467 [] 0 x0 none, .ptr 4468 [],
 PV.sc
  (Value.int IntKind.i64
   x1)] [(4464, .box false 37 (PV.ar 37 x2)), (4465, .box false 159 (PV.ar 159 x3)), (4466, .box false 142 (PV.ar 142 x4)), (4467, .vec false 5 false x5),
 (4468, .box false 159 (PV.ar 159 x6))])) f v0 v1 v2 v3 v4 v5 v6 v7
 | _, _, _ => none
theorem JDA (f : Nat) : Jg JgF Jj5 = [] := by kernel_rfl
theorem JJm (f : Nat) : (Item.l JgF Zs N51 (Jc9 f)).Ok tau Try.prog 0 := Ju Jn Zp Jo (x := Jj5) (nm2 := Vr) (Jk _ _ (by rw [JDA f]; intro q hq; cases hq)) fun vs hp k res hr => by
 unfold Jc9 at hr
 split at hr
 · exact ⟨f, 0, (Jpi f _ f _ _ _ _ _ _ _ _ ).trans hr⟩
 · cases hr
abbrev Zw (v2 : Int) (v4 : List PV) (v7 : List PV) (v8 : List PV) := (IntKind.u32.wrap (IntKind.u32.wrap (IntKind.u32.wrap ((Jr (PV.ar 142 v8) [7]).int + JM BinOp.xor IntKind.u32 (JM BinOp.xor IntKind.u32 (rr (Jr (PV.ar 142 v8) [4]).int 6) (rr (Jr (PV.ar 142 v8) [4]).int 11)) (rr (Jr (PV.ar 142 v8) [4]).int 25)) + JM BinOp.xor IntKind.u32 (JM BinOp.and IntKind.u32 (Jr (PV.ar 142 v8) [4]).int (Jr (PV.ar 142 v8) [5]).int) (JM BinOp.and IntKind.u32 (JM BinOp.xor IntKind.u32 (Int.ofNat (2 ^ IntKind.u32.bits - Nat.succ 0)) (Jr (PV.ar 142 v8) [4]).int) (Jr (PV.ar 142 v8) [6]).int)) + (Jr (PV.ar 159 v4) [v2.toNat]).int) + (Jr (PV.ar 159 v7) [v2.toNat]).int)
def Jbq (f : Nat) (rc : Nat -> Int -> Int -> List PV -> List PV -> List PV -> List PV -> List PV -> List PV -> OR) (k0 : Nat -> Int -> List PV -> List PV -> List PV -> List PV -> List PV -> List PV -> OR) (v0 : Nat) (v1 v2 : Int) (v3 v4 v5 v6 v7 v8 : List PV) : OR := bif decide (v2 < 64) then bif PV.isInt IntKind.u32 (Jr (PV.ar 142 v8) [4]) && true then bif PV.isInt IntKind.u32 (Jr (PV.ar 142 v8) [7]) && true then bif PV.isInt IntKind.u32 (Jr (PV.ar 142 v8) [5]) && true then bif PV.isInt IntKind.u32 (Jr (PV.ar 142 v8) [6]) && true then bif decide (0 <= v2) && decide (v2 < zi 64) && true then bif PV.isInt IntKind.u32 (Jr (PV.ar 159 v4) [v2.toNat]) && true then bif decide (0 <= v2) && decide (v2 < zi 64) && true then bif PV.isInt IntKind.u32 (Jr (PV.ar 159 v7) [v2.toNat]) && true then bif PV.isInt IntKind.u32 (Jr (PV.ar 142 v8) [0]) && true then bif PV.isInt IntKind.u32 (Jr (PV.ar 142 v8) [0]) && true then bif PV.isInt IntKind.u32 (Jr (PV.ar 142 v8) [0]) && true then bif PV.isInt IntKind.u32 (Jr (PV.ar 142 v8) [0]) && true then bif PV.isInt IntKind.u32 (Jr (PV.ar 142 v8) [1]) && true then bif PV.isInt IntKind.u32 (Jr (PV.ar 142 v8) [0]) && true then bif PV.isInt IntKind.u32 (Jr (PV.ar 142 v8) [2]) && true then bif PV.isInt IntKind.u32 (Jr (PV.ar 142 v8) [1]) && true then bif PV.isInt IntKind.u32 (Jr (PV.ar 142 v8) [2]) && true then bif PV.isInt IntKind.u32 (Jr (PV.ar 142 v8) [0]) && true then bif PV.isInt IntKind.u32 (Jr (PV.ar 142 v8) [1]) && true then bif PV.isInt IntKind.u32 (Jr (PV.ar 142 v8) [2]) && true then bif PV.isInt IntKind.u32 (Jr (PV.ar 142 v8) [3]) && true then bif PV.isInt IntKind.u32 (Jr (PV.ar 142 v8) [4]) && true then bif PV.isInt IntKind.u32 (Jr (PV.ar 142 v8) [5]) && true then bif PV.isInt IntKind.u32 (Jr (PV.ar 142 v8) [6]) && true then rc v0 v1 (IntKind.i64.wrap (v2 + 1)) v3 v4 v5 v6 v7 ([.sc (.int .u32 (IntKind.u32.wrap (IntKind.u32.wrap (Zw v2 v4 v7 v8) + IntKind.u32.wrap (JM BinOp.xor IntKind.u32 (JM BinOp.xor IntKind.u32 (rr (Jr (PV.ar 142 v8) [0]).int 2) (rr (Jr (PV.ar 142 v8) [0]).int 13)) (rr (Jr (PV.ar 142 v8) [0]).int 22) + JM BinOp.xor IntKind.u32 (JM BinOp.xor IntKind.u32 (JM BinOp.and IntKind.u32 (Jr (PV.ar 142 v8) [0]).int (Jr (PV.ar 142 v8) [1]).int) (JM BinOp.and IntKind.u32 (Jr (PV.ar 142 v8) [0]).int (Jr (PV.ar 142 v8) [2]).int)) (JM BinOp.and IntKind.u32 (Jr (PV.ar 142 v8) [1]).int (Jr (PV.ar 142 v8) [2]).int))))), .sc (.int .u32 (Jr (PV.ar 142 v8) [0]).int), .sc (.int .u32 (Jr (PV.ar 142 v8) [1]).int), .sc (.int .u32 (Jr (PV.ar 142 v8) [2]).int), .sc (.int .u32 (IntKind.u32.wrap ((Jr (PV.ar 142 v8) [3]).int + IntKind.u32.wrap (Zw v2 v4 v7 v8)))), .sc (.int .u32 (Jr (PV.ar 142 v8) [4]).int), .sc (.int .u32 (Jr (PV.ar 142 v8) [5]).int), .sc (.int .u32 (Jr (PV.ar 142 v8) [6]).int)]) else none else none else none else none else none else none else none else none else none else none else none else none else none else none else none else none else none else none else none else none else none else none else none else none else k0 v0 v1 v3 v4 v5 v6 v7 v8
def GR (f : Nat) (k0 : Nat -> Int -> List
 PV -> List PV -> List PV -> List PV -> List PV -> List PV -> OR) : Nat -> Nat -> Int -> Int -> List PV -> List PV -> List PV -> List PV -> List PV -> List PV -> OR
 | 0, _, _, _, _, _, _, _, _, _ => none
 | n + 1, v0, v1, v2, v3, v4, v5, v6, v7, v8 => Jbq f (GR f k0 n) k0 v0 v1 v2 v3 v4 v5 v6 v7 v8
theorem Jxp (f : Nat) (k : Kont) (n v0 : Nat) (v1 v2 : Int) (v3 v4 v5 v6 v7 v8 : List PV) : Jy tau 0 Zt (fun s k => ev tau F51 0 0 JgG (Jj6 ) s k) (n + 1) (Jj Zt N51 [.ptr 4464 [], .ptr 4465 [], .ptr 4466 [], .ow 5 4467 [] 0 v0 none, .ptr 4468 [], .sc (.int .i64 v1), .ptr 4469 [], .sc (.int .i64 v2)] [(4464, .box false 37 (PV.ar 37 v3)), (4465, .box false 159 (PV.ar 159 v4)), (4466, .box false 142 (PV.ar 142 v5)), (4467, .vec false 5 false v6), (4468, .box false 159 (PV.ar 159 v7)), (4469, .box false 142 (PV.ar 142 v8))]) (JG tau 0 Vs k) = Jbq f (fun v0 v1 v2 v3 v4 v5 v6 v7 v8 => Jy tau 0 Zt (fun s k => ev tau F51 0 0 JgG (Jj6 ) s k) n (Jj Zt N51 [.ptr 4464 [], .ptr 4465 [], .ptr 4466 [], .ow 5 4467 [] 0 v0 none, .ptr 4468 [], .sc (.int .i64 v1), .ptr 4469 [], .sc (.int .i64 v2)] [(4464, .box false 37 (PV.ar 37 v3)), (4465, .box false 159 (PV.ar 159 v4)), (4466, .box false 142 (PV.ar 142 v5)), (4467, .vec false 5 false v6), (4468, .box false 159 (PV.ar 159 v7)), (4469, .box false 142 (PV.ar 142 v8))]) (JG tau 0 Vs k)) (fun x0 x1 x2 x3 x4 x5 x6 x7 => k (Ex.exit 10) (Jj Vs N51 [.ptr 4464 [], .ptr 4465 [], .ptr 4466 [], .ow 5 4467 [] 0 x0 none, .ptr 4468 [], .sc (.int .i64 x1), .ptr 4469 []] [(4464, .box false 37 (PV.ar 37 x2)), (4465, .box false 159 (PV.ar 159 x3)), (4466, .box false 142 (PV.ar 142 x4)), (4467, .vec false 5 false x5), (4468, .box false 159 (PV.ar 159 x6)), (4469, .box false 142 (PV.ar 142 x7))])) v0 v1 v2 v3 v4 v5 v6 v7 v8 := by kernel_rfl
theorem Jpj (f : Nat) (k : Kont) : ∀ (n v0 : Nat) (v1 v2 : Int) (v3 v4 v5 v6 v7 v8 : List PV), Jy tau 0 Zt (fun s k => ev tau F51 0 0 JgG (Jj6 ) s k) n (Jj Zt N51 [.ptr 4464 [], .ptr 4465 [], .ptr 4466 [], .ow 5 4467 [] 0 v0 none, .ptr 4468 [], .sc (.int .i64 v1), .ptr 4469 [], .sc (.int .i64 v2)] [(4464, .box false 37 (PV.ar 37 v3)), (4465, .box false 159 (PV.ar 159 v4)), (4466, .box false 142 (PV.ar 142 v5)), (4467, .vec false 5 false v6), (4468, .box false 159 (PV.ar 159 v7)), (4469, .box false 142 (PV.ar 142 v8))]) (JG tau 0 Vs k) = GR f (fun x0 x1 x2 x3 x4 x5 x6 x7 => k (Ex.exit 10) (Jj Vs N51 [.ptr 4464 [], .ptr 4465 [], .ptr 4466 [], .ow 5 4467 [] 0 x0 none, .ptr 4468 [], .sc (.int .i64 x1), .ptr 4469 []] [(4464, .box false 37 (PV.ar 37 x2)), (4465, .box false 159 (PV.ar 159 x3)), (4466, .box false 142 (PV.ar 142 x4)), (4467, .vec false 5 false x5), (4468, .box false 159 (PV.ar 159 x6)), (4469, .box false 142 (PV.ar 142 x7))])) n v0 v1 v2 v3 v4 v5 v6 v7 v8 | 0, _, _, _, _, _, _, _, _, _ => rfl | n + 1, v0, v1, v2, v3, v4, v5, v6, v7, v8 => (Jxp f k n v0 v1 v2 v3 v4 v5 v6 v7 v8).trans (congrArg (fun r => Jbq f r (fun x0 x1 x2 x3 x4 x5 x6 x7 => k (Ex.exit 10) (Jj Vs N51 [.ptr 4464 [], .ptr 4465 [], .ptr 4466 [], .ow 5 4467 [] 0 x0 none, .ptr 4468 [], .sc (.int .i64 x1), .ptr 4469 []] [(4464, .box false 37 (PV.ar 37 x2)), (4465, .box false 159 (PV.ar 159 x3)), (4466, .box false 142 (PV.ar 142 x4)), (4467, .vec false 5 false x5), (4468, .box false 159 (PV.ar 159 x6)), (4469, .box false 142 (PV.ar 142 x7))])) v0 v1 v2 v3 v4 v5 v6 v7 v8) (by funext v0 v1 v2 v3 v4 v5 v6 v7 v8; exact Jpj f k n v0 v1 v2 v3 v4 v5 v6 v7 v8))
def Jda (f : Nat) : List PV -> List (Nat × Ent) -> Kont -> OR
 | [.ptr 4464 [], .ptr 4465 [], .ptr 4466 [], .ow 5 4467 [] 0 v0 none, .ptr 4468 [], .sc (.int .i64 v1), .ptr 4469 [],
 PV.sc
  (Value.int IntKind.i64
   v2)], [(4464, .box false 37 (PV.ar 37 v3)), (4465, .box false 159 (PV.ar 159 v4)), (4466, .box false 142 (PV.ar 142 v5)), (4467, .vec false 5 false v6),
 (4468, .box false 159 (PV.ar 159 v7)),
 (4469,
  Ent.box false 142
   (PV.ar 142
    v8))], k => GR f (fun x0 x1 x2 x3 x4 x5 x6 x7 => k (Ex.exit
 10) (Jj Vs N51 [.ptr 4464 [], .ptr 4465 [], .ptr 4466 [], .ow 5 4467 [] 0 x0 none, .ptr 4468 [], .sc (.int .i64 x1),
 PV.ptr 4469
  []] [(4464, .box false 37 (PV.ar 37 x2)), (4465, .box false 159 (PV.ar 159 x3)), (4466, .box false 142 (PV.ar 142 x4)), (4467, .vec false 5 false x5),
 (4468, .box false 159 (PV.ar 159 x6)), (4469, .box false 142 (PV.ar 142 x7))])) f v0 v1 v2 v3 v4 v5 v6 v7 v8
 | _, _, _ => none
theorem JDB (f : Nat) : Jg JgG Jj6 = [] := by kernel_rfl
theorem JJn (f : Nat) : (Item.l JgG Zt N51 (Jda f)).Ok tau Try.prog 0 := Ju Jn Zp Jo (x := Jj6) (nm2 := Vs) (Jk _ _ (by rw [JDB f]; intro q hq; cases hq)) fun vs hp k res hr => by
 unfold Jda at hr
 split at hr
 · exact ⟨f, 0, (Jpj f _ f _ _ _ _ _ _ _ _ _ ).trans hr⟩
 · cases hr
def Jbr (f : Nat) (rc : Nat -> Int -> Int -> List PV -> List PV -> List PV -> List PV -> List PV -> List PV -> OR) (k0 : Nat -> Int -> List PV -> List PV -> List PV -> List PV -> List PV -> OR) (v0 : Nat) (v1 v2 : Int) (v3 v4 v5 v6 v7 v8 : List PV) : OR := bif decide (v2 < 8) then bif decide (0 <= v2) && decide (v2 < zi 8) && true then bif PV.isInt IntKind.u32 (Jr (PV.ar 142 v5) [v2.toNat]) && true then bif decide (0 <= v2) && decide (v2 < zi 8) && true then bif PV.isInt IntKind.u32 (Jr (PV.ar 142 v8) [v2.toNat]) && true then bif decide (0 <= v2) && decide (v2 < zi 8) && true then rc v0 v1 (IntKind.i64.wrap (v2 + 1)) v3 v4 (v5.set v2.toNat (.sc (.int .u32 (IntKind.u32.wrap ((Jr (PV.ar 142 v5) [v2.toNat]).int + (Jr (PV.ar 142 v8) [v2.toNat]).int))))) v6 v7 v8 else none else none else none else none else none else k0 v0 v1 v3 v4 v5 v6 v7
def GS (f : Nat) (k0 : Nat -> Int -> List PV -> List PV -> List PV -> List PV -> List PV -> OR) : Nat -> Nat -> Int -> Int -> List PV -> List PV -> List PV -> List PV -> List PV -> List PV -> OR
 | 0, _, _, _, _, _, _, _, _, _ => none
 | n + 1, v0, v1, v2, v3, v4, v5, v6, v7, v8 => Jbr f (GS f k0 n) k0 v0 v1 v2 v3 v4 v5 v6 v7 v8
theorem Jxq (f : Nat) (k : Kont) (n v0 : Nat) (v1 v2 : Int) (v3 v4 v5 v6 v7 v8 : List PV) : Jy tau 0 Zu (fun s k => ev tau F51 0 0 JgH (Jj7 ) s k) (n + 1) (Jj Zu N51 [.ptr 4464 [], .ptr 4465 [], .ptr 4466 [], .ow 5 4467 [] 0 v0 none, .ptr 4468 [], .sc (.int .i64 v1), .ptr 4469 [], .sc (.int .i64 v2)] [(4464, .box false 37 (PV.ar 37 v3)), (4465, .box false 159 (PV.ar 159 v4)), (4466, .box false 142 (PV.ar 142 v5)), (4467, .vec false 5 false v6), (4468, .box false 159 (PV.ar 159 v7)), (4469, .box false 142 (PV.ar 142 v8))]) (JG tau 0 Vt k) = Jbr f (fun v0 v1 v2 v3 v4 v5 v6 v7 v8 => Jy tau 0 Zu (fun s k => ev tau F51 0 0 JgH (Jj7 ) s k) n (Jj Zu N51 [.ptr 4464 [], .ptr 4465 [], .ptr 4466 [], .ow 5 4467 [] 0 v0 none, .ptr 4468 [], .sc (.int .i64 v1), .ptr 4469 [], .sc (.int .i64 v2)] [(4464, .box false 37 (PV.ar 37 v3)), (4465, .box false 159 (PV.ar 159 v4)), (4466, .box false 142 (PV.ar 142 v5)), (4467, .vec false 5 false v6), (4468, .box false 159 (PV.ar 159 v7)), (4469, .box false 142 (PV.ar 142 v8))]) (JG tau 0 Vt k)) (fun x0 x1 x2 x3 x4 x5 x6 => k (Ex.exit 12) (Jj Vt N51 [.ptr 4464 [], .ptr 4465 [], .ptr 4466 [], .ow 5 4467 [] 0 x0 none, .ptr 4468 [], .sc (.int .i64 x1)] [(4464, .box false 37 (PV.ar 37 x2)), (4465, .box false 159 (PV.ar 159 x3)), (4466, .box false 142 (PV.ar 142 x4)), (4467, .vec false 5 false x5), (4468, .box false 159 (PV.ar 159 x6))])) v0 v1 v2 v3 v4 v5 v6 v7 v8 := by kernel_rfl
theorem Jpk (f : Nat) (k : Kont) : ∀ (n v0 : Nat) (v1 v2 : Int) (v3 v4 v5 v6 v7 v8 : List PV), Jy tau 0 Zu (fun s k => ev tau F51 0 0 JgH (Jj7 ) s k) n (Jj Zu N51 [.ptr 4464 [], .ptr 4465 [], .ptr 4466 [], .ow 5 4467 [] 0 v0 none, .ptr 4468 [], .sc (.int .i64 v1), .ptr 4469 [], .sc (.int .i64 v2)] [(4464, .box false 37 (PV.ar 37 v3)), (4465, .box false 159 (PV.ar 159 v4)), (4466, .box false 142 (PV.ar 142 v5)), (4467, .vec false 5 false v6), (4468, .box false 159 (PV.ar 159 v7)), (4469, .box false 142 (PV.ar 142 v8))]) (JG tau 0 Vt k) = GS f (fun x0 x1 x2 x3 x4 x5 x6 => k (Ex.exit 12) (Jj Vt N51 [.ptr 4464 [], .ptr 4465 [], .ptr 4466 [], .ow 5 4467 [] 0 x0 none, .ptr 4468 [], .sc (.int .i64 x1)] [(4464, .box false 37 (PV.ar 37 x2)), (4465, .box false 159 (PV.ar 159 x3)), (4466, .box false 142 (PV.ar 142 x4)), (4467, .vec false 5 false x5), (4468, .box false 159 (PV.ar 159 x6))])) n v0 v1 v2 v3 v4 v5 v6 v7 v8 | 0, _, _, _, _, _, _, _, _, _ => rfl | n + 1, v0, v1, v2, v3, v4, v5, v6, v7, v8 => (Jxq f k n v0 v1 v2 v3 v4 v5 v6 v7 v8).trans (congrArg (fun r => Jbr f r (fun x0 x1 x2 x3 x4 x5 x6 => k (Ex.exit 12) (Jj Vt N51 [.ptr 4464 [], .ptr 4465 [], .ptr 4466 [], .ow 5 4467 [] 0 x0 none, .ptr 4468 [], .sc (.int .i64 x1)] [(4464, .box false 37 (PV.ar 37 x2)), (4465, .box false 159 (PV.ar 159 x3)), (4466, .box false 142 (PV.ar 142 x4)), (4467, .vec false 5 false x5), (4468, .box false 159 (PV.ar 159 x6))])) v0 v1 v2 v3 v4 v5 v6 v7 v8) (by funext v0 v1 v2 v3 v4 v5 v6 v7 v8; exact Jpk f k n v0 v1 v2 v3 v4 v5 v6 v7 v8))
def Jdb (f : Nat) : List PV -> List (Nat × Ent) -> Kont -> OR
 | [.ptr 4464 [], .ptr 4465 [], .ptr 4466 [], .ow 5 4467 [] 0 v0 none, .ptr 4468 [], .sc (.int .i64 v1), .ptr 4469 [],
 PV.sc
  (Value.int IntKind.i64
   v2)], [(4464, .box false 37 (PV.ar 37 v3)), (4465, .box false 159 (PV.ar 159 v4)), (4466, .box false 142 (PV.ar 142 v5)), (4467, .vec false 5 false v6),
 (4468, .box false 159 (PV.ar 159 v7)),
 (4469,
  Ent.box false 142
   (PV.ar 142
    v8))], k => GS f (fun x0 x1 x2 x3 x4 x5 x6 => k (Ex.exit
 12) (Jj Vt N51 [.ptr 4464 [], .ptr 4465 [], .ptr 4466 [], .ow 5 4467 [] 0 x0 none, .ptr 4468 [],
 PV.sc
  (Value.int IntKind.i64
   x1)] [(4464, .box false 37 (PV.ar 37 x2)), (4465, .box false 159 (PV.ar 159 x3)), (4466, .box false 142 (PV.ar 142 x4)), (4467, .vec false 5 false x5),
 (4468, .box false 159 (PV.ar 159 x6))])) f v0 v1 v2 v3 v4 v5 v6 v7 v8
 | _, _, _ => none
theorem JDC (f : Nat) : Jg JgH Jj7 = [] := by kernel_rfl
theorem JJo (f : Nat) : (Item.l JgH Zu N51 (Jdb f)).Ok tau Try.prog 0 := Ju Jn Zp Jo (x := Jj7) (nm2 := Vt) (Jk _ _ (by rw [JDC f]; intro q hq; cases hq)) fun vs hp k res hr => by
 unfold Jdb at hr
 split at hr
 · exact ⟨f, 0, (Jpk f _ f _ _ _ _ _ _ _ _ _ ).trans hr⟩
 · cases hr
def Jbs (f : Nat) (rc : Nat -> Int -> List PV -> List PV -> List PV -> List PV -> List PV -> OR) (k0 : List PV -> List PV -> OR) (v0 : Nat) (v1 : Int) (v2 v3 v4 v5 v6 : List PV) : OR := bif decide (v1 < zi v0) then GP f (fun x0_2 x1_2 x2_2 x3_2 x4_2 x5_2 x6_2 => GQ f (fun x0_3 x1_3 x2_3 x3_3 x4_3 x5_3 x6_3 => GR f (fun x0_4 x1_4 x2_4 x3_4 x4_4 x5_4 x6_4 x7_4 => GS f (fun x0_5 x1_5 x2_5 x3_5 x4_5 x5_5 x6_5 => rc x0_5 (IntKind.i64.wrap (x1_5 + 64)) x2_5 x3_5 x4_5 x5_5 x6_5) f x0_4 x1_4 (0) x2_4 x3_4 x4_4 x5_4 x6_4 x7_4) f x0_3 x1_3 (0) x2_3 x3_3 x4_3 x5_3 x6_3 x4_3) f x0_2 x1_2 (16) x2_2 x3_2 x4_2 x5_2 x6_2) f v0 v1 (0) v2 v3 v4 v5 v6 else k0 v2 v4
def GT (f : Nat) (k0 : List PV -> List PV -> OR) : Nat -> Nat -> Int -> List PV -> List PV -> List PV -> List PV -> List PV -> OR
 | 0, _, _, _, _, _, _, _ => none
 | n + 1, v0, v1, v2, v3, v4, v5, v6 => Jbs f (GT f k0 n) k0 v0 v1 v2 v3 v4 v5 v6
theorem Jxr (f : Nat) (k : Kont) (n v0 : Nat) (v1 : Int) (v2 v3 v4 v5 v6 : List PV) : Jy tau 0 Zv (fun s k => ev tau F51 0 0 JgI (Jj8 (Jc8 f) (Jc9 f) (Jda f) (Jdb f)) s k) (n + 1) (Jj Zv N51 [.ptr 4464 [], .ptr 4465 [], .ptr 4466 [], .ow 5 4467 [] 0 v0 none, .ptr 4468 [], .sc (.int .i64 v1)] [(4464, .box false 37 (PV.ar 37 v2)), (4465, .box false 159 (PV.ar 159 v3)), (4466, .box false 142 (PV.ar 142 v4)), (4467, .vec false 5 false v5), (4468, .box false 159 (PV.ar 159 v6))]) (JG tau 0 Vu k) = Jbs f (fun v0 v1 v2 v3 v4 v5 v6 => Jy tau 0 Zv (fun s k => ev tau F51 0 0 JgI (Jj8 (Jc8 f) (Jc9 f) (Jda f) (Jdb f)) s k) n (Jj Zv N51 [.ptr 4464 [], .ptr 4465 [], .ptr 4466 [], .ow 5 4467 [] 0 v0 none, .ptr 4468 [], .sc (.int .i64 v1)] [(4464, .box false 37 (PV.ar 37 v2)), (4465, .box false 159 (PV.ar 159 v3)), (4466, .box false 142 (PV.ar 142 v4)), (4467, .vec false 5 false v5), (4468, .box false 159 (PV.ar 159 v6))]) (JG tau 0 Vu k)) (fun x0 x1 => k (Ex.exit 4) (Jj Vu N51 [.ptr 4464 [], .ptr 4465 []] [(4464, .box false 37 (PV.ar 37 x0)), (4465, .box false 142 (PV.ar 142 x1))])) v0 v1 v2 v3 v4 v5 v6 := by kernel_rfl
theorem Jpl (f : Nat) (k : Kont) : ∀ (n v0 : Nat) (v1 : Int) (v2 v3 v4 v5 v6 : List PV), Jy tau 0 Zv (fun s k => ev tau F51 0 0 JgI (Jj8 (Jc8 f) (Jc9 f) (Jda f) (Jdb f)) s k) n (Jj Zv N51 [.ptr 4464 [], .ptr 4465 [], .ptr 4466 [], .ow 5 4467 [] 0 v0 none, .ptr 4468 [], .sc (.int .i64 v1)] [(4464, .box false 37 (PV.ar 37 v2)), (4465, .box false 159 (PV.ar 159 v3)), (4466, .box false 142 (PV.ar 142 v4)), (4467, .vec false 5 false v5), (4468, .box false 159 (PV.ar 159 v6))]) (JG tau 0 Vu k) = GT f (fun x0 x1 => k (Ex.exit 4) (Jj Vu N51 [.ptr 4464 [], .ptr 4465 []] [(4464, .box false 37 (PV.ar 37 x0)), (4465, .box false 142 (PV.ar 142 x1))])) n v0 v1 v2 v3 v4 v5 v6 | 0, _, _, _, _, _, _, _ => rfl | n + 1, v0, v1, v2, v3, v4, v5, v6 => (Jxr f k n v0 v1 v2 v3 v4 v5 v6).trans (congrArg (fun r => Jbs f r (fun x0 x1 => k (Ex.exit 4) (Jj Vu N51 [.ptr 4464 [], .ptr 4465 []] [(4464, .box false 37 (PV.ar 37 x0)), (4465, .box false 142 (PV.ar 142 x1))])) v0 v1 v2 v3 v4 v5 v6) (by funext v0 v1 v2 v3 v4 v5 v6; exact Jpl f k n v0 v1 v2 v3 v4 v5 v6))
def Jfc (f : Nat) : List PV -> List (Nat × Ent) -> Kont -> OR
 | [.ptr 4464 [], .ptr 4465 [], .ptr 4466 [], .ow 5 4467 [] 0 v0 none, .ptr 4468 [],
 PV.sc
  (Value.int IntKind.i64
   v1)], [(4464, .box false 37 (PV.ar 37 v2)), (4465, .box false 159 (PV.ar 159 v3)), (4466, .box false 142 (PV.ar 142 v4)), (4467, .vec false 5 false v5),
 (4468,
  Ent.box false 159
   (PV.ar 159
    v6))], k => GT f (fun x0 x1 => k (Ex.exit
 4) (Jj Vu N51 [.ptr 4464 [], .ptr 4465 []] [(4464, .box false 37 (PV.ar 37 x0)), (4465, .box false 142 (PV.ar 142 x1))])) f v0 v1 v2 v3 v4 v5 v6
 | _, _, _ => none
theorem JDD (f : Nat) : Jg JgI (Jj8 (Jc8 f) (Jc9 f) (Jda f) (Jdb f)) = [.l JgE Zr N51 (Jc8 f), .l JgF Zs N51 (Jc9 f), .l JgG Zt N51 (Jda f), .l JgH Zu N51 (Jdb f)] := by kernel_rfl
theorem JJp (f : Nat) : (Item.l JgI Zv N51 (Jfc f)).Ok tau Try.prog 0 := Ju Jn Zp Jo (x := (Jj8 (Jc8 f) (Jc9 f) (Jda f) (Jdb f))) (nm2 := Vu) (Jk _ _ (by rw [JDD f]; simp only [List.forall_mem_cons, List.not_mem_nil, false_implies, implies_true, and_true]; exact ⟨JJl f, JJm f, JJn f, JJo f⟩)) fun vs hp k res hr => by
 unfold Jfc at hr
 split at hr
 · exact ⟨f, 0, (Jpl f _ f _ _ _ _ _ _ _ ).trans hr⟩
 · cases hr
abbrev Jtv := Int -> List PV -> List PV -> List PV -> OR
def Jbt (f : Nat) (rc : Jtv) (k0 : List PV -> List PV -> OR) (v0 : Int) (v1 v2 v3 : List PV) : OR := bif decide (v0 < 8) then bif decide (0 <= v0) && decide (v0 < zi 8) && true then bif PV.isInt IntKind.u32 (Jr (PV.ar 142 v2) [v0.toNat]) && true then bif decide (0 <= v0) && decide (v0 < zi 8) && true then bif PV.isInt IntKind.u32 (Jr (PV.ar 142 v2) [v0.toNat]) && true then bif decide (0 <= v0) && decide (v0 < zi 8) && true then bif PV.isInt IntKind.u32 (Jr (PV.ar 142 v2) [v0.toNat]) && true then bif decide (0 <= v0) && decide (v0 < zi 8) && true then bif PV.isInt IntKind.u32 (Jr (PV.ar 142 v2) [v0.toNat]) && true then bif decide (0 <= IntKind.i64.wrap (4 * v0)) && decide (IntKind.i64.wrap (4 * v0) < zi 32) && true then bif decide (0 <= IntKind.i64.wrap (IntKind.i64.wrap (4 * v0) + 1)) && decide (IntKind.i64.wrap (IntKind.i64.wrap (4 * v0) + 1) < zi 32) && true then bif decide (0 <= IntKind.i64.wrap (IntKind.i64.wrap (4 * v0) + 2)) && decide (IntKind.i64.wrap (IntKind.i64.wrap (4 * v0) + 2) < zi 32) && true then bif decide (0 <= IntKind.i64.wrap (IntKind.i64.wrap (4 * v0) + 3)) && decide (IntKind.i64.wrap (IntKind.i64.wrap (4 * v0) + 3) < zi 32) && true then rc (IntKind.i64.wrap (v0 + 1)) v1 v2 ((((v3.set (IntKind.i64.wrap (4 * v0)).toNat (.sc (.int .u8 (IntKind.u8.wrap (JV IntKind.u32 (Jr (PV.ar 142 v2) [v0.toNat]).int 24))))).set (IntKind.i64.wrap (IntKind.i64.wrap (4 * v0) + 1)).toNat (.sc (.int .u8 (IntKind.u8.wrap (JV IntKind.u32 (Jr (PV.ar 142 v2) [v0.toNat]).int 16))))).set (IntKind.i64.wrap (IntKind.i64.wrap (4 * v0) + 2)).toNat (.sc (.int .u8 (IntKind.u8.wrap (JV IntKind.u32 (Jr (PV.ar 142 v2) [v0.toNat]).int 8))))).set (IntKind.i64.wrap (IntKind.i64.wrap (4 * v0) + 3)).toNat (.sc (.int .u8 (IntKind.u8.wrap (Jr (PV.ar 142 v2) [v0.toNat]).int)))) else none else none else none else none else none else none else none else none else none else none else none else none else k0 v1 v3
def GU (f : Nat) (k0 : List PV -> List PV -> OR) : Nat -> Jtv
 | 0 => fun _ _ _ _ => none
 | n + 1 => Jbt f (GU f k0 n) k0
def Jbu (k : Kont) := fun x0 x1 => k (Ex.exit 14) (Jj JmV N51 [.ptr 4464 [], .ptr 4465 []] [(4464, .box false 37 (PV.ar 37 x0)), (4465, .box false 37 (PV.ar 37 x1))])
def JmX (f : Nat) (k : Kont) (n : Nat) (v0 : Int) (v1 v2 v3 : List PV) : OR := Jy tau 0 Je9 (fun s k => ev tau F51 0 0 Jpe (Jtt ) s k) n (Jj Je9 N51 [.ptr 4464 [], .ptr 4465 [], .ptr 4466 [], .sc (.int .i64 v0)] [(4464, .box false 37 (PV.ar 37 v1)), (4465, .box false 142 (PV.ar 142 v2)), (4466, .box false 37 (PV.ar 37 v3))]) (JG tau 0 JmV k)
theorem Jxs (f : Nat) (k : Kont) (n : Nat) : JmX f k (n + 1) = Jbt f (JmX f k n) (Jbu k) := by kernel_rfl
theorem Jpm (f : Nat) (k : Kont) : ∀ n, JmX f k n = GU f (Jbu k) n
 | 0 => rfl
 | n + 1 => (Jxs f k n).trans (congrArg (fun r => Jbt f r (Jbu k)) (Jpm f k n))
def Jfd (f : Nat) : List PV -> List (Nat × Ent) -> Kont -> OR
 | [.ptr 4464 [], .ptr 4465 [], .ptr 4466 [],
 PV.sc
  (Value.int IntKind.i64
   v0)], [(4464, .box false 37 (PV.ar 37 v1)), (4465, .box false 142 (PV.ar 142 v2)),
 (4466,
  Ent.box false 37
   (PV.ar 37
    v3))], k => GU f (Jbu k) f v0 v1 v2 v3
 | _, _, _ => none
theorem JDE (f : Nat) : Jg Jpe Jtt = [] := by kernel_rfl
theorem JJq (f : Nat) : (Item.l Jpe Je9 N51 (Jfd f)).Ok tau Try.prog 0 := Ju Jn Zp Jo (x := Jtt) (nm2 := JmV) (Jk _ _ (by rw [JDE f]; intro q hq; cases hq)) fun vs hp k res hr => by
 unfold Jfd at hr
 split at hr
 · exact ⟨f, 0, (Jpm f _ f _ _ _ _ ).trans hr⟩
 · cases hr
abbrev Jtw := (Jch)
def g51 (f : Nat) (nl fl : Bool) (b : List PV) (k : KR) : OR := bif Je (0 + b.length) 1 && true then bif Je (0 + b.length + 1) 1 && true then GN f (fun _ _ x2_0 x3_0 x4_0 Q6 x6_0 x7_0 => GO f (fun x0_1 x1_1 x2_1 x3_1 x4_1 => GT f (fun x0_6 x1_6 => GU f (fun _ x1_7 => k (Res.mk (.ar 37 x1_7) [] [])) f (0) x0_6 x1_6 Jtw) f x0_1 (0) x1_1 x2_1 x3_1 x4_1 (Jol)) f x3_0 (IntKind.u64.wrap (IntKind.u64.wrap (zi x2_0.length) * 8)) (7) x4_0 Q6 x6_0 x7_0) f nl fl b (0 + b.length + 1) Jtw ([.sc (.int .u32 1116352408), .sc (.int .u32 1899447441), .sc (.int .u32 3049323471), .sc (.int .u32 3921009573), .sc (.int .u32 961987163), .sc (.int .u32 1508970993), .sc (.int .u32 2453635748), .sc (.int .u32 2870763221), .sc (.int .u32 3624381080), .sc (.int .u32 310598401), .sc (.int .u32 607225278), .sc (.int .u32 1426881987), .sc (.int .u32 1925078388), .sc (.int .u32 2162078206), .sc (.int .u32 2614888103), .sc (.int .u32 3248222580), .sc (.int .u32 3835390401), .sc (.int .u32 4022224774), .sc (.int .u32 264347078), .sc (.int .u32 604807628), .sc (.int .u32 770255983), .sc (.int .u32 1249150122), .sc (.int .u32 1555081692), .sc (.int .u32 1996064986), .sc (.int .u32 2554220882), .sc (.int .u32 2821834349), .sc (.int .u32 2952996808), .sc (.int .u32 3210313671), .sc (.int .u32 3336571891), .sc (.int .u32 3584528711), .sc (.int .u32 113926993), .sc (.int .u32 338241895), .sc (.int .u32 666307205), .sc (.int .u32 773529912), .sc (.int .u32 1294757372), .sc (.int .u32 1396182291), .sc (.int .u32 1695183700), .sc (.int .u32 1986661051), .sc (.int .u32 2177026350), .sc (.int .u32 2456956037), .sc (.int .u32 2730485921), .sc (.int .u32 2820302411), .sc (.int .u32 3259730800), .sc (.int .u32 3345764771), .sc (.int .u32 3516065817), .sc (.int .u32 3600352804), .sc (.int .u32 4094571909), .sc (.int .u32 275423344), .sc (.int .u32 430227734), .sc (.int .u32 506948616), .sc (.int .u32 659060556), .sc (.int .u32 883997877), .sc (.int .u32 958139571), .sc (.int .u32 1322822218), .sc (.int .u32 1537002063), .sc (.int .u32 1747873779), .sc (.int .u32 1955562222), .sc (.int .u32 2024104815), .sc (.int .u32 2227730452), .sc (.int .u32 2361852424), .sc (.int .u32 2428436474), .sc (.int .u32 2756734187), .sc (.int .u32 3204031479), .sc (.int .u32 3329325298)]) ([.sc (.int .u32 1779033703), .sc (.int .u32 3144134277), .sc (.int .u32 1013904242), .sc (.int .u32 2773480762), .sc (.int .u32 1359893119), .sc (.int .u32 2600822924), .sc (.int .u32 528734635), .sc (.int .u32 1541459225)]) (List.take (0 + b.length) ([] ++ b) ++ [.sc (.int .u8 128)]) else none else none
theorem e51 (f : Nat) (nl fl : Bool) (b : List PV) (k : KR) : JJ tau F51 Try.f51 (Try.f51.body.get!) (Jxk (Jfa f) (Jfb f) (Jfc f) (Jfd f)) [] 0 [.ro 5 nl fl b] [] k = g51 f nl fl b k := by kernel_rfl
theorem JNZ (f : Nat) : Jg (Try.f51.body.get!) (Jxk (Jfa f) (Jfb f) (Jfc f) (Jfd f)) = [.l Jpd Je8 N51 (Jfa f), .l JgD Zq N51 (Jfb f), .l JgI Zv N51 (Jfc f), .l Jpe Je9 N51 (Jfd f)] := by kernel_rfl
theorem JN0 (f : Nat) : ∀ q ∈ Jg (Try.f51.body.get!) (Jxk (Jfa f) (Jfb f) (Jfc f) (Jfd f)), q.Ok tau Try.prog 0 := by rw [JNZ f]; exact JL (JJj f) (JL (JJk f) (JL (JJp f) (JL (JJq f) (fun _ h => nomatch h))))
theorem JJr : Try.prog.funcs[51]? = some Try.f51 := by kernel_rfl
theorem JJs : Try.f51.body = some (Try.f51.body.get!) := by kernel_rfl
theorem JDF : Enters Try.prog 51 := enters_of JJr (by kernel_rfl) JJs
theorem Jtx (v : PV) : Jr v [] = v := rfl
theorem X5 {R : List Int} (h : R.length = 8) (j : Nat) (hj : j < 8) : (pu .u32 R).getD j .top = .sc (.int .u32 (R.getD j 0)) := Z1 (by omega)
theorem JzX (f : Nat) (a b : Bool) (c x y w : List PV) (k0 : Bool -> Bool -> List PV -> Nat -> List PV -> List PV -> List PV -> List PV -> OR) : ∀ (d n : Nat) (L : List Int), zs L.length = d -> d < n -> L.length + d <= 140737488355200 ->
  GN f k0 n a b c L.length x y w (pu .u8 L) = k0 a b c (L.length + d) x y w (pu .u8 (L ++ List.replicate d 0))
 | 0, n + 1, L, hd, hn, hL => by
   simp only [GN, Jbl, Jeu]
   refine (Jd (by simp [zs] at hd ⊢; omega)).trans ?_
   simp
 | d + 1, n + 1, L, hd, hn, hL => by
   have hlt : d + 1 < 64 := by rw [← hd]; unfold zs; omega
   have c3 : Je (L.length + 1) 1 = true := by simp [Je]; omega
   simp only [GN, Jbl, Jeu, c3, Bool.and_true, cond_true, Yh]
   refine (Ja (by simp [zs] at hd ⊢; omega)).trans ?_
   rw [List.take_of_length_le (Nat.le_refl _)]
   have := JzX f a b c x y w k0 d n (L ++ [0]) (by simp [zs] at hd ⊢; omega) (by omega) (by simp; omega)
   simp only [List.length_append, List.length_cons, List.length_nil, Nat.zero_add, Qa] at this
   refine this.trans ?_
   rw [show L.length + 1 + d = L.length + (d + 1) from by omega, List.replicate_succ]
   simp
def Jxt (N : Int) (i : Nat) : Int := IntKind.u8.wrap (JV .u64 N (56 - 8 * (i : Int)))
theorem JzY (f : Nat) (N : Int) (x y w : List PV) (k0 : Nat -> List PV -> List PV -> List PV -> List PV -> OR) (L : List Int) (hL : L.length <= 140737488355300) : ∀ (d i n : Nat), i + d = 8 -> d < n ->
  GO f k0 n (L.length + i) N (7 - (i : Int)) x y w (pu .u8 (L ++ (List.range i).map (Jxt N))) = k0 (L.length + 8) x y w (pu .u8 (L ++ (List.range 8).map (Jxt N)))
 | 0, i, n + 1, h, hn => by
   obtain rfl : i = 8 := by omega
   simp only [GO, Jbn]
   exact Jd (by decide)
 | d + 1, i, n + 1, h, hn => by
   have h1 : IntKind.i64.wrap (7 - (i : Int) - 1) = 7 - ((i + 1 : Nat) : Int) := by rw [wrap_i64 (by omega) (by omega)]; omega
   have h8 : IntKind.u64.wrap (7 - (i : Int)) = 7 - (i : Int) := by rw [QV]; omega
   have h9 : IntKind.u64.wrap (8 * (7 - (i : Int))) = 56 - 8 * (i : Int) := by rw [QV]; omega
   have c1 : decide (7 - (i : Int) >= 0) = true := by simp; omega
   have c2 : decide (0 <= 56 - 8 * (i : Int)) = true := by simp; omega
   have c3 : Je (L.length + i + 1) 1 = true := by simp [Je]; omega
   have hlen : (L ++ (List.range i).map (Jxt N)).length = L.length + i := by simp
   simp only [GO, Jbn, h1, h8, h9, c1, c2, c3, Bool.and_true, cond_true, Yh]
   rw [List.take_of_length_le (by omega)]
   have := JzY f N x y w k0 L hL d (i + 1) n (by omega) (by omega)
   rw [List.range_succ, List.map_append, ← List.append_assoc, Qa] at this
   exact this
theorem JdB (P : List Int) (q j : Nat) (hj : j < 64) : ((P.drop (64 * q)).take 64).getD j 0 = P.getD (64 * q + j) 0 := by
 simp [List.getD_eq_getElem?_getD, hj, List.getElem?_drop]
theorem JzZ (P : List Int) (q : Nat) (hq : 64 * q + 64 <= P.length) (hP : P.length <= 140737488356000) (T : List Int) (hT : T.length = 64) (f : Nat) (x y w : List PV) (k0 : Nat -> Int -> List PV -> List PV -> List PV -> List PV -> List PV -> OR) : ∀ (d i n : Nat), i + d = 16 -> d < n ->
  GP f k0 n P.length ((64 * q : Nat) : Int) (i : Int) x y w (pu .u8 P) (pu .u32 (QQ (word ((P.drop (64 * q)).take 64)) T i)) = k0 P.length ((64 * q : Nat) : Int) x y w (pu .u8 P) (pu .u32 (QQ (word ((P.drop (64 * q)).take 64)) T 16))
 | 0, i, n + 1, h, hn => by
   obtain rfl : i = 16 := by omega
   simp only [GP, Jbo, Xa, W9, W8]
   exact Jd (by decide)
 | d + 1, i, n + 1, h, hn => by
   have h4 : IntKind.i64.wrap (4 * (i : Int)) = ((4 * i : Nat) : Int) := by rw [wrap_i64 (by omega) (by omega)]; omega
   have h40 : IntKind.i64.wrap (((64 * q : Nat) : Int) + ((4 * i : Nat) : Int)) = ((64 * q + 4 * i : Nat) : Int) := by rw [wrap_i64 (by omega) (by omega)]; omega
   have h41 : IntKind.i64.wrap (((64 * q + 4 * i : Nat) : Int) + 1) = ((64 * q + (4 * i + 1) : Nat) : Int) := by rw [wrap_i64 (by omega) (by omega)]; omega
   have h42 : IntKind.i64.wrap (((64 * q + 4 * i : Nat) : Int) + 2) = ((64 * q + (4 * i + 2) : Nat) : Int) := by rw [wrap_i64 (by omega) (by omega)]; omega
   have h43 : IntKind.i64.wrap (((64 * q + 4 * i : Nat) : Int) + 3) = ((64 * q + (4 * i + 3) : Nat) : Int) := by rw [wrap_i64 (by omega) (by omega)]; omega
   have h5 := wI (i := i) (by omega)
   simp only [GP, Jbo, Xa, W9, W8, h4, h40, h41, h42, h43, h5, Int.toNat_natCast, Nat.zero_add, Jtx, zi]
   rw [J7 (by omega), J7 (by omega), J7 (by omega), J7 (by omega), QG (by omega), QG (by omega), QG (by omega), QG (by omega), Xs]
   refine (Ja (by simp; omega)).trans ?_
   refine (Ja (by simp only [Bool.and_true, Bool.and_eq_true, decide_eq_true_eq]; omega)).trans ?_
   refine (Ja rfl).trans ?_
   refine (Ja (by simp only [Bool.and_true, Bool.and_eq_true, decide_eq_true_eq]; omega)).trans ?_
   refine (Ja rfl).trans ?_
   refine (Ja (by simp only [Bool.and_true, Bool.and_eq_true, decide_eq_true_eq]; omega)).trans ?_
   refine (Ja rfl).trans ?_
   refine (Ja (by simp only [Bool.and_true, Bool.and_eq_true, decide_eq_true_eq]; omega)).trans ?_
   refine (Ja rfl).trans ?_
   refine (Ja (by simp only [Bool.and_true, Bool.and_eq_true, decide_eq_true_eq]; omega)).trans ?_
   have := JzZ P q hq hP T hT f x y w k0 d (i + 1) n (by omega) (by omega)
   rw [← QP _ T i (by omega), word, JdB P q _ (by omega), JdB P q _ (by omega), JdB P q _ (by omega), JdB P q _ (by omega)] at this
   exact this
def Gk (bs T : List Int) (i : Nat) : List Int := QY bs i ++ T.drop (16 + i)
theorem Jin (bs T : List Int) (hT : T.length = 64) (i : Nat) (h : i <= 48) : (Gk bs T i).length = 64 := by simp [Gk, Qg, hT]; omega
theorem VU (bs T : List Int) (i j : Nat) (h : j < 16 + i) : (Gk bs T i).getD j 0 = (QY bs i).getD j 0 := by
 simp only [Gk, List.getD_eq_getElem?_getD]
 rw [List.getElem?_append_left (by rw [Qg]; exact h)]
theorem JqH (bs T : List Int) (hT : T.length = 64) (i : Nat) (h : i < 48) (x : Int) : (Gk bs T i).set (i + 16) x = (QY bs i ++ [x]) ++ T.drop (16 + (i + 1)) := by
 rw [Gk, List.set_append_right _ _ (by rw [Qg]; omega), Qg, List.drop_eq_getElem_cons (by omega), show i + 16 - (16 + i) = 0 from by omega, List.set_cons_zero]
 simp [Nat.add_assoc]
theorem Jxu (w16 w15 w7 w2 : Int) : ww (ww (ww (sg1 w2 + w7) + sg0 w15) + w16) = JBN w16 w15 w7 w2 := by
 simp only [JBN, ww, Jjz]; omega
theorem Jz0 (bs T : List Int) (hT : T.length = 64) (f : Nat) (l : Nat) (p : Int) (x y w e : List PV) (k0 : Nat -> Int -> List PV -> List PV -> List PV -> List PV -> List PV -> OR) : ∀ (d i n : Nat), i + d = 48 -> d < n ->
  GQ f k0 n l p ((i + 16 : Nat) : Int) x y w e (pu .u32 (Gk bs T i)) = k0 l p x y w e (pu .u32 (Qs bs))
 | 0, i, n + 1, h, hn => by
   obtain rfl : i = 48 := by omega
   simp only [GQ, Jbp, Xc, Xb]
   refine (Jd (by decide)).trans ?_
   rw [Gk, List.drop_of_length_le (by omega), List.append_nil]; rfl
 | d + 1, i, n + 1, h, hn => by
   have h15 : IntKind.i64.wrap (((i + 16 : Nat) : Int) - 15) = ((i + 1 : Nat) : Int) := by rw [wrap_i64 (by omega) (by omega)]; omega
   have h2 : IntKind.i64.wrap (((i + 16 : Nat) : Int) - 2) = ((i + 14 : Nat) : Int) := by rw [wrap_i64 (by omega) (by omega)]; omega
   have h16 : IntKind.i64.wrap (((i + 16 : Nat) : Int) - 16) = ((i : Nat) : Int) := by rw [wrap_i64 (by omega) (by omega)]; omega
   have h7 : IntKind.i64.wrap (((i + 16 : Nat) : Int) - 7) = ((i + 9 : Nat) : Int) := by rw [wrap_i64 (by omega) (by omega)]; omega
   have h1 : IntKind.i64.wrap (((i + 16 : Nat) : Int) + 1) = ((i + 1 + 16 : Nat) : Int) := by rw [wrap_i64 (by omega) (by omega)]; omega
   have hl := Jin bs T hT i (by omega)
   simp only [GQ, Jbp, Xc, Xb, h15, h2, h16, h7, h1, Int.toNat_natCast, zi, Yi]
   rw [J7 (by omega), J7 (by omega), J7 (by omega), J7 (by omega), QG (by omega), QG (by omega), QG (by omega), QG (by omega), Xs]
   refine (Ja (by simp; omega)).trans ?_
   refine (Ja (by simp; omega)).trans ?_
   refine (Ja rfl).trans ?_
   refine (Ja (by simp; omega)).trans ?_
   refine (Ja rfl).trans ?_
   refine (Ja (by simp; omega)).trans ?_
   refine (Ja rfl).trans ?_
   refine (Ja (by simp; omega)).trans ?_
   refine (Ja rfl).trans ?_
   refine (Ja (by simp; omega)).trans ?_
   have := Jz0 bs T hT f l p x y w e k0 d (i + 1) n (by omega) (by omega)
   rw [VU bs T i i (by omega), VU bs T i (i + 1) (by omega), VU bs T i (i + 9) (by omega), VU bs T i (i + 14) (by omega), JqH bs T hT i (by omega)]
   have hn := Jxu ((QY bs i).getD i 0) ((QY bs i).getD (i + 1) 0) ((QY bs i).getD (i + 9) 0) ((QY bs i).getD (i + 14) 0)
   rw [Gk, QY, ← hn] at this
   exact this
theorem Jz1 (W s : List Int) (hW : W.length = 64) (hs : s.length = 8) (f : Nat) (l : Nat) (p : Int) (x w e : List PV) (k0 : Nat -> Int -> List PV -> List PV -> List PV -> List PV -> List PV -> List PV -> OR) : ∀ (d i n : Nat), i + d = 64 -> d < n ->
  GR f k0 n l p (i : Int) x (pu .u32 kks) w e (pu .u32 W) (pu .u32 (Jcl W s i)) = k0 l p x (pu .u32 kks) w e (pu .u32 W) (pu .u32 (Jcl W s 64))
 | 0, i, n + 1, h, hn => by
   obtain rfl : i = 64 := by omega
   simp only [GR, Jbq, Zw]
   exact Jd (by decide)
 | d + 1, i, n + 1, h, hn => by
   have hl := Yn W s hs i
   have h1 := wI (i := i) (by omega)
   have hk : (pu .u32 kks).getD i .top = .sc (.int .u32 (kks.getD i 0)) := Z1 (by show i < 64; omega)
   have hw : (pu .u32 W).getD i .top = .sc (.int .u32 (W.getD i 0)) := Z1 (by omega)
   have c1 : decide ((i : Int) < 64) = true := by simp; omega
   have c2 : decide (0 <= (i : Int)) = true := by simp
   have c3 : decide ((i : Int) < zi 64) = true := by simp; omega
   simp only [GR, Jbq, Zw, Yi, Int.toNat_natCast, h1, hk, hw, c1, c2, c3, X5 hl 0 (by omega), X5 hl 1 (by omega), X5 hl 2 (by omega), X5 hl 3 (by omega), X5 hl 4 (by omega), X5 hl 5 (by omega), X5 hl 6 (by omega), X5 hl 7 (by omega), PV.isInt, PV.int, decide_true, Bool.and_true, cond_true]
   exact Jz1 W s hW hs f l p x w e k0 d (i + 1) n (by omega) (by omega)
theorem Jz2 (t s : List Int) (ht : t.length = 8) (hs : s.length = 8) (f : Nat) (l : Nat) (p : Int) (x y e u : List PV) (k0 : Nat -> Int -> List PV -> List PV -> List PV -> List PV -> List PV -> OR) : ∀ (d i n : Nat), i + d = 8 -> d < n ->
  GS f k0 n l p (i : Int) x y (pu .u32 (QQ (fun j => ww (t.getD j 0 + s.getD j 0)) s i)) e u (pu .u32 t) = k0 l p x y (pu .u32 ((List.range 8).map fun j => ww (t.getD j 0 + s.getD j 0))) e u
 | 0, i, n + 1, h, hn => by
   obtain rfl : i = 8 := by omega
   simp only [GS, Jbr]
   refine (Jd (by decide)).trans ?_
   have := WZ (fun j => ww (t.getD j 0 + s.getD j 0)) s
   rw [hs] at this; rw [this]
 | d + 1, i, n + 1, h, hn => by
   have hl : (QQ (fun j => ww (t.getD j 0 + s.getD j 0)) s i).length = 8 := by rw [JaP _ _ _ (by omega), hs]
   have h1 := wI (i := i) (by omega)
   have c1 : decide ((i : Int) < 8) = true := by simp; omega
   have c2 : decide (0 <= (i : Int)) = true := by simp
   have c3 : decide ((i : Int) < zi 8) = true := by simp; omega
   have g1 := tI i
   simp only [GS, Jbr, Yi, g1, h1, c1, c2, c3, X5 hl i (by omega), X5 ht i (by omega), Jgr _ s i (by omega), PV.isInt, PV.int, decide_true, Bool.and_true, cond_true, Xs]
   have := Jz2 t s ht hs f l p x y e u k0 d (i + 1) n (by omega) (by omega)
   rw [← QP _ s i (by omega), Int.add_comm (t.getD i 0)] at this
   exact this
theorem JJt (s : List Int) (i : Nat) : ZN s (4 * i) = IntKind.u8.wrap (JV .u32 (s.getD i 0) 24) := by
 rw [ZN, show 4 * i / 4 = i from by omega, show 4 * i % 4 = 0 from by omega]; rfl
theorem JJu (s : List Int) (i : Nat) : ZN s (4 * i + 1) = IntKind.u8.wrap (JV .u32 (s.getD i 0) 16) := by
 rw [ZN, show (4 * i + 1) / 4 = i from by omega, show (4 * i + 1) % 4 = 1 from by omega]; rfl
theorem JJv (s : List Int) (i : Nat) : ZN s (4 * i + 2) = IntKind.u8.wrap (JV .u32 (s.getD i 0) 8) := by
 rw [ZN, show (4 * i + 2) / 4 = i from by omega, show (4 * i + 2) % 4 = 2 from by omega]; rfl
theorem JJw (s : List Int) (i : Nat) : ZN s (4 * i + 3) = IntKind.u8.wrap (s.getD i 0) := by
 rw [ZN, show (4 * i + 3) / 4 = i from by omega, show (4 * i + 3) % 4 = 3 from by omega]
 have : JV .u32 (s.getD i 0) (24 - 8 * ((3 : Nat) : Int)) = s.getD i 0 := by
  have h0 : (24 - 8 * ((3 : Nat) : Int)) = 0 := by decide
  rw [h0]; simp [JV]
 rw [this]
theorem Jz3 (s : List Int) (hs : s.length = 8) (f : Nat) (k0 : List PV -> List PV -> OR) (a : List PV) (t : List Int) (ht : t.length = 32) : ∀ (d i n : Nat), i + d = 8 -> d < n ->
  GU f k0 n (i : Int) a (pu .u32 s) (pu .u8 (QQ (ZN s) t (4 * i))) = k0 a (pu .u8 (Jsm s))
 | 0, i, n + 1, h, hn => by
   obtain rfl : i = 8 := by omega
   simp only [GU, Jbt]
   refine (Jd (by decide)).trans ?_
   have := WZ (ZN s) t
   rw [ht] at this; rw [show 4 * 8 = 32 from rfl, this]; rfl
 | d + 1, i, n + 1, h, hn => by
   have h1 := wI (i := i) (by omega)
   have h4 : IntKind.i64.wrap (4 * (i : Int)) = ((4 * i : Nat) : Int) := by rw [wrap_i64 (by omega) (by omega)]; omega
   have h41 : IntKind.i64.wrap (((4 * i : Nat) : Int) + 1) = ((4 * i + 1 : Nat) : Int) := by rw [wrap_i64 (by omega) (by omega)]; omega
   have h42 : IntKind.i64.wrap (((4 * i : Nat) : Int) + 2) = ((4 * i + 2 : Nat) : Int) := by rw [wrap_i64 (by omega) (by omega)]; omega
   have h43 : IntKind.i64.wrap (((4 * i : Nat) : Int) + 3) = ((4 * i + 3 : Nat) : Int) := by rw [wrap_i64 (by omega) (by omega)]; omega
   have c1 : decide ((i : Int) < 8) = true := by simp; omega
   have c2 : decide (0 <= (i : Int)) = true := by simp
   have c3 : decide ((i : Int) < zi 8) = true := by simp; omega
   have b0 : (decide (0 <= ((4 * i : Nat) : Int)) && decide (((4 * i : Nat) : Int) < zi 32) && true) = true := by simp; omega
   have b1 : (decide (0 <= ((4 * i + 1 : Nat) : Int)) && decide (((4 * i + 1 : Nat) : Int) < zi 32) && true) = true := by simp; omega
   have b2 : (decide (0 <= ((4 * i + 2 : Nat) : Int)) && decide (((4 * i + 2 : Nat) : Int) < zi 32) && true) = true := by simp; omega
   have b3 : (decide (0 <= ((4 * i + 3 : Nat) : Int)) && decide (((4 * i + 3 : Nat) : Int) < zi 32) && true) = true := by simp; omega
   have g1 := tI i
   have g2 : (((4 * i : Nat) : Int)).toNat = 4 * i := by omega
   have g3 : (((4 * i + 1 : Nat) : Int)).toNat = 4 * i + 1 := by omega
   have g4 : (((4 * i + 2 : Nat) : Int)).toNat = 4 * i + 2 := by omega
   have g5 : (((4 * i + 3 : Nat) : Int)).toNat = 4 * i + 3 := by omega
   simp only [GU, Jbt, h1, h4, h41, h42, h43, b0, b1, b2, b3, g1, g2, g3, g4, g5, Jdg, Yi, c1, c2, c3, X5 hs i (by omega), PV.isInt, PV.int, decide_true, Bool.and_true, cond_true, Xs]
   have := Jz3 s hs f k0 a t ht d (i + 1) n (by omega) (by omega)
   rw [show 4 * (i + 1) = 4 * i + 3 + 1 from by omega, ← QP (ZN s) t (4 * i + 3) (by omega), ← QP (ZN s) t (4 * i + 2) (by omega), ← QP (ZN s) t (4 * i + 1) (by omega), ← QP (ZN s) t (4 * i) (by omega), JJt, JJu, JJv, JJw] at this
   exact this
theorem Jz4 (P : List Int) (m : Nat) (hP : P.length = 64 * m) (hb : P.length <= 140737488356000) (f : Nat) (hf : 100 <= f) (x : List PV) (k0 : List PV -> List PV -> OR) : ∀ (d i n : Nat) (T : List Int), i + d = m -> d < n -> T.length = 64 ->
  GT f k0 n P.length ((64 * i : Nat) : Int) x (pu .u32 kks) (pu .u32 (XZ iv P i)) (pu .u8 P) (pu .u32 T) = k0 x (pu .u32 (XZ iv P m))
 | 0, i, n + 1, T, h, hn, hT => by
   obtain rfl : i = m := by omega
   simp only [GT, Jbs]
   exact Jd (by simp [zi]; omega)
 | d + 1, i, n + 1, T, h, hn, hT => by
   have hfl := XB iv P rfl i
   simp only [GT, Jbs]
   refine (Ja (by simp [zi]; omega)).trans ?_
   have e3 := fun kk => JzZ P i (by omega) hb T hT f x (pu .u32 kks) (pu .u32 (XZ iv P i)) kk 16 0 f (by omega) (by omega)
   have e4 := fun kk => Jz0 ((P.drop (64 * i)).take 64) T hT f P.length ((64 * i : Nat) : Int) x (pu .u32 kks) (pu .u32 (XZ iv P i)) (pu .u8 P) kk 48 0 f (by omega) (by omega)
   have hW : (Qs ((P.drop (64 * i)).take 64)).length = 64 := Qg _ 48
   have e5 := fun kk => Jz1 (Qs ((P.drop (64 * i)).take 64)) (XZ iv P i) hW hfl f P.length ((64 * i : Nat) : Int) x (pu .u32 (XZ iv P i)) (pu .u8 P) kk 64 0 f (by omega) (by omega)
   have e6 := fun kk => Jz2 (Jcl (Qs ((P.drop (64 * i)).take 64)) (XZ iv P i) 64) (XZ iv P i) (Yn _ _ hfl 64) hfl f P.length ((64 * i : Nat) : Int) x (pu .u32 kks) (pu .u8 P) (pu .u32 (Qs ((P.drop (64 * i)).take 64))) kk 8 0 f (by omega) (by omega)
   have h0 : QQ (word ((P.drop (64 * i)).take 64)) T 16 = Gk ((P.drop (64 * i)).take 64) T 0 := rfl
   rw [Wg] at e6
   simp only [Wg] at e3
   refine (e3 _).trans ?_
   rw [h0]
   refine (e4 _).trans ?_
   refine (e5 _).trans ?_
   refine (e6 _).trans ?_
   have h1 : IntKind.i64.wrap (((64 * i : Nat) : Int) + 64) = ((64 * (i + 1) : Nat) : Int) := by rw [wrap_i64 (by omega) (by omega)]; omega
   rw [h1]
   exact Jz4 P m hP hb f hf x k0 d (i + 1) n (Qs ((P.drop (64 * i)).take 64)) (by omega) (by omega) hW
theorem JDG (bs : List Int) (hb : bs.length <= 140737488355000) (nl fl : Bool) (k : KR) : g51 ((Q4 bs).length / 64 + 100) nl fl (pu .u8 bs) k = k ⟨.ar 37 (pu .u8 (JX bs)), [], []⟩ := by
 rw [Jdw]
 have hlen : (Q4 bs).length = bs.length + 1 + zs (bs.length + 1) + 8 := by simp [Q4, Jww]; omega
 have hz : zs (bs.length + 1) < 64 := by unfold zs; omega
 have h64 : (Q4 bs).length = 64 * ((Q4 bs).length / 64) := Jc4 bs
 generalize hf : (Q4 bs).length / 64 + 100 = f
 refine (Ja (by simp [Je]; omega)).trans ?_
 refine (Ja (by simp [Je]; omega)).trans ?_
 have hL : List.take (0 + (pu .u8 bs).length) ([] ++ pu .u8 bs) ++ [PV.sc (Value.int IntKind.u8 128)] = pu .u8 (bs ++ [128]) := by
  rw [List.take_of_length_le (by simp)]; simp
 rw [hL]
 have e0 := fun kk x y w => JzX f nl fl (pu .u8 bs) x y w kk (zs (bs.length + 1)) f (bs ++ [128]) (by simp) (by omega) (by simp; omega)
 simp only [List.length_append, List.length_cons, List.length_nil, Nat.zero_add] at e0
 have hl1 : 0 + (pu .u8 bs).length + 1 = bs.length + 1 := by simp
 rw [hl1]
 refine (e0 _ _ _ _).trans ?_
 have e1 := fun kk x y w => JzY f (IntKind.u64.wrap (IntKind.u64.wrap (zi (pu .u8 bs).length) * 8)) x y w kk (bs ++ [128] ++ List.replicate (zs (bs.length + 1)) 0) (by simp; omega) 8 0 f (by omega) (by omega)
 have hl2 : (bs ++ [128] ++ List.replicate (zs (bs.length + 1)) 0).length = bs.length + 1 + zs (bs.length + 1) := by simp; omega
 rw [hl2] at e1
 simp only [List.range_zero, List.map_nil, List.append_nil, Nat.add_zero] at e1
 refine (e1 _ _ _ _).trans ?_
 have hPd : bs ++ [128] ++ List.replicate (zs (bs.length + 1)) 0 ++ (List.range 8).map (Jxt (IntKind.u64.wrap (IntKind.u64.wrap (zi (pu .u8 bs).length) * 8))) = Q4 bs := by
  rw [JI]; rfl
 rw [hPd, ← hlen]
 have e2 := fun kk x => Jz4 (Q4 bs) ((Q4 bs).length / 64) h64 (by omega) f (by omega) x kk ((Q4 bs).length / 64) 0 f (List.replicate 64 0) (by omega) (by omega) (by simp)
 refine (e2 _ _).trans ?_
 have hfl := XB iv (Q4 bs) rfl ((Q4 bs).length / 64)
 have e7 := fun kk a => Jz3 (XZ iv (Q4 bs) ((Q4 bs).length / 64)) hfl f kk a (List.replicate 32 0) (by simp) 8 0 f (by omega) (by omega)
 simp only [Nat.mul_zero, Wg] at e7
 exact e7 _ _
def JmY : Jz
 | [.ro 5 nl fl b], [], k => bif Jl .u8 b && decide (b.length <= 140737488355000) then k ⟨.ar 37 (pu .u8 (JX (JD b))), [], []⟩ else none
 | _, _, _ => none
def Jxv : Sig := { own := [], run := JmY }
theorem Jty : Jc tau Try.prog 51 Jxv := Jhj Jn Zp Jo JJr JJs (fun n => Jxk (Jfa n) (Jfb n) (Jfc n) (Jfd n)) [] 0 [] JmY (fun n => JN0 n) fun xs es k res hr => by
 unfold JmY at hr
 split at hr
 · rename_i nl fl l
   obtain ⟨hc, hr⟩ := Jv hr
   simp only [Bool.and_eq_true, decide_eq_true_eq] at hc
   refine ⟨rfl, (Q4 (JD l)).length / 64 + 100, 0, (e51 _ _ _ _ _).trans ?_⟩
   have he := QB hc.1
   have := JDG (JD l) (by simpa using hc.2) nl fl k
   rw [← he] at this
   rw [this]; exact hr
 · cases hr
def N31 : Nat := 53
def F31 : Fns := Jt 51 Jxv (F0)
theorem Jtz : Jq tau Try.prog F31 := (Js).add Jty JDF
def Jpn : Code := Qf (Try.f31.body.get!) [1, 1, 1, 1, 0, 1, 0, 0]
def Jfe : Nm := [(1, .any), (4, .any), (5, .any), (7, .any), (8, .any), (9, .any)]
def JmZ : Nm := [(1, .any), (4, .any), (7, .any), (8, .any)]
def JtA : An := (.seq (.seq .leaf (.cond .leaf .leaf)) (.seq (.block none .leaf) .leaf))
def Jxw (r0 : Qw) : An := (.seq .leaf (.seq .leaf (.seq (.seq .leaf (.cond (.seq .leaf .leaf) .leaf)) (.seq .leaf (.seq (.seq .leaf (.block none (.sum Jfe N31 r0))) (.seq .leaf (.seq .leaf .leaf)))))))
abbrev JtB := Bool -> Bool -> List PV -> Int -> List PV -> List PV -> List PV -> List PV -> OR
def Jbv (f : Nat) (rc : JtB) (k0 : Bool -> Bool -> List PV -> List PV -> List PV -> List PV -> OR) (v0 v1 : Bool) (v2 : List PV) (v3 : Int) (v4 v5 v6 v7 : List PV) : OR := bif decide (v3 < 64) then bif decide (0 <= v3) && decide (v3 < zi 64) && true then bif PV.isInt IntKind.u8 (Jr (v5.getD (0 + v3.toNat) PV.top) []) && true then bif decide (0 <= v3) && decide (v3 < zi 64) && true then bif PV.isInt IntKind.u8 (Jr (v5.getD (0 + v3.toNat) PV.top) []) && true then bif decide (0 <= v3) && decide (v3 < zi 64) && true then bif decide (0 <= v3) && decide (v3 < zi 64) && true then rc v0 v1 v2 (IntKind.i64.wrap (v3 + 1)) v4 v5 (v6.set (0 + v3.toNat) (.sc (.int .u8 (JM BinOp.xor IntKind.u8 (Jr (v5.getD (0 + v3.toNat) PV.top) []).int 54)))) (v7.set (0 + v3.toNat) (.sc (.int .u8 (JM BinOp.xor IntKind.u8 (Jr (v5.getD (0 + v3.toNat) PV.top) []).int 92)))) else none else none else none else none else none else none else k0 v0 v1 v2 v4 v6 v7
def X6 (f : Nat) (k0 : Bool -> Bool -> List PV -> List PV -> List PV -> List PV -> OR) : Nat -> JtB
 | 0 => fun _ _ _ _ _ _ _ _ => none
 | n + 1 => Jbv f (X6 f k0 n) k0
def Jbw (k : Kont) := fun x0 x1 x2 x3 x4 x5 => k (Ex.exit 0) (Jj JmZ N31 [.ro 5 x0 x1 x2, .ptr 864 [], .ow 5 865 [] 0 64 (some 64), .ow 5 866 [] 0 64 (some 64)] [(864, .box false 37 (PV.ar 37 x3)), (865, .vec false 5 false x4), (866, .vec false 5 false x5)])
def Jm0 (f : Nat) (k : Kont) (n : Nat) (v0 v1 : Bool) (v2 : List PV) (v3 : Int) (v4 v5 v6 v7 : List PV) : OR := Jy tau 0 Jfe (fun s k => ev tau F31 0 0 Jpn (JtA ) s k) n (Jj Jfe N31 [.ro 5 v0 v1 v2, .ptr 864 [], .ow 5 865 [] 0 64 (some 64), .ow 5 866 [] 0 64 (some 64), .ow 5 867 [] 0 64 (some 64), .sc (.int .i64 v3)] [(864, .box false 37 (PV.ar 37 v4)), (865, .vec false 5 false v5), (866, .vec false 5 false v6), (867, .vec false 5 false v7)]) (JG tau 0 JmZ k)
theorem Jxx (f : Nat) (k : Kont) (n : Nat) : Jm0 f k (n + 1) = Jbv f (Jm0 f k n) (Jbw k) := by kernel_rfl
theorem Jpo (f : Nat) (k : Kont) : ∀ n, Jm0 f k n = X6 f (Jbw k) n
 | 0 => rfl
 | n + 1 => (Jxx f k n).trans (congrArg (fun r => Jbv f r (Jbw k)) (Jpo f k n))
def Jff (f : Nat) : List PV -> List (Nat × Ent) -> Kont -> OR
 | [.ro 5 v0 v1 v2, .ptr 864 [], .ow 5 865 [] 0 64 (some 64), .ow 5 866 [] 0 64 (some 64), .ow 5 867 [] 0 64 (some 64),
 PV.sc
  (Value.int IntKind.i64
   v3)], [(864, .box false 37 (PV.ar 37 v4)), (865, .vec false 5 false v5), (866, .vec false 5 false v6),
 (867,
  Ent.vec false 5 false
   v7)], k => X6 f (Jbw k) f v0 v1 v2 v3 v4 v5 v6 v7
 | _, _, _ => none
theorem JDH (f : Nat) : Jg Jpn JtA = [] := by kernel_rfl
theorem JDI (f : Nat) : (Item.l Jpn Jfe N31 (Jff f)).Ok tau Try.prog 0 := Ju Jn Jtz Jo (x := JtA) (nm2 := JmZ) (Jk _ _ (by rw [JDH f]; intro q hq; cases hq)) fun vs hp k res hr => by
 unfold Jff at hr
 split at hr
 · rw [← Jpo f] at hr; exact ⟨f, 0, hr⟩
 · cases hr
abbrev Jcs := JAX
abbrev JtC := (Jch)
def g31 (f : Nat) (y0 y1 : Bool) (key : List PV) (y2 y3 : Bool) (text : List PV) (k : KR) : OR := bif decide (zi key.length > 64) then bif Jl IntKind.u8 key && decide (key.length <= 140737488355000) then X6 f (fun _ _ x2_0 _ x4_0 Q6 => bif Je (64 + x2_0.length) 1 && true then bif Jl IntKind.u8 (List.take (64 + x2_0.length) (List.take 64 x4_0 ++ x2_0)) && decide ((List.take (64 + x2_0.length) (List.take 64 x4_0 ++ x2_0)).length <= 140737488355000) then bif Je (64 + (List.take 32 (pu IntKind.u8 (JX (JD (List.take (64 + x2_0.length) (List.take 64 x4_0 ++ x2_0)))))).length) 1 && true then bif Jl IntKind.u8 (List.take (64 + (List.take 32 (pu IntKind.u8 (JX (JD (List.take (64 + x2_0.length) (List.take 64 x4_0 ++ x2_0)))))).length) (List.take 64 Q6 ++ List.take 32 (pu IntKind.u8 (JX (JD (List.take (64 + x2_0.length) (List.take 64 x4_0 ++ x2_0))))))) && decide ((List.take (64 + (List.take 32 (pu IntKind.u8 (JX (JD (List.take (64 + x2_0.length) (List.take 64 x4_0 ++ x2_0)))))).length) (List.take 64 Q6 ++ List.take 32 (pu IntKind.u8 (JX (JD (List.take (64 + x2_0.length) (List.take 64 x4_0 ++ x2_0))))))).length <= 140737488355000) then k (Res.mk (.ar 37 (pu IntKind.u8 (JX (JD (List.take (64 + (List.take 32 (pu IntKind.u8 (JX (JD (List.take (64 + x2_0.length) (List.take 64 x4_0 ++ x2_0)))))).length) (List.take 64 Q6 ++ List.take 32 (pu IntKind.u8 (JX (JD (List.take (64 + x2_0.length) (List.take 64 x4_0 ++ x2_0))))))))))) [] []) else none else none else none else none) f y2 y3 text (0) JtC (List.take 64 (List.take 32 (pu IntKind.u8 (JX (JD key)))) ++ List.drop (0 + min (List.take 32 (pu IntKind.u8 (JX (JD key)))).length 64) Jcs) (Jcs) (Jcs) else none else X6 f (fun _ _ x2_1 _ x4_1 Yd => bif Je (64 + x2_1.length) 1 && true then bif Jl IntKind.u8 (List.take (64 + x2_1.length) (List.take 64 x4_1 ++ x2_1)) && decide ((List.take (64 + x2_1.length) (List.take 64 x4_1 ++ x2_1)).length <= 140737488355000) then bif Je (64 + (List.take 32 (pu IntKind.u8 (JX (JD (List.take (64 + x2_1.length) (List.take 64 x4_1 ++ x2_1)))))).length) 1 && true then bif Jl IntKind.u8 (List.take (64 + (List.take 32 (pu IntKind.u8 (JX (JD (List.take (64 + x2_1.length) (List.take 64 x4_1 ++ x2_1)))))).length) (List.take 64 Yd ++ List.take 32 (pu IntKind.u8 (JX (JD (List.take (64 + x2_1.length) (List.take 64 x4_1 ++ x2_1))))))) && decide ((List.take (64 + (List.take 32 (pu IntKind.u8 (JX (JD (List.take (64 + x2_1.length) (List.take 64 x4_1 ++ x2_1)))))).length) (List.take 64 Yd ++ List.take 32 (pu IntKind.u8 (JX (JD (List.take (64 + x2_1.length) (List.take 64 x4_1 ++ x2_1))))))).length <= 140737488355000) then k (Res.mk (.ar 37 (pu IntKind.u8 (JX (JD (List.take (64 + (List.take 32 (pu IntKind.u8 (JX (JD (List.take (64 + x2_1.length) (List.take 64 x4_1 ++ x2_1)))))).length) (List.take 64 Yd ++ List.take 32 (pu IntKind.u8 (JX (JD (List.take (64 + x2_1.length) (List.take 64 x4_1 ++ x2_1))))))))))) [] []) else none else none else none else none) f y2 y3 text (0) JtC (List.take 64 key ++ List.drop (0 + min key.length 64) Jcs) (Jcs) (Jcs)
theorem e31 (f : Nat) (y0 y1 : Bool) (key : List PV) (y2 y3 : Bool) (text : List PV) (k : KR) : JJ tau F31 Try.f31 (Try.f31.body.get!) (Jxw (Jff f)) [.ro] 0 [.ro 5 y0 y1 key, .ro 5 y2 y3 text] [] k = g31 f y0 y1 key y2 y3 text k := by kernel_rfl
theorem JN1 (f : Nat) : Jg (Try.f31.body.get!) (Jxw (Jff f)) = [.l Jpn Jfe N31 (Jff f)] := by kernel_rfl
theorem JN2 (f : Nat) : ∀ q ∈ Jg (Try.f31.body.get!) (Jxw (Jff f)), q.Ok tau Try.prog 0 := by rw [JN1 f]; exact JL (JDI f) (fun _ h => nomatch h)
theorem JJx : Try.prog.funcs[31]? = some Try.f31 := by kernel_rfl
theorem JJy : Try.f31.body = some (Try.f31.body.get!) := by kernel_rfl
theorem JJz : Enters Try.prog 31 := enters_of JJx (by kernel_rfl) JJy






def Zx (l : List Int) (x : Int) : List Int := l.map fun b => JM .xor .u8 b x
@[simp] theorem Jz5 (l : List Int) (x : Int) : (Zx l x).length = l.length := by simp [Zx]
theorem JtD (K : List Int) (hK : K.length = 64) (x : Int) : (List.range 64).map (fun j => JM .xor .u8 x (K.getD j 0)) = Zx K x := by
 apply List.ext_getElem
 · simp [hK]
 · intro i h1 h2
   have h1' : i < K.length := by simpa using h2
   simp only [List.getElem_map, List.getElem_range, Zx]
   rw [Gj, List.getD_eq_getElem?_getD, List.getElem?_eq_getElem h1']; rfl

theorem Jj9 (a b : List PV) : JD (a ++ b) = JD a ++ JD b := by simp [JD]
@[simp] theorem JJA : JD [] = [] := rfl
def JtE (s : List Int) : List Int := s ++ List.replicate (64 - s.length) 0
def Jka (key : List Int) : List Int := if key.length > 64 then JtE (JX key) else JtE key
def JtF (key text : List Int) : List Int := JX (Zx (Jka key) 92 ++ JX (Zx (Jka key) 54 ++ text))
def JfZ : List Int -> List Int -> List Int := hid JtF
theorem Jpp (key text : List Int) : JfZ key text = JtF key text := by rw [JfZ, hid_eq]
theorem Jkb (key text : List Int) : (JfZ key text).length = 32 := by rw [Jpp]; exact Qx _
theorem Jdc (key : List Int) : (Jka key).length = 64 := by
 unfold Jka JtE
 split
 · rw [List.length_append, Qx, List.length_replicate]
 · rw [List.length_append, List.length_replicate]; omega
def kbG (src : List PV) : List PV := [] ++ List.take 64 src ++ List.drop (0 + min src.length 64) (pu .u8 (List.replicate 64 0))
theorem JtG (s : List Int) (h : s.length <= 64) : kbG (pu .u8 s) = pu .u8 (JtE s) := by
 unfold kbG JtE
 rw [JI, show 0 + min s.length 64 = s.length from by omega, Joj, List.drop_replicate, List.take_of_length_le (by simpa using h), List.nil_append, ← Qa]
theorem JgJ (K : List Int) (hK : K.length = 64) (x : Int) : (List.range 64).map (fun j => JM .xor .u8 (K.getD j 0) x) = Zx K x := by
 rw [← JtD K hK x]
 apply List.map_congr_left
 intro j _
 exact Gj _ _ _
theorem Jz6 (K : List Int) (hK : K.length = 64) (f : Nat) (k0 : Bool -> Bool -> List PV -> List PV -> List PV -> List PV -> OR) (tz tf : Bool) (text h : List PV) : ∀ (d i n : Nat), i + d = 64 -> d < n ->
  X6 f k0 n tz tf text (i : Int) h (pu .u8 K) (pu .u8 (QQ (fun j => JM .xor .u8 (K.getD j 0) 54) (List.replicate 64 0) i)) (pu .u8 (QQ (fun j => JM .xor .u8 (K.getD j 0) 92) (List.replicate 64 0) i)) = k0 tz tf text h (pu .u8 (Zx K 54)) (pu .u8 (Zx K 92))
 | 0, i, n + 1, hh, hn => by
   obtain rfl : i = 64 := by omega
   simp only [X6, Jbv]
   refine (Jd (by decide)).trans ?_
   have h1 := WZ (fun j => JM .xor .u8 (K.getD j 0) 54) (List.replicate 64 0)
   have h2 := WZ (fun j => JM .xor .u8 (K.getD j 0) 92) (List.replicate 64 0)
   rw [List.length_replicate] at h1 h2
   rw [h1, h2, JgJ K hK, JgJ K hK]
 | d + 1, i, n + 1, hh, hn => by
   have g1 := tI i
   have h1 := wI (i := i) (by omega)
   have c0 : (decide (0 <= (i : Int)) && decide ((i : Int) < zi 64) && true) = true := by simp; omega
   simp only [X6, Jbv, g1, h1, Nat.zero_add, Jr]
   rw [J7 (by omega), QG (by omega), Xs, Xs]
   refine (Ja (by simp; omega)).trans ((Ja c0).trans ((Ja rfl).trans ((Ja c0).trans ((Ja rfl).trans ((Ja c0).trans ((Ja c0).trans ?_))))))
   have := Jz6 K hK f k0 tz tf text h d (i + 1) n (by omega) (by omega)
   rw [← QP _ _ i (by simp; omega), ← QP _ _ i (by simp; omega)] at this
   exact this
def VV (a b text : List PV) (k : KR) : OR :=
 bif Je (64 + text.length) 1 && true then
  bif Jl .u8 (List.take (64 + text.length) (List.take 64 a ++ text)) && decide ((List.take (64 + text.length) (List.take 64 a ++ text)).length <= 140737488355000) then
   bif Je (64 + (List.take 32 (pu .u8 (JX (JD (List.take (64 + text.length) (List.take 64 a ++ text)))))).length) 1 && true then
    bif Jl .u8 (List.take (64 + (List.take 32 (pu .u8 (JX (JD (List.take (64 + text.length) (List.take 64 a ++ text)))))).length) (List.take 64 b ++ List.take 32 (pu .u8 (JX (JD (List.take (64 + text.length) (List.take 64 a ++ text)))))))
      && decide ((List.take (64 + (List.take 32 (pu .u8 (JX (JD (List.take (64 + text.length) (List.take 64 a ++ text)))))).length) (List.take 64 b ++ List.take 32 (pu .u8 (JX (JD (List.take (64 + text.length) (List.take 64 a ++ text))))))).length <= 140737488355000) then
     k ⟨.ar 37 (pu .u8 (JX (JD (List.take (64 + (List.take 32 (pu .u8 (JX (JD (List.take (64 + text.length) (List.take 64 a ++ text)))))).length) (List.take 64 b ++ List.take 32 (pu .u8 (JX (JD (List.take (64 + text.length) (List.take 64 a ++ text)))))))))), [], []⟩
    else none
   else none
  else none
 else none
theorem JtH (f : Nat) (kz kf : Bool) (key : List PV) (tz tf : Bool) (text : List PV) (k : KR) : g31 f kz kf key tz tf text k =
 (bif decide (zi key.length > 64) then
  bif Jl .u8 key && decide (key.length <= 140737488355000) then
   X6 f (fun _ _ t _ a b => VV a b t k) f tz tf text 0 (pu .u8 (List.replicate 32 0)) (kbG (List.take 32 (pu .u8 (JX (JD key))))) (pu .u8 (List.replicate 64 0)) (pu .u8 (List.replicate 64 0))
  else none
 else X6 f (fun _ _ t _ a b => VV a b t k) f tz tf text 0 (pu .u8 (List.replicate 32 0)) (kbG key) (pu .u8 (List.replicate 64 0)) (pu .u8 (List.replicate 64 0))) := by kernel_rfl
theorem Jm1 (K T : List Int) (hK : K.length = 64) (hT : T.length <= 1000000000) (k : KR) :
  VV (pu .u8 (Zx K 54)) (pu .u8 (Zx K 92)) (pu .u8 T) k = k ⟨.ar 37 (pu .u8 (JX (Zx K 92 ++ JX (Zx K 54 ++ T)))), [], []⟩ := by
 have e1 : List.take (64 + (pu .u8 T).length) (List.take 64 (pu .u8 (Zx K 54)) ++ pu .u8 T) = pu .u8 (Zx K 54 ++ T) := by
  rw [List.take_of_length_le (i := 64) (by simp [hK]), List.take_of_length_le (by simp [hK]), ← Qa]
 have e2 : ∀ l : List Int, List.take 32 (pu .u8 (JX l)) = pu .u8 (JX l) := fun l => List.take_of_length_le (by simp [Qx])
 have e3 : ∀ l : List Int, List.take (64 + (pu .u8 (JX l)).length) (List.take 64 (pu .u8 (Zx K 92)) ++ pu .u8 (JX l)) = pu .u8 (Zx K 92 ++ JX l) := fun l => by
  rw [List.take_of_length_le (i := 64) (by simp [hK]), List.take_of_length_le (by simp [hK]), ← Qa]
 unfold VV
 rw [e1, e2, e3, Ja (by simp [Je]; omega), Ja (by rw [JP, JI]; simp [hK]; omega), Ja (by simp [Je, Qx]), Ja (by rw [JP, JI]; simp [hK, Qx])]
 simp only [WF]
def Jm2 : Jz
 | [.ro 5 kz kf key, .ro 5 tz tf text], [], k =>
  bif (Jl .u8 key && decide (key.length <= 1000000000)) && (Jl .u8 text && decide (text.length <= 1000000000)) then
   k ⟨.ar 37 (pu .u8 (JfZ (JD key) (JD text))), [], []⟩ else none
 | _, _, _ => none
def JDJ : Sig := { own := [], run := Jm2 }
theorem JDK (kz kf : Bool) (key : List PV) (tz tf : Bool) (text : List PV) (k : KR) (a1 : Jl .u8 key = true) (a2 : key.length <= 1000000000) (h3 : Jl .u8 text = true) (h4 : text.length <= 1000000000) :
   g31 70 kz kf key tz tf text k = k ⟨.ar 37 (pu .u8 (JfZ (JD key) (JD text))), [], []⟩ := by
 rw [JtH, Jpp, JtF]
 have hi := QB a1
 have ht := QB h3
 have hL : ∀ K : List Int, K.length = 64 -> X6 70 (fun _ _ t _ a b => VV a b t k) 70 tz tf text 0 (pu .u8 (List.replicate 32 0)) (pu .u8 K) (pu .u8 (List.replicate 64 0)) (pu .u8 (List.replicate 64 0)) = k ⟨.ar 37 (pu .u8 (JX (Zx K 92 ++ JX (Zx K 54 ++ JD text)))), [], []⟩ := by
   intro K hK
   have := Jz6 K hK 70 (fun _ _ t _ a b => VV a b t k) tz tf text (pu .u8 (List.replicate 32 0)) 64 0 70 (by omega) (by omega)
   rw [Wg, Wg] at this
   refine this.trans ?_
   have hm := Jm1 K (JD text) hK (by simpa using h4) k
   rw [← ht] at hm
   exact hm
 by_cases hc : key.length > 64
 · rw [Ja (by simp [zi]; omega), Ja (by simp [a1]; omega), List.take_of_length_le (by simp [Qx]), JtG _ (by rw [Qx]; omega),
    hL _ (by rw [← Jdc (JD key), Jka, if_pos (by simpa using hc)]), Jka, if_pos (by simpa using hc)]
 · have hl : (JD key).length <= 64 := by simp; omega
   rw [Jd (by simp [zi]; omega), hi, JtG _ hl, WF, hL _ (by rw [← Jdc (JD key), Jka, if_neg (by omega)]), Jka, if_neg (by omega)]
theorem Jz7 : Jc tau Try.prog 31 JDJ := Jc.mk' fun xs es k res hl hr => by
 change Jm2 xs es k = some res at hr
 unfold Jm2 at hr
 split at hr
 · rename_i kz kf key tz tf text
   obtain ⟨hc, hr⟩ := Jv hr
   simp only [Bool.and_eq_true, decide_eq_true_eq] at hc
   obtain ⟨⟨a1, a2⟩, h3, h4⟩ := hc
   exact J3 Jn Jtz Jo JJx JJy (Jxw (Jff 70)) [.ro] 0 0 (JN2 70) hl rfl ((e31 70 kz kf key tz tf text k).trans ((JDK kz kf key tz tf text k a1 a2 h3 h4).trans hr))
 · cases hr
def F55 : Fns := Jt 99 JH1 (Jt 31 JDJ (F0))
theorem JDL : Jq tau Try.prog F55 := ((Js).add Jz7 JJz).add JH2 JNf
def JDM : An := (.seq .leaf (.seq .leaf (.seq .leaf .leaf)))
abbrev Jfg (y0 : Int) (y1 : Int) (d_Id : Int) (y2 : Int) (y3 : List PV) (y4 : Int) (d_Op : List PV) (y7 : Int) (y8 : Int) := (List.take (dlB (DV.mk y0 y1 d_Id y2 y3 y4 d_Op y7 y8)).length (pu IntKind.u8 (dlB (DV.mk y0 y1 d_Id y2 y3 y4 d_Op y7 y8))))
def g55 (f : Nat) (k0_z k0_f : Bool) (k0 : List PV) (k1_z k1_f : Bool) (k1 : List PV) (k2_z k2_f : Bool) (k2 : List PV) (y0 y1 d_Id y2 : Int) (y3 : List PV) (y4 : Int) (y5 y6 : Bool) (d_Op : List PV) (y7 y8 : Int) (k : KR) : OR := bif dOk (DV.mk y0 y1 d_Id y2 y3 y4 d_Op y7 y8) then bif decide (0 <= y0) && decide (y0 < zi 3) && true then bif PV.isRo 5 (Jr (PV.st 31 [.ro 5 k0_z k0_f k0, .ro 5 k1_z k1_f k1, .ro 5 k2_z k2_f k2]) [y0.toNat]) && true then bif Jl IntKind.u8 (Jr (PV.st 31 [.ro 5 k0_z k0_f k0, .ro 5 k1_z k1_f k1, .ro 5 k2_z k2_f k2]) [y0.toNat]).els && decide ((Jr (PV.st 31 [.ro 5 k0_z k0_f k0, .ro 5 k1_z k1_f k1, .ro 5 k2_z k2_f k2]) [y0.toNat]).els.length <= 1000000000) && (Jl IntKind.u8 (Jfg y0 y1 d_Id y2 y3 y4 d_Op y7 y8) && decide ((Jfg y0 y1 d_Id y2 y3 y4 d_Op y7 y8).length <= 1000000000)) then k (Res.mk (.st 47 [.ro 5 false false (Jfg y0 y1 d_Id y2 y3 y4 d_Op y7 y8), .ar 37 (pu IntKind.u8 (JfZ (JD (Jr (PV.st 31 [.ro 5 k0_z k0_f k0, .ro 5 k1_z k1_f k1, .ro 5 k2_z k2_f k2]) [y0.toNat]).els) (JD (Jfg y0 y1 d_Id y2 y3 y4 d_Op y7 y8))))]) [] []) else none else none else none else none
theorem e55 (f : Nat) (k0_z k0_f : Bool) (k0 : List PV) (k1_z k1_f : Bool) (k1 : List PV) (k2_z k2_f : Bool) (k2 : List PV) (y0 y1 d_Id y2 : Int) (y3 : List PV) (y4 : Int) (y5 y6 : Bool) (d_Op : List PV) (y7 y8 : Int) (k : KR) : JJ tau F55 Try.f55 (Try.f55.body.get!) JDM [.ro] 0 [.st 31 [.ro 5 k0_z k0_f k0, .ro 5 k1_z k1_f k1, .ro 5 k2_z k2_f k2], .st 53 [.st 42 [.sc (.int .i64 y0), .sc (.int .i64 y1)], .sc (.int .i64 d_Id), .sc (.int .i64 y2), .ar 37 y3, .sc (.int .i64 y4), .ro 113 y5 y6 d_Op, .st 42 [.sc (.int .i64 y7), .sc (.int .i64 y8)]]] [] k = g55 f k0_z k0_f k0 k1_z k1_f k1 k2_z k2_f k2 y0 y1 d_Id y2 y3 y4 y5 y6 d_Op y7 y8 k := by kernel_rfl
theorem JN3 (f : Nat) : ∀ q ∈ Jg (Try.f55.body.get!) JDM, q.Ok tau Try.prog 0 := Jw (by kernel_rfl)
theorem JJB : Try.prog.funcs[55]? = some Try.f55 := by kernel_rfl
theorem JJC : Try.f55.body = some (Try.f55.body.get!) := by kernel_rfl
theorem JN4 : Enters Try.prog 55 := enters_of JJB (by kernel_rfl) JJC
def JtI : Jz
 | [.st 31 [.ro 5 k0_z k0_f k0, .ro 5 k1_z k1_f k1, .ro 5 k2_z k2_f k2], .st 53 [.st 42 [.sc (.int .i64 y0), .sc (.int .i64 y1)], .sc (.int .i64 d_Id), .sc (.int .i64 y2), .ar 37 y3, .sc (.int .i64 y4), .ro 113 y5 y6 d_Op, .st 42 [.sc (.int .i64 y7), .sc (.int .i64 y8)]]], [], k => g55 0 k0_z k0_f k0 k1_z k1_f k1 k2_z k2_f k2 y0 y1 d_Id y2 y3 y4 y5 y6 d_Op y7 y8 k
 | _, _, _ => none
def s55 : Sig := { own := [], run := JtI }
theorem JN5 : Jc tau Try.prog 55 s55 := JO Jn JDL Jo JJB JJC JDM [.ro] 0 [] JtI (JN3 0) fun xs es k res hr => by
 unfold JtI at hr
 split at hr
 · exact ⟨rfl, 0, (e55 0 _ _ _ _ _ _ _ _ _ _ _ _ _ _ _ _ _ _ _ _  _).trans hr⟩
 · cases hr
def F16 : Fns := Jt 52 JCD (Jt 51 Jxv (F0))
theorem JDN : Jq tau Try.prog F16 := ((Js).add Jty JDF).add JzG JHY
def JDO : An := (.seq .leaf (.seq .leaf .leaf))
abbrev Jio (prev : List PV) (y2 : List PV) (y3 : List PV) (e_At : Int) (e_Op : List PV) := (List.take (0 + (List.take 32 prev).length + (List.take (JY (EV.mk y2 y3 e_At e_Op)).length (pu IntKind.u8 (JY (EV.mk y2 y3 e_At e_Op)))).length) (List.take (0 + (List.take 32 prev).length) (List.take 32 prev) ++ List.take (JY (EV.mk y2 y3 e_At e_Op)).length (pu IntKind.u8 (JY (EV.mk y2 y3 e_At e_Op)))))
def g16 (f : Nat) (prev : List PV) (y0 y1 : Bool) (y2 y3 : List PV) (e_At : Int) (y4 y5 : Bool) (e_Op y6 y7 : List PV) (k : KR) : OR := bif Je (0 + (List.take 32 prev).length) 1 && true then bif eOk (EV.mk y2 y3 e_At e_Op) then bif Je (0 + (List.take 32 prev).length + (List.take (JY (EV.mk y2 y3 e_At e_Op)).length (pu IntKind.u8 (JY (EV.mk y2 y3 e_At e_Op)))).length) 1 && true then bif Jl IntKind.u8 (Jio prev y2 y3 e_At e_Op) && decide ((Jio prev y2 y3 e_At e_Op).length <= 140737488355000) then k (Res.mk (.ar 37 (pu IntKind.u8 (JX (JD (Jio prev y2 y3 e_At e_Op))))) [] []) else none else none else none else none
theorem e16 (f : Nat) (prev : List PV) (y0 y1 : Bool) (y2 y3 : List PV) (e_At : Int) (y4 y5 : Bool) (e_Op y6 y7 : List PV) (k : KR) : JJ tau F16 Try.f16 (Try.f16.body.get!) JDO [.ro] 0 [.ar 37 prev, .st 51 [.st 47 [.ro 5 y0 y1 y2, .ar 37 y3], .sc (.int .i64 e_At), .ro 113 y4 y5 e_Op, .ar 37 y6, .ar 37 y7]] [] k = g16 f prev y0 y1 y2 y3 e_At y4 y5 e_Op y6 y7 k := by kernel_rfl
theorem JN6 (f : Nat) : ∀ q ∈ Jg (Try.f16.body.get!) JDO, q.Ok tau Try.prog 0 := Jw (by kernel_rfl)
theorem JJD : Try.prog.funcs[16]? = some Try.f16 := by kernel_rfl
theorem JJE : Try.f16.body = some (Try.f16.body.get!) := by kernel_rfl
theorem JJF : Enters Try.prog 16 := enters_of JJD (by kernel_rfl) JJE
def JtJ : Jz
 | [.ar 37 prev, .st 51 [.st 47 [.ro 5 y0 y1 y2, .ar 37 y3], .sc (.int .i64 e_At), .ro 113 y4 y5 e_Op, .ar 37 y6, .ar 37 y7]], [], k => g16 0 prev y0 y1 y2 y3 e_At y4 y5 e_Op y6 y7 k
 | _, _, _ => none
def s16 : Sig := { own := [], run := JtJ }
theorem JJG : Jc tau Try.prog 16 s16 := JO Jn JDN Jo JJD JJE JDO [.ro] 0 [] JtJ (JN6 0) fun xs es k res hr => by
 unfold JtJ at hr
 split at hr
 · exact ⟨rfl, 0, (e16 0 _ _ _ _ _ _ _ _ _ _ _  _).trans hr⟩
 · cases hr
theorem EntRep.free_none {τ : Tab} {im : Im} {ow : Own} {i : Nat} {e : Ent} {w : World} (he : EntRep τ im ow i e w) (hf : e.free = true) {l : Loc} {b : Nat} (hl : ow i = some l) (hb : l.blk = some b) : im b = none := by
 obtain ⟨loc, h1, h2⟩ := he
 obtain rfl : loc = l := Option.some.inj (h1.symm.trans hl)
 cases e with
 | dead => cases hf
 | box fz t v =>
  obtain ⟨k1, k2, b', cells, el, fr, pre, mid, post, q1, q2, q3, q4, q5, q6, q7, q8⟩ := h2
  have : fz = false := by cases fz with | true => cases hf | false => rfl
  obtain rfl : b = b' := Option.some.inj (hb.symm.trans q1)
  exact q8.1 this
 | vec fz t nl els =>
  obtain ⟨k1, k2, k3⟩ := h2
  have : fz = false := by cases fz with | true => cases hf | false => rfl
  rcases k3 with k3 | ⟨_, b', cells, el, fr, pre, mid, post, q1, q2, q3, q4, q5, q6, q7, q8⟩
  · rw [k3.1] at hb; cases hb
  · obtain rfl : b = b' := Option.some.inj (hb.symm.trans q1)
    exact q8.1 this
theorem Jc.dead {τ : Tab} {P : Program} {g : FuncId} {sg : Sig} (h : Jc τ P g sg) :
   Jc τ P g { own := sg.own, run := fun xs es k => sg.run xs es fun r => bif r.news.isEmpty && decide (r.pars.length <= 15) then k ⟨r.val, r.pars, [.dead]⟩ else none } := by
 intro xs es k res hl hrun
 obtain ⟨r, hk, H⟩ := h xs es _ res hl hrun
 obtain ⟨hn, hk'⟩ := Jv hk
 rw [Bool.and_eq_true, decide_eq_true_eq] at hn
 refine ⟨⟨r.val, r.pars, [.dead]⟩, hk', fun im ow w us hx hi => (H im ow w us hx hi).mono fun e w' hp => ?_⟩
 obtain ⟨u, im', ow', h1, h2, G⟩ := hp
 have hn0 : r.news = [] := List.isEmpty_iff.1 hn.1
 rw [hn0] at G
 have e16 : JQ r.pars [] 16 = none := rfl
 have d16 : JQ r.pars [.dead] 16 = some .dead := rfl
 have same : ∀ i, i ≠ 16 -> JQ r.pars [.dead] i = JQ r.pars [] i := by
   intro i hi
   unfold JQ
   by_cases h16 : i < 16
   · rw [if_pos h16, if_pos h16]
   · rw [if_neg h16, if_neg h16]
     obtain ⟨m, hm⟩ : ∃ m, i - 16 = m + 1 := ⟨i - 17, by omega⟩
     rw [hm]; rfl
 have o16 : ow' 16 = none := by
   cases ho : ow' 16 with
   | none => rfl
   | some l =>
     obtain ⟨e, he⟩ := G.inv.dom 16 l ho
     rw [e16] at he; cases he
 let ow2 : Own := Xx ow' 16 ⟨none, 0, .box 0, 0⟩
 have t16 : ow2 16 = some ⟨none, 0, .box 0, 0⟩ := if_pos rfl
 have tne : ∀ i, i ≠ 16 -> ow2 i = ow' i := fun i hi => if_neg hi
 have how : ∀ i l, ow' i = some l -> ow2 i = some l := by
   intro i l hil
   by_cases h16 : i = 16
   · subst h16; rw [o16] at hil; cases hil
   · rw [tne i h16]; exact hil
 have live : ∀ i b, Live (JQ r.pars [.dead]) ow2 i b -> Live (JQ r.pars []) ow' i b := by
   rintro i b ⟨e, l, q1, q2, q3, q4⟩
   by_cases h16 : i = 16
   · subst h16; rw [d16] at q1; obtain rfl := Option.some.inj q1; cases q2
   · exact ⟨e, l, by rw [← same i h16]; exact q1, q2, by rw [← tne i h16]; exact q3, q4⟩
 refine ⟨u, im', ow2, h1, Jf.mono (fun _ _ h => h) how _ _ h2, ⟨G.imX, fun i l hil => how i l (G.owX i l hil), ⟨G.inv.imOk, ?_, ?_, ?_⟩, G.size, G.keep, G.newim, fun i b hb => G.newlive i b (live i b hb), G.rest⟩⟩
 · intro i e he
   by_cases h16 : i = 16
   · subst h16; rw [d16] at he; obtain rfl := Option.some.inj he; exact ⟨_, t16, trivial⟩
   · rw [same i h16] at he
     have q := G.inv.ent i e he
     exact EntRep.keep (fun _ _ h => h) how (fun _ _ _ _ _ => rfl) (fun hf l b hl hb => q.free_none hf hl hb) q
 · intro i j b hi hj
   exact G.inv.inj i j b (live i b hi) (live j b hj)
 · intro i l hil
   by_cases h16 : i = 16
   · subst h16; exact ⟨_, d16⟩
   · rw [tne i h16] at hil
     obtain ⟨e, he⟩ := G.inv.dom i l hil
     exact ⟨e, by rw [same i h16]; exact he⟩
def JJH : Sig := { own := s16.own, run := fun xs es k => s16.run xs es fun r => bif r.news.isEmpty && decide (r.pars.length <= 15) then k ⟨r.val, r.pars, [.dead]⟩ else none }
theorem JJI : Jc tau Try.prog 16 JJH := JJG.dead
def F54 : Fns := Jt 52 JCD (Jt 31 JDJ (Jt 16 JJH (F0)))
theorem JDP : Jq tau Try.prog F54 := (((Js).add JJI JJF).add Jz7 JJz).add JzG JHY
def JDQ : An := (.seq .leaf (.seq .leaf (.seq .leaf (.seq .leaf (.seq .leaf .leaf)))))
abbrev X7 (y2 : List PV) (y3 : List PV) (at1 : Int) (o : List PV) := (JY (EV.mk (List.take (0 + y2.length) y2) y3 at1 (List.take (0 + o.length) o)))
abbrev GV (prev : List PV) (y2 : List PV) (y3 : List PV) (at1 : Int) (o : List PV) := (List.take (0 + (List.take 32 prev).length + (List.take (X7 y2 y3 at1 o).length (pu IntKind.u8 (X7 y2 y3 at1 o))).length) (List.take (0 + (List.take 32 prev).length) (List.take 32 prev) ++ List.take (X7 y2 y3 at1 o).length (pu IntKind.u8 (X7 y2 y3 at1 o))))
abbrev Jip (prev : List PV) (y2 : List PV) (y3 : List PV) (at1 : Int) (o : List PV) := (List.take ((X7 y2 y3 at1 o).length + (List.take 32 (pu IntKind.u8 (JX (JD (GV prev y2 y3 at1 o))))).length) (List.take (X7 y2 y3 at1 o).length (pu IntKind.u8 (X7 y2 y3 at1 o)) ++ List.take 32 (pu IntKind.u8 (JX (JD (GV prev y2 y3 at1 o))))))
def g54 (f : Nat) (k0_z k0_f : Bool) (k0 : List PV) (k1_z k1_f : Bool) (k1 : List PV) (k2_z k2_f : Bool) (k2 : List PV) (host : Int) (prev : List PV) (y0 y1 : Bool) (y2 y3 : List PV) (at1 : Int) (o_z o_f : Bool) (o : List PV) (k : KR) : OR := bif Je (0 + y2.length) 1 && true then bif Je (0 + o.length) 32 && true then bif Je (0 + (List.take 32 prev).length) 1 && true then bif eOk (EV.mk (List.take (0 + y2.length) y2) y3 at1 (List.take (0 + o.length) o)) then bif Je (0 + (List.take 32 prev).length + (List.take (X7 y2 y3 at1 o).length (pu IntKind.u8 (X7 y2 y3 at1 o))).length) 1 && true then bif Jl IntKind.u8 (GV prev y2 y3 at1 o) && decide ((GV prev y2 y3 at1 o).length <= 140737488355000) then bif decide (0 <= host) && decide (host < zi 3) && true then bif PV.isRo 5 (Jr (PV.st 31 [.ro 5 k0_z k0_f k0, .ro 5 k1_z k1_f k1, .ro 5 k2_z k2_f k2]) [host.toNat]) && true then bif eOk (EV.mk (List.take (0 + y2.length) y2) y3 at1 (List.take (0 + o.length) o)) then bif Je ((X7 y2 y3 at1 o).length + (List.take 32 (pu IntKind.u8 (JX (JD (GV prev y2 y3 at1 o))))).length) 1 && true then bif Jl IntKind.u8 (Jr (PV.st 31 [.ro 5 k0_z k0_f k0, .ro 5 k1_z k1_f k1, .ro 5 k2_z k2_f k2]) [host.toNat]).els && decide ((Jr (PV.st 31 [.ro 5 k0_z k0_f k0, .ro 5 k1_z k1_f k1, .ro 5 k2_z k2_f k2]) [host.toNat]).els.length <= 1000000000) && (Jl IntKind.u8 (Jip prev y2 y3 at1 o) && decide ((Jip prev y2 y3 at1 o).length <= 1000000000)) then k (Res.mk (.st 51 [.st 47 [.ro 5 false false (List.take (0 + y2.length) y2), .ar 37 y3], .sc (.int .i64 at1), .ro 113 false false (List.take (0 + o.length) o), .ar 37 (pu IntKind.u8 (JX (JD (GV prev y2 y3 at1 o)))), .ar 37 (pu IntKind.u8 (JfZ (JD (Jr (PV.st 31 [.ro 5 k0_z k0_f k0, .ro 5 k1_z k1_f k1, .ro 5 k2_z k2_f k2]) [host.toNat]).els) (JD (Jip prev y2 y3 at1 o))))]) [] []) else none else none else none else none else none else none else none else none else none else none else none
theorem e54 (f : Nat) (k0_z k0_f : Bool) (k0 : List PV) (k1_z k1_f : Bool) (k1 : List PV) (k2_z k2_f : Bool) (k2 : List PV) (host : Int) (prev : List PV) (y0 y1 : Bool) (y2 y3 : List PV) (at1 : Int) (o_z o_f : Bool) (o : List PV) (k : KR) : JJ tau F54 Try.f54 (Try.f54.body.get!) JDQ [.ro] 0 [.st 31 [.ro 5 k0_z k0_f k0, .ro 5 k1_z k1_f k1, .ro 5 k2_z k2_f k2], .sc (.int .i64 host), .ar 37 prev, .st 47 [.ro 5 y0 y1 y2, .ar 37 y3], .sc (.int .i64 at1), .ro 113 o_z o_f o] [] k = g54 f k0_z k0_f k0 k1_z k1_f k1 k2_z k2_f k2 host prev y0 y1 y2 y3 at1 o_z o_f o k := by kernel_rfl
theorem JN7 (f : Nat) : ∀ q ∈ Jg (Try.f54.body.get!) JDQ, q.Ok tau Try.prog 0 := Jw (by kernel_rfl)
theorem JJJ : Try.prog.funcs[54]? = some Try.f54 := by kernel_rfl
theorem JJK : Try.f54.body = some (Try.f54.body.get!) := by kernel_rfl
theorem JN8 : Enters Try.prog 54 := enters_of JJJ (by kernel_rfl) JJK
def JtK : Jz
 | [.st 31 [.ro 5 k0_z k0_f k0, .ro 5 k1_z k1_f k1, .ro 5 k2_z k2_f k2], .sc (.int .i64 host), .ar 37 prev, .st 47 [.ro 5 y0 y1 y2, .ar 37 y3], .sc (.int .i64 at1), .ro 113 o_z o_f o], [], k => g54 0 k0_z k0_f k0 k1_z k1_f k1 k2_z k2_f k2 host prev y0 y1 y2 y3 at1 o_z o_f o k
 | _, _, _ => none
def s54 : Sig := { own := [], run := JtK }
theorem JN9 : Jc tau Try.prog 54 s54 := JO Jn JDP Jo JJJ JJK JDQ [.ro] 0 [] JtK (JN7 0) fun xs es k res hr => by
 unfold JtK at hr
 split at hr
 · exact ⟨rfl, 0, (e54 0 _ _ _ _ _ _ _ _ _ _ _ _ _ _ _ _ _ _ _  _).trans hr⟩
 · cases hr

structure PA where
 (l : List PV) (b : List PV)
def kOk (l : List PV) : Bool := Jl .u8 l && decide (l.length <= 1000000000)
theorem Jxy {z0 f0 z1 f1 z2 f2 : Bool} {k0 k1 k2 : List PV} (h0 : kOk k0 = true) (h1 : kOk k1 = true) (h2 : kOk k2 = true) (d : Int) : kOk (JhM ⟨[.ro 5 z0 f0 k0, .ro 5 z1 f1 k1, .ro 5 z2 f2 k2], d⟩) = true := by
 rw [JoH]
 show kOk (JjS _ d).els = true
 unfold JjS
 cases h : X0 d 2 with
 | false => rfl
 | true =>
  simp only [X0, Bool.and_eq_true, decide_eq_true_eq] at h
  have : d = 0 ∨ d = 1 ∨ d = 2 := by omega
  rcases this with rfl | rfl | rfl
  · exact h0
  · exact h1
  · exact h2
def kIn : Int -> Bool := hid fun d => X0 d 2
theorem Jfh (d : Int) : kIn d = X0 d 2 := by rw [kIn, hid_eq]
def h32 : List PV -> Bool := hid fun h => Jl .u8 h && decide (h.length = 32)
theorem h32_iff {h : List PV} : h32 h = true ↔ Jl .u8 h = true /\ h.length = 32 := by rw [h32, hid_eq, Bool.and_eq_true, decide_eq_true_eq]
def kO3 : List PV -> Bool := hid fun l => l.all fun p => kOk p.els
theorem Jpq {z0 f0 z1 f1 z2 f2 : Bool} {k0 k1 k2 : List PV} : kO3 [.ro 5 z0 f0 k0, .ro 5 z1 f1 k1, .ro 5 z2 f2 k2] = true ↔ kOk k0 = true /\ kOk k1 = true /\ kOk k2 = true := by
 rw [kO3, hid_eq]; simp [PV.els]
structure MK where
 (l : List PV) (d : Int) (t : List Int)
def mcK : MK -> List Int := hid fun m => JfZ (JD (JhM ⟨m.l, m.d⟩)) m.t
theorem Jm3 (m : MK) : mcK m = JfZ (JD (JhM ⟨m.l, m.d⟩)) m.t := by rw [mcK, hid_eq]
theorem Jm4 (m : MK) : (mcK m).length = 32 := by rw [Jm3]; exact Jkb _ _
structure NX where
 (p : List PV) (e : EV)
def nxP : NX -> List Int := hid fun x => JX (JD x.p ++ JY x.e)
theorem Jfi (x : NX) : nxP x = JX (JD x.p ++ JY x.e) := by rw [nxP, hid_eq]
theorem Zy (x : NX) : (nxP x).length = 32 := by rw [Jfi]; exact Qx _
structure EM where
 (l : List PV) (d : Int) (e : EV) (h : List PV)
def emP : EM -> List Int := hid fun x => mcK ⟨x.l, x.d, JY x.e ++ JD x.h⟩
theorem JDR (x : EM) : emP x = mcK ⟨x.l, x.d, JY x.e ++ JD x.h⟩ := by rw [emP, hid_eq]
structure EC where
 (l : List PV) (d : Int) (e : EV) (h m : List PV)
structure SO where
 (l b m : List PV)
theorem Vv {a b : List PV} (h : Jl .u8 a = true) (h' : Jl .u8 b = true) : Jl .u8 (a ++ b) = true := by
 induction a with
 | nil => exact h'
 | cons p ps ih =>
  have e : ∀ l : List PV, Jl .u8 (p :: l) = (p.isInt .u8 && Jl .u8 l) := fun l => rfl
  rw [e, Bool.and_eq_true] at h
  rw [List.cons_append, e, Bool.and_eq_true]; exact ⟨h.1, ih h.2⟩
theorem JgK (a b : List PV) : JD (a ++ b) = JD a ++ JD b := by simp [JD]
theorem JtL {z0 f0 z1 f1 z2 f2 : Bool} {k0 k1 k2 : List PV} (h : kO3 [.ro 5 z0 f0 k0, .ro 5 z1 f1 k1, .ro 5 z2 f2 k2] = true) {d : Int} (hd : X0 d 2 = true) :
  PV.isRo 5 (Jr (PV.st 31 [.ro 5 z0 f0 k0, .ro 5 z1 f1 k1, .ro 5 z2 f2 k2]) [d.toNat]) = true /\ (Jr (PV.st 31 [.ro 5 z0 f0 k0, .ro 5 z1 f1 k1, .ro 5 z2 f2 k2]) [d.toNat]).els = JhM ⟨[.ro 5 z0 f0 k0, .ro 5 z1 f1 k1, .ro 5 z2 f2 k2], d⟩ := by
 rw [JoH, JjS, hd]
 simp only [X0, Bool.and_eq_true, decide_eq_true_eq] at hd
 have : d = 0 ∨ d = 1 ∨ d = 2 := by omega
 rcases this with rfl | rfl | rfl <;> exact ⟨rfl, rfl⟩
theorem JtM {z0 f0 z1 f1 z2 f2 : Bool} {k0 k1 k2 : List PV} (h : kO3 [.ro 5 z0 f0 k0, .ro 5 z1 f1 k1, .ro 5 z2 f2 k2] = true) (d : Int) : Jl .u8 (JhM ⟨[.ro 5 z0 f0 k0, .ro 5 z1 f1 k1, .ro 5 z2 f2 k2], d⟩) = true /\ (JhM ⟨[.ro 5 z0 f0 k0, .ro 5 z1 f1 k1, .ro 5 z2 f2 k2], d⟩).length <= 1000000000 := by
 obtain ⟨a, b, c⟩ := Jpq.1 h
 have := Jxy (z0 := z0) (f0 := f0) (z1 := z1) (f1 := f1) (z2 := z2) (f2 := f2) a b c d
 rw [kOk, Bool.and_eq_true, decide_eq_true_eq] at this; exact this
theorem JqI {d : DV} (h : dOk d = true) : (dlB d).length <= 65618 := by rw [GI h]; have := (Zj.1 h).2.2.2; omega
theorem Jdd {e : EV} (h : eOk e = true) : (JY e).length <= 131114 := by rw [XF h]; have := Xh.1 h; omega
/-! sign.Delta, ref9.Delta -/
def Jm5 : Jz
 | [.st 31 [.ro 5 z0 f0 k0, .ro 5 z1 f1 k1, .ro 5 z2 f2 k2], .st 53 [.st 42 [.sc (.int .i64 ad), .sc (.int .i64 au)], .sc (.int .i64 id1), .sc (.int .i64 ve), .ar 37 h, .sc (.int .i64 kd), .ro 113 oz of o, .st 42 [.sc (.int .i64 wd), .sc (.int .i64 wu)]]], [], k =>
  bif dOk ⟨ad, au, id1, ve, h, kd, o, wd, wu⟩ && (kO3 [.ro 5 z0 f0 k0, .ro 5 z1 f1 k1, .ro 5 z2 f2 k2] && kIn ad) then
   k ⟨.st 47 [.ro 5 false false (pu .u8 (dlB ⟨ad, au, id1, ve, h, kd, o, wd, wu⟩)), .ar 37 (pu .u8 (mcK ⟨[.ro 5 z0 f0 k0, .ro 5 z1 f1 k1, .ro 5 z2 f2 k2], ad, dlB ⟨ad, au, id1, ve, h, kd, o, wd, wu⟩⟩))], [], []⟩ else none
 | _, _, _ => none
def JJL : Sig := { own := [], run := Jm5 }
theorem JJM : Jc tau Try.prog 55 JJL := JN5.of fun xs es k res hr => by
 change Jm5 xs es k = some res at hr
 unfold Jm5 at hr
 split at hr
 · rename_i z0 f0 k0 z1 f1 k1 z2 f2 k2 ad au id1 ve h kd oz of o wd wu
   obtain ⟨hc, hr⟩ := Jv hr
   simp only [Bool.and_eq_true] at hc
   have hK := JtM hc.2.1 ad
   have hs := JqI hc.1
   have hin := hc.2.2
   rw [Jfh] at hin
   obtain ⟨q1, q2⟩ := JtL hc.2.1 hin
   have htp : ∀ l : List Int, List.take l.length (pu .u8 l) = pu .u8 l := fun l => List.take_of_length_le (by simp)
   simp only [X0, Bool.and_eq_true, decide_eq_true_eq] at hin
   refine Eq.trans ?_ hr
   show g55 0 z0 f0 k0 z1 f1 k1 z2 f2 k2 ad au id1 ve h kd oz of o wd wu k = _
   unfold g55 Jfg
   simp only [q2, htp, JP, WF, JI]
   refine (Ja hc.1).trans ((Ja (by simp [zi]; omega)).trans ((Ja (by rw [q1]; rfl)).trans ((Ja (by rw [hK.1]; simp; omega)).trans ?_)))
   rw [Jm3]
 · cases hr
/-! sign.Open, ref9.Open -/
/-! entries -/
def Jm6 : Jz
 | [.st 31 [.ro 5 z0 f0 k0, .ro 5 z1 f1 k1, .ro 5 z2 f2 k2], .sc (.int .i64 ho), .ar 37 pr, .st 47 [.ro 5 z f b, .ar 37 m], .sc (.int .i64 at1), .ro 113 oz of o], [], k =>
  bif (kIn ho && eOk ⟨b, m, at1, o⟩) && (h32 pr && kO3 [.ro 5 z0 f0 k0, .ro 5 z1 f1 k1, .ro 5 z2 f2 k2]) then
   k ⟨.st 51 [.st 47 [.ro 5 false false b, .ar 37 m], .sc (.int .i64 at1), .ro 113 false false o, .ar 37 (pu .u8 (nxP ⟨pr, ⟨b, m, at1, o⟩⟩)), .ar 37 (pu .u8 (emP ⟨[.ro 5 z0 f0 k0, .ro 5 z1 f1 k1, .ro 5 z2 f2 k2], ho, ⟨b, m, at1, o⟩, pu .u8 (nxP ⟨pr, ⟨b, m, at1, o⟩⟩)⟩))], [], []⟩ else none
 | _, _, _ => none
def JJN : Sig := { own := [], run := Jm6 }
theorem JJO : Jc tau Try.prog 54 JJN := JN9.of fun xs es k res hr => by
 change Jm6 xs es k = some res at hr
 unfold Jm6 at hr
 split at hr
 · rename_i z0 f0 k0 z1 f1 k1 z2 f2 k2 ho pr z f b m at1 oz of o
   obtain ⟨hc, hr⟩ := Jv hr
   simp only [Bool.and_eq_true] at hc
   have hK := JtM hc.2.2 ho
   have hin := hc.1.1
   rw [Jfh] at hin
   obtain ⟨q1, q2⟩ := JtL hc.2.2 hin
   simp only [X0, Bool.and_eq_true, decide_eq_true_eq] at hin
   obtain ⟨p1, p2⟩ := h32_iff.1 hc.2.1
   have hcl := Jdd hc.1.2
   have heo := Xh.1 hc.1.2
   have hbl : b.length <= 65535 := heo.2.1
   have hol : o.length <= 1000 := (JdA.1 heo.2.2.2.2.1).2.2
   have hnl := Zy ⟨pr, ⟨b, m, at1, o⟩⟩
   have htp : List.take 32 pr = pr := List.take_of_length_le (by omega)
   have htc : List.take (JY ⟨b, m, at1, o⟩).length (pu .u8 (JY ⟨b, m, at1, o⟩)) = pu .u8 (JY ⟨b, m, at1, o⟩) := List.take_of_length_le (by simp)
   have htn : List.take (pr.length + (JY ⟨b, m, at1, o⟩).length) (pr ++ pu .u8 (JY ⟨b, m, at1, o⟩)) = pr ++ pu .u8 (JY ⟨b, m, at1, o⟩) := List.take_of_length_le (by simp)
   have hth : List.take 32 (pu .u8 (nxP ⟨pr, ⟨b, m, at1, o⟩⟩)) = pu .u8 (nxP ⟨pr, ⟨b, m, at1, o⟩⟩) := List.take_of_length_le (by rw [JI]; omega)
   have hte : List.take ((JY ⟨b, m, at1, o⟩).length + (nxP ⟨pr, ⟨b, m, at1, o⟩⟩).length) (pu .u8 (JY ⟨b, m, at1, o⟩) ++ pu .u8 (nxP ⟨pr, ⟨b, m, at1, o⟩⟩)) = pu .u8 (JY ⟨b, m, at1, o⟩) ++ pu .u8 (nxP ⟨pr, ⟨b, m, at1, o⟩⟩) := List.take_of_length_le (by simp)
   have hnx : JX (JD pr ++ JY ⟨b, m, at1, o⟩) = nxP ⟨pr, ⟨b, m, at1, o⟩⟩ := by rw [Jfi]
   have hem : JfZ (JD (JhM ⟨[.ro 5 z0 f0 k0, .ro 5 z1 f1 k1, .ro 5 z2 f2 k2], ho⟩)) (JY ⟨b, m, at1, o⟩ ++ nxP ⟨pr, ⟨b, m, at1, o⟩⟩) = emP ⟨[.ro 5 z0 f0 k0, .ro 5 z1 f1 k1, .ro 5 z2 f2 k2], ho, ⟨b, m, at1, o⟩, pu .u8 (nxP ⟨pr, ⟨b, m, at1, o⟩⟩)⟩ := by rw [JDR, Jm3, WF]
   refine Eq.trans ?_ hr
   show g54 0 z0 f0 k0 z1 f1 k1 z2 f2 k2 ho pr z f b m at1 oz of o k = _
   unfold g54 Jip GV X7
   simp only [List.take_length, Nat.zero_add, htp, htc, JI, htn, JgK, WF, hnx, hth, hte, q2, hem]
   refine (Ja (by simp [Je]; omega)).trans ((Ja (by simp [Je]; omega)).trans ((Ja (by simp [Je]; omega)).trans ((Ja hc.1.2).trans ((Ja (by simp [Je]; omega)).trans ((Ja (by rw [Vv p1 (JP _ _)]; simp; omega)).trans ((Ja (by simp [zi]; omega)).trans ((Ja (by rw [q1]; rfl)).trans ((Ja hc.1.2).trans ((Ja (by simp [Je]; omega)).trans ((Ja (by rw [hK.1, Vv (JP _ _) (JP _ _)]; simp; omega)).trans ?_))))))))))
   rfl
 · cases hr
def Jm7 : Jz
 | [.ar 37 pr, .st 51 [.st 47 [.ro 5 z f b, .ar 37 m], .sc (.int .i64 at1), .ro 113 oz of o, .ar 37 h, .ar 37 mc]], [], k =>
  bif h32 pr && eOk ⟨b, m, at1, o⟩ then k ⟨.ar 37 (pu .u8 (nxP ⟨pr, ⟨b, m, at1, o⟩⟩)), [], []⟩ else none
 | _, _, _ => none
def JJP : Sig := { own := [], run := Jm7 }
theorem JJQ : Jc tau Try.prog 16 JJP := JJG.of fun xs es k res hr => by
 change Jm7 xs es k = some res at hr
 unfold Jm7 at hr
 split at hr
 · rename_i pr z f b m at1 oz of o h mc
   obtain ⟨hc, hr⟩ := Jv hr
   rw [Bool.and_eq_true] at hc
   obtain ⟨p1, p2⟩ := h32_iff.1 hc.1
   have hcl := Jdd hc.2
   have htp : List.take 32 pr = pr := List.take_of_length_le (by omega)
   have htc : List.take (JY ⟨b, m, at1, o⟩).length (pu .u8 (JY ⟨b, m, at1, o⟩)) = pu .u8 (JY ⟨b, m, at1, o⟩) := List.take_of_length_le (by simp)
   have htn : List.take (pr.length + (JY ⟨b, m, at1, o⟩).length) (pr ++ pu .u8 (JY ⟨b, m, at1, o⟩)) = pr ++ pu .u8 (JY ⟨b, m, at1, o⟩) := List.take_of_length_le (by simp)
   refine Eq.trans ?_ hr
   show g16 0 pr z f b m at1 oz of o h mc k = _
   unfold g16 Jio
   simp only [List.take_length, Nat.zero_add, htp, htc, JI, htn, JgK, WF]
   refine (Ja (by simp [Je]; omega)).trans ((Ja hc.2).trans ((Ja (by simp [Je]; omega)).trans ((Ja (by rw [Vv p1 (JP _ _)]; simp; omega)).trans ?_)))
   rw [Jfi]
 · cases hr
def JtN : Nat := 25
def JDS : Fns := F0
theorem Jpr : Jq tau Try.prog JDS := Js
def Jiq : Code := Qf (Try.f102.body.get!) [1, 1, 0, 1, 0, 0]
def Jbx : Nm := [(0, .any), (3, .any), (4, .any)]
def Jir : Nm := [(3, .any)]
def Jm8 : An := (.seq (.seq .leaf (.cond .leaf .leaf)) (.seq (.block none (.seq .leaf (.cond .leaf .leaf))) .leaf))
def Jps (r0 : Qw) : An := (.seq .leaf (.seq .leaf (.seq (.seq .leaf (.block none (.sum Jbx JtN r0))) (.seq .leaf .leaf))))
abbrev Jpt := Bool -> Bool -> List PV -> Int -> Int -> OR
abbrev Ys (v2 : List PV) (v4 : Int) := (PV.isSt 113 #[Field.mk "Kind" 3 0 false "" "" 0, Field.mk "N" 3 1 false "" "" 8, Field.mk "S" 9 2 false "" "" 16].size (v2.getD v4.toNat PV.top) && (PV.isInt IntKind.i64 (PV.child 0 (v2.getD v4.toNat PV.top)) && (PV.isInt IntKind.i64 (PV.child (0 + 1) (v2.getD v4.toNat PV.top)) && ((PV.child (0 + 1 + 1) (v2.getD v4.toNat PV.top)).isStr && true))))
def Vw (f : Nat) (rc : Jpt) (k0 : Int -> OR) (v0 v1 : Bool) (v2 : List PV) (v3 v4 : Int) : OR := bif decide (v4 < zi v2.length) then bif decide (0 <= v4) && decide (v4 < zi v2.length) && (Ys v2 v4) && true then bif (PV.child 0 (v2.getD v4.toNat PV.top)).int != 2 then bif decide (0 <= v4) && decide (v4 < zi v2.length) && (Ys v2 v4) && true then rc v0 v1 v2 (IntKind.i64.wrap (v3 + (PV.child (0 + 1) (v2.getD v4.toNat PV.top)).int)) (IntKind.i64.wrap (v4 + 1)) else none else rc v0 v1 v2 v3 (IntKind.i64.wrap (v4 + 1)) else none else k0 v3
def Zz (f : Nat) (k0 : Int -> OR) : Nat -> Jpt
 | 0 => fun _ _ _ _ _ => none
 | n + 1 => Vw f (Zz f k0 n) k0
def VW (k : Kont) := fun x0 => k (Ex.exit 0) (Jj Jir JtN [.sc (.int .i64 x0)] [])
def Jis (f : Nat) (k : Kont) (n : Nat) (v0 v1 : Bool) (v2 : List PV) (v3 v4 : Int) : OR := Jy tau 0 Jbx (fun s k => ev tau JDS 0 0 Jiq (Jm8 ) s k) n (Jj Jbx JtN [.ro 113 v0 v1 v2, .sc (.int .i64 v3), .sc (.int .i64 v4)] []) (JG tau 0 Jir k)
theorem JtO (f : Nat) (k : Kont) (n : Nat) : Jis f k (n + 1) = Vw f (Jis f k n) (VW k) := by kernel_rfl
theorem Jkc (f : Nat) (k : Kont) : ∀ n, Jis f k n = Zz f (VW k) n
 | 0 => rfl
 | n + 1 => (JtO f k n).trans (congrArg (fun r => Vw f r (VW k)) (Jkc f k n))
def GW (f : Nat) : List PV -> List (Nat × Ent) -> Kont -> OR
 | [.ro 113 v0 v1 v2, .sc (.int .i64 v3),
 .sc (.int .i64 v4)], [], k => Zz f (VW k) f v0 v1 v2 v3 v4
 | _, _, _ => none
theorem Jxz (f : Nat) : Jg Jiq Jm8 = [] := by kernel_rfl
theorem JxA (f : Nat) : (Item.l Jiq Jbx JtN (GW f)).Ok tau Try.prog 0 := Ju Jn Jpr Jo (x := Jm8) (nm2 := Jir) (Jk _ _ (by rw [Jxz f]; intro q hq; cases hq)) fun vs hp k res hr => by
 unfold GW at hr
 split at hr
 · rw [← Jkc f] at hr; exact ⟨f, 0, hr⟩
 · cases hr
def JJR (f : Nat) (o_z o_f : Bool) (o : List PV) (k : KR) : OR := Zz f (fun x0_0 => k (Res.mk (.sc (.int .i64 x0_0)) [] [])) f o_z o_f o (0) (0)
theorem JOa (f : Nat) (o_z o_f : Bool) (o : List PV) (k : KR) : JJ tau JDS Try.f102 (Try.f102.body.get!) (Jps (GW f)) [.ro] 0 [.ro 113 o_z o_f o] [] k = JJR f o_z o_f o k := by kernel_rfl
theorem JJS (f : Nat) : Jg (Try.f102.body.get!) (Jps (GW f)) = [.l Jiq Jbx JtN (GW f)] := by kernel_rfl
theorem JJT (f : Nat) : ∀ q ∈ Jg (Try.f102.body.get!) (Jps (GW f)), q.Ok tau Try.prog 0 := by rw [JJS f]; exact JL (JxA f) (fun _ h => nomatch h)
theorem Jz8 : Try.prog.funcs[102]? = some Try.f102 := by kernel_rfl
theorem Jz9 : Try.f102.body = some (Try.f102.body.get!) := by kernel_rfl
theorem JJU : Enters Try.prog 102 := enters_of Jz8 (by kernel_rfl) Jz9
def JtP : Nat := 33
def JDT : Fns := F0
theorem Jpu : Jq tau Try.prog JDT := Js
def Jit : Code := Qf (Try.f103.body.get!) [1, 1, 0, 1, 0, 0]
def Jby : Nm := [(0, .any), (3, .any), (4, .any)]
def Jiu : Nm := [(3, .any)]
def Jm9 : An := (.seq (.seq .leaf (.cond .leaf .leaf)) (.seq (.block none (.seq (.seq .leaf (.cond .leaf .leaf)) .leaf)) .leaf))
def Jpv (r0 : Qw) : An := (.seq .leaf (.seq .leaf (.seq (.seq .leaf (.block none (.sum Jby JtP r0))) (.seq .leaf .leaf))))
abbrev Jpw := Bool -> Bool -> List PV -> Int -> Int -> OR
abbrev Wr (v2 : List PV) (v4 : Int) := (PV.isSt 113 #[Field.mk "Kind" 3 0 false "" "" 0, Field.mk "N" 3 1 false "" "" 8, Field.mk "S" 9 2 false "" "" 16].size (v2.getD v4.toNat PV.top) && (PV.isInt IntKind.i64 (PV.child 0 (v2.getD v4.toNat PV.top)) && (PV.isInt IntKind.i64 (PV.child (0 + 1) (v2.getD v4.toNat PV.top)) && ((PV.child (0 + 1 + 1) (v2.getD v4.toNat PV.top)).isStr && true))))
def Vx (f : Nat) (rc : Jpw) (k0 : Int -> OR) (v0 v1 : Bool) (v2 : List PV) (v3 v4 : Int) : OR := bif decide (v4 < zi v2.length) then bif decide (0 <= v4) && decide (v4 < zi v2.length) && (Wr v2 v4) && true then bif (PV.child 0 (v2.getD v4.toNat PV.top)).int == 1 then bif decide (0 <= v4) && decide (v4 < zi v2.length) && (Wr v2 v4) && true then bif decide (0 <= v4) && decide (v4 < zi v2.length) && (Wr v2 v4) && true then rc v0 v1 v2 (IntKind.i64.wrap (IntKind.i64.wrap (v3 + (PV.child (0 + 1) (v2.getD v4.toNat PV.top)).int) + zi (PV.child (0 + 1 + 1) (v2.getD v4.toNat PV.top)).str.size)) (IntKind.i64.wrap (v4 + 1)) else none else none else bif decide (0 <= v4) && decide (v4 < zi v2.length) && (Wr v2 v4) && true then rc v0 v1 v2 (IntKind.i64.wrap (v3 + zi (PV.child (0 + 1 + 1) (v2.getD v4.toNat PV.top)).str.size)) (IntKind.i64.wrap (v4 + 1)) else none else none else k0 v3
def ZA (f : Nat) (k0 : Int -> OR) : Nat -> Jpw
 | 0 => fun _ _ _ _ _ => none
 | n + 1 => Vx f (ZA f k0 n) k0
def VX (k : Kont) := fun x0 => k (Ex.exit 0) (Jj Jiu JtP [.sc (.int .i64 x0)] [])
def Jiv (f : Nat) (k : Kont) (n : Nat) (v0 v1 : Bool) (v2 : List PV) (v3 v4 : Int) : OR := Jy tau 0 Jby (fun s k => ev tau JDT 0 0 Jit (Jm9 ) s k) n (Jj Jby JtP [.ro 113 v0 v1 v2, .sc (.int .i64 v3), .sc (.int .i64 v4)] []) (JG tau 0 Jiu k)
theorem JtQ (f : Nat) (k : Kont) (n : Nat) : Jiv f k (n + 1) = Vx f (Jiv f k n) (VX k) := by kernel_rfl
theorem Jkd (f : Nat) (k : Kont) : ∀ n, Jiv f k n = ZA f (VX k) n
 | 0 => rfl
 | n + 1 => (JtQ f k n).trans (congrArg (fun r => Vx f r (VX k)) (Jkd f k n))
def GX (f : Nat) : List PV -> List (Nat × Ent) -> Kont -> OR
 | [.ro 113 v0 v1 v2, .sc (.int .i64 v3),
 .sc (.int .i64 v4)], [], k => ZA f (VX k) f v0 v1 v2 v3 v4
 | _, _, _ => none
theorem JxB (f : Nat) : Jg Jit Jm9 = [] := by kernel_rfl
theorem JxC (f : Nat) : (Item.l Jit Jby JtP (GX f)).Ok tau Try.prog 0 := Ju Jn Jpu Jo (x := Jm9) (nm2 := Jiu) (Jk _ _ (by rw [JxB f]; intro q hq; cases hq)) fun vs hp k res hr => by
 unfold GX at hr
 split at hr
 · rw [← Jkd f] at hr; exact ⟨f, 0, hr⟩
 · cases hr
def JJV (f : Nat) (o_z o_f : Bool) (o : List PV) (k : KR) : OR := ZA f (fun x0_0 => k (Res.mk (.sc (.int .i64 x0_0)) [] [])) f o_z o_f o (0) (0)
theorem JOb (f : Nat) (o_z o_f : Bool) (o : List PV) (k : KR) : JJ tau JDT Try.f103 (Try.f103.body.get!) (Jpv (GX f)) [.ro] 0 [.ro 113 o_z o_f o] [] k = JJV f o_z o_f o k := by kernel_rfl
theorem JJW (f : Nat) : Jg (Try.f103.body.get!) (Jpv (GX f)) = [.l Jit Jby JtP (GX f)] := by kernel_rfl
theorem JJX (f : Nat) : ∀ q ∈ Jg (Try.f103.body.get!) (Jpv (GX f)), q.Ok tau Try.prog 0 := by rw [JJW f]; exact JL (JxC f) (fun _ h => nomatch h)
theorem JAa : Try.prog.funcs[103]? = some Try.f103 := by kernel_rfl
theorem JAb : Try.f103.body = some (Try.f103.body.get!) := by kernel_rfl
theorem JJY : Enters Try.prog 103 := enters_of JAa (by kernel_rfl) JAb

def okW : Int -> Bool := hid fun n => decide (0 < n) && decide (n < 1000000000000)
theorem GY (n : Int) : okW n = (decide (0 < n) && decide (n < 1000000000000)) := by rw [okW, hid_eq]
end
end Go.Proofs.Ythpmachmnoljeaa.Rx
