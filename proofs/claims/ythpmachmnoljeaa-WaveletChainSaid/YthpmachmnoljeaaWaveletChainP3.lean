/- What the functions of this law compute, and their plain laws. Conditions: none. -/
import Derived.KernelRfl
import Derived.Test.YthpmachmnoljeaaWaveletChainP2
namespace Go.Proofs.Ythpmachmnoljeaa.Rx
noncomputable section
open Go
set_option linter.unusedVariables false
set_option linter.unusedSimpArgs false
set_option maxRecDepth 100000
set_option maxHeartbeats 0
def cpN (s : RS) : RS := Qe (Jb 8 (Jb 1 s))
def cpV (s : RS) : PV := .st 113 [.sc (.int .i64 (Jz 1 s)), .sc (.int .i64 (Jz 8 (Jb 1 s))), .sc (.string (JU (Jb 8 (Jb 1 s))))]
def cpR : Nat -> RS -> RS
 | 0, s => s
 | n + 1, s => cpR n (cpN s)
def cpL : Nat -> RS -> List PV
 | 0, _ => []
 | n + 1, s => cpV s :: cpL n (cpN s)
theorem GJ : ∀ (n : Nat) (s : RS), (cpL n s).length = n
 | 0, _ => rfl
 | n + 1, s => by rw [cpL, List.length_cons, GJ n]
theorem JsV : ∀ (n : Nat) (s : RS), (cpL n s).all isCp = true
 | 0, _ => rfl
 | n + 1, s => by rw [cpL, List.all_cons, JsV n, Bool.and_true]; exact Jjr.2 ⟨_, _, _, rfl⟩
theorem JwH {s : RS} (h : byB s.b = true) : byB (cpN s).b = true := Joo (Ql (Ql h 1) 8)
def opN (b : List PV) : Nat := bif decide (Jz 1 ⟨b, 0⟩ > 40) then 0 else (Jz 1 ⟨b, 0⟩).toNat
def opS (b : List PV) : RS := bif decide (Jz 1 ⟨b, 0⟩ > 40) then Z5 4 (Jb 1 ⟨b, 0⟩) else Jb 1 ⟨b, 0⟩
def Zl (b : List PV) : Int := bif (cpR (opN b) (opS b)).e == 0 then (bif decide ((cpR (opN b) (opS b)).b.length > 0) then 9 else ckO (cpL (opN b) (opS b))) else (cpR (opN b) (opS b)).e
def opE : List PV -> Int := hid Zl
def opL : List PV -> List PV := hid fun b => bif Zl b == 0 then cpL (opN b) (opS b) else []
def opF : List PV -> Bool := hid fun b => !(Zl b == 0)
theorem JeU (b : List PV) : opE b = Zl b := by rw [opE, hid_eq]
theorem JeV (b : List PV) : opL b = bif Zl b == 0 then cpL (opN b) (opS b) else [] := by rw [opL, hid_eq]
theorem Jmt (b : List PV) : opF b = !(Zl b == 0) := by rw [opF, hid_eq]
def WP (e : Int) : PV := .tup [.ro 113 true true [], .sc (.int .i64 e)]
def opP (b : List PV) : PV := .tup [.ro 113 (opL b).isEmpty (opL b).isEmpty (opL b), .sc (.int .i64 (opE b))]
def opQ (b : List PV) : PV := .tup [.ro 113 (opL b).isEmpty (opF b) (opL b), .sc (.int .i64 (opE b))]
theorem Jh2 {b : List PV} {e : Int} (h : Zl b = e) (h0 : (e == 0) = false) : opP b = WP e := by
 simp only [opP, WP, JeV, JeU, h, h0, cond_false, List.isEmpty_nil]
theorem Jh3 {b : List PV} {e : Int} (h : Zl b = e) (h0 : (e == 0) = false) : opQ b = WP e := by
 simp only [opQ, WP, JeV, JeU, Jmt, h, h0, cond_false, List.isEmpty_nil, Bool.not_false]
theorem JCQ {b : List PV} (h : Zl b = 0) : opP b = .tup [.ro 113 (cpL (opN b) (opS b)).isEmpty (cpL (opN b) (opS b)).isEmpty (cpL (opN b) (opS b)), .sc (.int .i64 0)] := by
 simp only [opP, JeV, JeU, h, beq_self_eq_true, cond_true]
theorem JCR {b : List PV} (h : Zl b = 0) : opQ b = .tup [.ro 113 (cpL (opN b) (opS b)).isEmpty false (cpL (opN b) (opS b)), .sc (.int .i64 0)] := by
 simp only [opQ, JeV, JeU, Jmt, h, beq_self_eq_true, cond_true, Bool.not_true]
theorem Jmu {b : List PV} (h : byB b = true) : opN b <= 40 := by
 unfold opN
 have h0 : 0 <= Jz 1 ⟨b, 0⟩ := by rw [Zd]; exact (XW (s := ⟨b, 0⟩) h (n := 1) (by omega)).1
 cases hc : decide (Jz 1 ⟨b, 0⟩ > 40) with
 | true => exact Nat.zero_le _
 | false =>
  have : ¬ Jz 1 ⟨b, 0⟩ > 40 := by simpa using hc
  rw [cond_false]; omega
theorem JwI {b : List PV} (h : byB b = true) : byB (opS b).b = true := by
 have := Ql (s := ⟨b, 0⟩) h 1
 unfold opS Z5
 cases decide (Jz 1 ⟨b, 0⟩ > 40) <;> exact this
theorem Jh4 {n : Nat} (h : n <= 40) (s : RS) : cOk (cpL n s) = true := Yi.2 ⟨JsV n s, by rw [GJ]; omega⟩
theorem Jzm (f : Nat) (k0 : Nat -> Bool -> Bool -> List PV -> Int -> Bool -> List PV -> OR) (z fl : Bool) (hz : (!z || fl) = true) (N : Nat) (hN : N <= 40) : ∀ (d i n : Nat) (s : RS) (nl : Bool) (L : List PV), i + d = N -> d < n -> byB s.b = true -> L.length = i ->
  YB f k0 n L.length (N : Int) (i : Int) z fl s.b s.e nl L = k0 (L ++ cpL d s).length z fl (cpR d s).b (cpR d s).e (nl && (cpL d s).isEmpty) (L ++ cpL d s)
 | 0, i, n + 1, s, nl, L, h, hn, hb, hL => by
   obtain rfl : i = N := by omega
   simp only [YB, Jbd, cpR, cpL, List.append_nil, List.isEmpty_nil, Bool.and_true]
   exact Jd (by simp)
 | d + 1, i, n + 1, s, nl, L, h, hn, hb, hL => by
   have w := wI (i := i) (by omega)
   have hm : RS.mk s.b s.e = s := rfl
   have hn1 : Qe (Jb 8 (Jb 1 s)) = cpN s := rfl
   have hv1 : PV.st 113 [.sc (.int .i64 (Jz 1 s)), .sc (.int .i64 (Jz 8 (Jb 1 s))), .sc (.string (JU (Jb 8 (Jb 1 s))))] = cpV s := rfl
   simp only [YB, Jbd, w, hm, hn1, hv1, List.take_length]
   refine (Ja (by simp; omega)).trans ((Ja (by rw [hb, hz]; rfl)).trans ((Ja (by rw [Ql hb 1, hz]; rfl)).trans ((Ja (by rw [Ql (Ql hb 1) 8, hz]; rfl)).trans ((Ja (by simp [Je]; omega)).trans ?_))))
   have := Jzm f k0 z fl hz N hN d (i + 1) n (cpN s) (nl && false) (L ++ [cpV s]) (by omega) (by omega) (JwH hb) (by simp [hL])
   rw [List.length_append] at this
   refine Eq.trans this ?_
   simp only [cpR, cpL, Bool.and_false, Bool.false_and, List.isEmpty_cons, List.append_assoc, List.cons_append, List.nil_append]
theorem JCS (z f : Bool) (b : List PV) (hz : slB z b = true) (hb : byB b = true) (k : KR) :
  g84 50 z f b k = k ⟨opP b, [], []⟩ := by
 have hE : Zl b = Zl b := rfl
 conv at hE => rhs; unfold Zl
 have hN := Jmu hb
 have hS := JwI hb
 have key : ∀ (N : Nat) (s : RS) (K : Nat -> Bool -> Bool -> List PV -> Int -> Bool -> List PV -> OR), opN b = N -> opS b = s ->
   (∀ (e : Int) (x1 x2 : Bool), Zl b = (bif (cpR N s).e == 0 then (bif decide ((cpR N s).b.length > 0) then 9 else ckO (cpL N s)) else (cpR N s).e) -> K (cpL N s).length x1 x2 (cpR N s).b (cpR N s).e (true && (cpL N s).isEmpty) ([] ++ cpL N s) = k ⟨opP b, [], []⟩) ->
   YB 50 K 50 0 (N : Int) 0 z z s.b s.e true [] = k ⟨opP b, [], []⟩ := by
  intro N s K h1 h2 h3
  subst h1; subst h2
  refine (Jzm 50 K z z (by cases z <;> rfl) (opN b) hN (opN b) 0 50 (opS b) true [] (by omega) (by omega) hS rfl).trans ?_
  exact h3 0 z z hE
 have fin : ∀ (N : Nat) (s : RS), opN b = N -> opS b = s -> Zl b = (bif (cpR N s).e == 0 then (bif decide ((cpR N s).b.length > 0) then 9 else ckO (cpL N s)) else (cpR N s).e) ->
   (bif (cpR N s).e == 0 then
    bif decide (zi (cpR N s).b.length > 0) then k ⟨WP 9, [], []⟩
    else bif (cpR N s).e == 0 then
     bif cOk (List.take (cpL N s).length ([] ++ cpL N s)) then
      bif ckO (List.take (cpL N s).length ([] ++ cpL N s)) != 0 then k ⟨WP (ckO (List.take (cpL N s).length ([] ++ cpL N s))), [], []⟩
      else bif (Ent.vec false 113 (true && (cpL N s).isEmpty) ([] ++ cpL N s)).nil then k ⟨WP 0, [], []⟩
      else bif Je (0 + (List.take (cpL N s).length ([] ++ cpL N s)).length) 32 && true then k ⟨.tup [.ro 113 false false (List.take (0 + (List.take (cpL N s).length ([] ++ cpL N s)).length) (List.take (cpL N s).length ([] ++ cpL N s))), .sc (.int .i64 0)], [], []⟩ else none
     else none
    else bif (cpR N s).e != 0 then k ⟨WP (cpR N s).e, [], []⟩
    else bif (Ent.vec false 113 (true && (cpL N s).isEmpty) ([] ++ cpL N s)).nil then k ⟨WP 0, [], []⟩
      else bif Je (0 + (List.take (cpL N s).length ([] ++ cpL N s)).length) 32 && true then k ⟨.tup [.ro 113 false false (List.take (0 + (List.take (cpL N s).length ([] ++ cpL N s)).length) (List.take (cpL N s).length ([] ++ cpL N s))), .sc (.int .i64 0)], [], []⟩ else none
   else bif (cpR N s).e == 0 then
     bif cOk (List.take (cpL N s).length ([] ++ cpL N s)) then
      bif ckO (List.take (cpL N s).length ([] ++ cpL N s)) != 0 then k ⟨WP (ckO (List.take (cpL N s).length ([] ++ cpL N s))), [], []⟩
      else bif (Ent.vec false 113 (true && (cpL N s).isEmpty) ([] ++ cpL N s)).nil then k ⟨WP 0, [], []⟩
      else bif Je (0 + (List.take (cpL N s).length ([] ++ cpL N s)).length) 32 && true then k ⟨.tup [.ro 113 false false (List.take (0 + (List.take (cpL N s).length ([] ++ cpL N s)).length) (List.take (cpL N s).length ([] ++ cpL N s))), .sc (.int .i64 0)], [], []⟩ else none
     else none
    else bif (cpR N s).e != 0 then k ⟨WP (cpR N s).e, [], []⟩
    else bif (Ent.vec false 113 (true && (cpL N s).isEmpty) ([] ++ cpL N s)).nil then k ⟨WP 0, [], []⟩
      else bif Je (0 + (List.take (cpL N s).length ([] ++ cpL N s)).length) 32 && true then k ⟨.tup [.ro 113 false false (List.take (0 + (List.take (cpL N s).length ([] ++ cpL N s)).length) (List.take (cpL N s).length ([] ++ cpL N s))), .sc (.int .i64 0)], [], []⟩ else none) = k ⟨opP b, [], []⟩ := by
  intro N s h1 h2 h3
  have hco : cOk (cpL N s) = true := Jh4 (by omega) s
  have hnl : (Ent.vec false 113 (cpL N s).isEmpty (cpL N s)).nil = (cpL N s).isEmpty := by simp [Ent.nil]
  have hlen : (cpL N s).length <= 40 := by rw [GJ]; omega
  have hz9 : decide (zi (cpR N s).b.length > 0) = decide ((cpR N s).b.length > 0) := by apply decide_eq_decide.2; simp only [zi]; omega
  simp only [List.nil_append, List.take_length, Bool.true_and, Nat.zero_add, hco, hnl, hz9, cond_true]
  cases he : ((cpR N s).e == 0) with
  | false =>
   rw [he, cond_false] at h3
   rw [Jh2 h3 he]
   simp only [cond_false]
   exact Ja (by rw [bne, he]; rfl)
  | true =>
   rw [he, cond_true] at h3
   cases h9 : decide ((cpR N s).b.length > 0) with
   | true =>
    rw [h9, cond_true] at h3
    rw [Jh2 h3 (by decide)]
    rfl
   | false =>
    rw [h9, cond_false] at h3
    simp only [cond_true, cond_false]
    cases hc : (ckO (cpL N s) == 0) with
    | false =>
     rw [Jh2 h3 hc]
     exact Ja (by rw [bne, hc]; rfl)
    | true =>
     have hc' : ckO (cpL N s) = 0 := by simpa using hc
     rw [hc'] at h3
     rw [JCQ h3, h1, h2]
     refine (Jd (by rw [bne, hc]; rfl)).trans ?_
     cases hl : cpL N s with
     | nil => rfl
     | cons p ps =>
      rw [hl] at hlen
      refine (Jd rfl).trans ((Ja (by simp [Je] at hlen ⊢; omega)).trans rfl)
 unfold g84 Jh0 W5
 refine (Ja hz).trans ((Ja (by rw [hb]; cases z <;> rfl)).trans ?_)
 have h0 : 0 <= Jz 1 ⟨b, 0⟩ := by rw [Zd]; exact (XW (s := ⟨b, 0⟩) hb (n := 1) (by omega)).1
 cases h4 : decide (Jz 1 ⟨b, 0⟩ > 40) with
 | true =>
  have hN0 : opN b = 0 := by unfold opN; rw [h4]; rfl
  have hS0 : opS b = Z5 4 (Jb 1 ⟨b, 0⟩) := by unfold opS; rw [h4]; rfl
  rw [cond_true]
  cases he : ((Jb 1 ⟨b, 0⟩).e == 0) with
  | true =>
   rw [cond_true]
   have hs : opS b = ⟨(Jb 1 ⟨b, 0⟩).b, 4⟩ := by rw [hS0]; unfold Z5; rw [he]; rfl
   exact key 0 ⟨(Jb 1 ⟨b, 0⟩).b, 4⟩ _ hN0 hs fun _ _ _ h => fin 0 _ hN0 hs h
  | false =>
   rw [cond_false]
   have hs : opS b = ⟨(Jb 1 ⟨b, 0⟩).b, (Jb 1 ⟨b, 0⟩).e⟩ := by rw [hS0]; unfold Z5; rw [he]; rfl
   exact key 0 ⟨(Jb 1 ⟨b, 0⟩).b, (Jb 1 ⟨b, 0⟩).e⟩ _ hN0 hs fun _ _ _ h => fin 0 _ hN0 hs h
 | false =>
  have hN0 : opN b = (Jz 1 ⟨b, 0⟩).toNat := by unfold opN; rw [h4]; rfl
  have hS0 : opS b = Jb 1 ⟨b, 0⟩ := by unfold opS; rw [h4]; rfl
  rw [cond_false]
  have q := fun K hK => key (Jz 1 ⟨b, 0⟩).toNat (Jb 1 ⟨b, 0⟩) K hN0 hS0 hK
  rw [Int.toNat_of_nonneg h0] at q
  exact q _ fun _ _ _ h => fin _ _ hN0 hS0 h
def Jmv : JA
 | [.ro 5 z f b], [], k => bif slB z b && byB b then k ⟨opP b, [], []⟩ else none
 | _, _, _ => none
def JIv : Sig := { own := [], run := Jmv }
theorem JIw : Jc tau Try.prog 84 JIv := Jc.mk' fun xs es k res hl hr => by
 change Jmv xs es k = some res at hr
 unfold Jmv at hr
 split at hr
 · rename_i z f b
   obtain ⟨hc, hr⟩ := Jw hr
   rw [Bool.and_eq_true] at hc
   have hg := (JCS z f b hc.1 hc.2 k).trans hr
   exact J6 Jn JsP Jo JIh JIi (JwD (JeR 50)) [.ro, .ro] 0 0 (JMW 50) hl rfl ((e84 50 z f b k).trans hg)
 · cases hr
/-! The document's. -/
theorem JwJ {s : RS} (h : s.e ≠ 0) : cpN s = s := by
 unfold cpN; rw [XV, XV, JaD h, JaD h, Jdo]; unfold Jjt; rw [JaD h 2, JaD h]
theorem JoN : ∀ (n : Nat) {s : RS}, s.e ≠ 0 -> cpR n s = s
 | 0, _, _ => rfl
 | n + 1, s, h => by show cpR n (cpN s) = s; rw [JwJ h, JoN n h]
theorem JsW (f : Nat) (k0 : Nat -> Bool -> Bool -> List PV -> Int -> Int -> Bool -> List PV -> OR) (n : Nat) {N i : Int} {z fl : Bool} {B : List PV} {P e : Int} (he : (e == 0) = false) {m : Nat} {nl : Bool} {L : List PV} :
  X3 f k0 (n + 1) N m i z fl B P e nl L = k0 m z fl B P e nl L := by
 simp only [X3, VQ, he, cond_false]
 cases decide (i < N) <;> rfl
theorem Jzn (f : Nat) (k0 : Nat -> Bool -> Bool -> List PV -> Int -> Int -> Bool -> List PV -> OR) (R : OR) {z fl : Bool} (N : Nat) (hN : N <= 40) :
  ∀ (d i n : Nat) (t : RT) (nl : Bool) (L : List PV), i + d = N -> d < n -> okT t = true -> L.length <= i ->
  (∀ (t' : RT) (nl' : Bool) (L' : List PV), okT t' = true -> t'.view = cpR d t.view -> L'.length <= 40 -> (t'.view.e = 0 -> L' = L ++ cpL d t.view /\ nl' = (nl && (cpL d t.view).isEmpty)) -> k0 L'.length z fl t'.B t'.P t'.e nl' L' = R) ->
  X3 f k0 n (N : Int) L.length (i : Int) z fl t.B t.P t.e nl L = R
 | 0, i, n + 1, t, nl, L, h, hn, ht, hL, hk => by
   simp only [X3, VQ]
   exact (Jd (by simp; omega)).trans (hk t nl L ht rfl (by omega) fun _ => by simp [cpL])
 | d + 1, i, n + 1, t, nl, L, h, hn, ht, hL, hk => by
   cases he : (t.e == 0) with
   | false =>
    have he' : t.view.e ≠ 0 := by simpa [RT.view] using he
    rw [JsW f k0 n he]
    exact hk t nl L ht (JoN _ he').symm (by omega) fun h0 => absurd h0 he'
   | true =>
    have w := wI (i := i) (by omega)
    have hm : RT.mk t.B t.P t.e = t := rfl
    have o1 := QF ht 1
    have o2 := QF o1 8
    have hview : (QZ (Jh 8 (Jh 1 t))).view = cpN t.view := by simp only [Jge, Qn, cpN]
    have hv1 : PV.st 113 [.sc (.int .i64 (Qm 1 t)), .sc (.int .i64 (Qm 8 (Jh 1 t))), .sc (.string (XX (Jh 8 (Jh 1 t))))] = cpV t.view := by simp only [WF, Jgf, Qn, cpV]
    simp only [X3, VQ, w, hm, List.take_length, he]
    refine (Ja (by simp; omega)).trans ((Ja rfl).trans ((Ja ht).trans ((Ja o1).trans ((Ja o2).trans ((Ja (by simp [Je]; omega)).trans ?_)))))
    rw [hv1]
    have := Jzn f k0 R (z := z) (fl := fl) N hN d (i + 1) n (QZ (Jh 8 (Jh 1 t))) (nl && false) (L ++ [cpV t.view]) (by omega) (by omega) (Jjw o2) (by simp; omega) fun t' nl' L' h1 h2 h3 h4 => hk t' nl' L' h1 (by rw [h2, hview]; rfl) h3 fun h0 => by
     obtain ⟨q1, q2⟩ := h4 h0
     rw [hview] at q1 q2
     exact ⟨by rw [q1]; simp [cpL], by rw [q2]; simp [cpL]⟩
    rw [List.length_append] at this
    exact this
theorem JCT (z f : Bool) (b : List PV) (hb : byB b = true) (hlen : b.length <= 1000000000) (k : KR) :
  g49 50 z f b k = k ⟨opQ b, [], []⟩ := by
 have hE : Zl b = Zl b := rfl
 conv at hE => rhs; unfold Zl
 have hN := Jmu hb
 have hok0 : okT (RT.mk b 0 0) = true := by simp [okT, hb]; omega
 have hv0 : (RT.mk b 0 0).view = RS.mk b 0 := rfl
 have fin : ∀ (t' : RT) (nl' : Bool) (L' : List PV), okT t' = true -> t'.view = cpR (opN b) (opS b) -> L'.length <= 40 -> (t'.view.e = 0 -> L' = cpL (opN b) (opS b) /\ nl' = (cpL (opN b) (opS b)).isEmpty) ->
   (bif t'.e == 0 then
     bif decide (t'.P < zi t'.B.length) then k ⟨WP 9, [], []⟩
     else bif t'.e == 0 then
      bif cOk (List.take L'.length L') then
       bif ckO (List.take L'.length L') != 0 then k ⟨WP (ckO (List.take L'.length L')), [], []⟩
       else k ⟨.tup [.ro 113 (Ent.vec false 113 nl' L').nil false (List.take L'.length L'), .sc (.int .i64 0)], [], []⟩
      else none
     else bif t'.e != 0 then k ⟨WP t'.e, [], []⟩
     else k ⟨.tup [.ro 113 (Ent.vec false 113 nl' L').nil false (List.take L'.length L'), .sc (.int .i64 0)], [], []⟩
   else bif t'.e == 0 then
      bif cOk (List.take L'.length L') then
       bif ckO (List.take L'.length L') != 0 then k ⟨WP (ckO (List.take L'.length L')), [], []⟩
       else k ⟨.tup [.ro 113 (Ent.vec false 113 nl' L').nil false (List.take L'.length L'), .sc (.int .i64 0)], [], []⟩
      else none
     else bif t'.e != 0 then k ⟨WP t'.e, [], []⟩
     else k ⟨.tup [.ro 113 (Ent.vec false 113 nl' L').nil false (List.take L'.length L'), .sc (.int .i64 0)], [], []⟩) = k ⟨opQ b, [], []⟩ := by
  intro t' nl' L' ht hV hL hq
  have hve : t'.e = (cpR (opN b) (opS b)).e := by rw [← hV]; rfl
  have hvP : decide (t'.P < zi t'.B.length) = decide ((cpR (opN b) (opS b)).b.length > 0) := by
   rw [← hV]
   show decide _ = decide ((List.drop _ _).length > 0)
   rw [List.length_drop]
   simp only [okT, Bool.and_eq_true, decide_eq_true_eq] at ht
   apply decide_eq_decide.2
   simp only [zi]; omega
  simp only [hvP, List.take_length]
  cases he : (t'.e == 0) with
  | false =>
   have he2 : ((cpR (opN b) (opS b)).e == 0) = false := by rw [← hve]; exact he
   rw [he2, cond_false, ← hve] at hE
   rw [Jh3 hE he]
   simp only [cond_false]
   exact Ja (by rw [bne, he]; rfl)
  | true =>
   have he2 : ((cpR (opN b) (opS b)).e == 0) = true := by rw [← hve]; exact he
   rw [he2, cond_true] at hE
   cases h9 : decide ((cpR (opN b) (opS b)).b.length > 0) with
   | true =>
     rw [h9, cond_true] at hE
     rw [Jh3 hE (by decide)]
     rfl
   | false =>
     rw [h9, cond_false] at hE
     obtain ⟨w1, w2⟩ := hq (by have := he; rw [beq_iff_eq] at this; exact this)
     simp only [cond_true, cond_false]
     rw [w1, w2]
     have hco : cOk (cpL (opN b) (opS b)) = true := Jh4 hN _
     have hnl : (Ent.vec false 113 (cpL (opN b) (opS b)).isEmpty (cpL (opN b) (opS b))).nil = (cpL (opN b) (opS b)).isEmpty := by simp [Ent.nil]
     refine (Ja hco).trans ?_
     cases hc : (ckO (cpL (opN b) (opS b)) == 0) with
     | false =>
      rw [Jh3 hE hc]
      exact Ja (by rw [bne, hc]; rfl)
     | true =>
      have hc' : ckO (cpL (opN b) (opS b)) = 0 := by simpa using hc
      rw [hc'] at hE
      rw [JCR hE, hnl]
      exact (Jd (by rw [bne, hc]; rfl))
 unfold g49 Jh1
 refine (Ja hok0).trans ?_
 have hn : Qm 1 (RT.mk b 0 0) = Jz 1 ⟨b, 0⟩ := by rw [WF, hv0]
 have hvs : (Jh 1 (RT.mk b 0 0)).view = Jb 1 ⟨b, 0⟩ := by rw [Qn, hv0]
 have hos : okT (Jh 1 (RT.mk b 0 0)) = true := QF hok0 1
 generalize hst : Jh 1 (RT.mk b 0 0) = st at *
 have hse : st.e = (Jb 1 ⟨b, 0⟩).e := by rw [← hvs]; rfl
 rw [hn]
 have h0 : 0 <= Jz 1 ⟨b, 0⟩ := by rw [Zd]; exact (XW (s := ⟨b, 0⟩) hb (n := 1) (by omega)).1
 cases h4 : decide (Jz 1 ⟨b, 0⟩ > 40) with
 | true =>
  have hN0 : opN b = 0 := by unfold opN; rw [h4]; rfl
  have hS0 : opS b = Z5 4 (Jb 1 ⟨b, 0⟩) := by unfold opS; rw [h4]; rfl
  rw [cond_true]
  cases he : (st.e == 0) with
  | true =>
   rw [cond_true]
   refine (JsW 50 _ 49 (by decide)).trans ?_
   refine fin ⟨st.B, st.P, 4⟩ true [] hos ?_ (by decide) fun h => ?_
   · rw [hN0, hS0, ← hvs]
     show RS.mk _ _ = Z5 4 st.view
     unfold Z5
     rw [show (st.view.e == 0) = true from he]; rfl
   · have h' : (4 : Int) = 0 := h
     exact absurd h' (by decide)
  | false =>
   rw [cond_false]
   refine (JsW 50 _ 49 he).trans ?_
   refine fin st true [] hos ?_ (by decide) fun h => ?_
   · rw [hN0, hS0, ← hvs]
     show st.view = Z5 4 st.view
     unfold Z5
     rw [show (st.view.e == 0) = false from he]; rfl
   · have h' : st.e = 0 := h
     rw [h'] at he; exact absurd he (by decide)
 | false =>
  have hN0 : opN b = (Jz 1 ⟨b, 0⟩).toNat := by unfold opN; rw [h4]; rfl
  have hS0 : opS b = Jb 1 ⟨b, 0⟩ := by unfold opS; rw [h4]; rfl
  rw [cond_false]
  have hcn : Jz 1 ⟨b, 0⟩ = ((opN b : Nat) : Int) := by rw [hN0]; exact (Int.toNat_of_nonneg h0).symm
  rw [hcn]
  refine Jzn 50 _ _ (opN b) hN (opN b) 0 50 st true [] (by omega) (by omega) hos (by decide) fun t' nl' L' q1 q2 q3 q4 => ?_
  have hVt : st.view = opS b := by rw [hS0, hvs]
  rw [hVt] at q2 q4
  exact fin t' nl' L' q1 q2 q3 fun h => by
   obtain ⟨w1, w2⟩ := q4 h
   exact ⟨by rw [w1, List.nil_append], by rw [w2, Bool.true_and]⟩
def Jmw : JA
 | [.ro 5 z f b], [], k => bif byB b && Nat.ble b.length 1000000000 then k ⟨opQ b, [], []⟩ else none
 | _, _, _ => none
def JIx : Sig := { own := [], run := Jmw }
theorem JIy : Jc tau Try.prog 49 JIx := Jc.mk' fun xs es k res hl hr => by
 change Jmw xs es k = some res at hr
 unfold Jmw at hr
 split at hr
 · rename_i z f b
   obtain ⟨hc, hr⟩ := Jw hr
   rw [Bool.and_eq_true, Nat.ble_eq] at hc
   have hg := (JCT z f b hc.1 hc.2 k).trans hr
   exact J6 Jn JsT Jo JIt JIu (JwF (JeT 50)) [.ro, .ro] 0 0 (JM4 50) hl rfl ((e49 50 z f b k).trans hg)
 · cases hr
def N37 : Nat := 62
def F37 : Fns := Js 85 JHy (Js 84 JIv (Js 83 JAW (Js 82 s82 (Js 81 s81 (Js 67 s67 (Js 65 s65 (F0)))))))
theorem JsX : Jq tau Try.prog F37 := (((((((Jt).add JH6 JH5).add JIa JH9).add JFE JFD).add JFI JFH).add Jyw JFL).add JIw JMX).add JHz JLB
def JoO : Code := Qj (Try.f37.body.get!) [1, 1, 1, 0, 1, 0, 0]
def JeW : Nm := [(2, .any), (4, .any), (5, .any), (21, .any)]
def Jmx : Nm := [(2, .any), (4, .any), (5, .any)]
def JsY : An := (.seq .leaf (.seq (.cond .leaf .leaf) (.seq (.block none (.seq .leaf .leaf)) .leaf)))
def JwK (r0 : Qz) : An := (.seq .leaf (.seq .leaf (.seq .leaf (.seq (.seq .leaf (.block none (.sum JeW N37 r0))) (.seq .leaf (.seq .leaf (.seq .leaf (.seq .leaf (.seq (.seq .leaf (.cond .leaf .leaf)) (.seq (.seq .leaf (.cond .leaf .leaf)) (.seq (.seq .leaf (.cond (.seq .leaf .leaf) .leaf)) (.seq .leaf .leaf))))))))))))
abbrev JsZ := Int -> Int -> Int -> Int -> Int -> List PV -> Int -> List PV -> Int -> Int -> Bool -> Bool -> List PV -> Int -> Int -> Int -> Int -> Int -> List PV -> Int -> List PV -> Int -> Int -> OR
def Jbf (f : Nat) (rc : JsZ) (k0 : Int -> Int -> Int -> Int -> List PV -> Int -> List PV -> Int -> Int -> Bool -> Bool -> List PV -> Int -> Int -> Int -> Int -> Int -> List PV -> Int -> List PV -> Int -> Int -> OR) (v0 v1 v2 v3 v4 : Int) (v5 : List PV) (v6 : Int) (v7 : List PV) (v8 v9 : Int) (v10 v11 : Bool) (v12 : List PV) (v13 v14 v15 v16 v17 : Int) (v18 : List PV) (v19 : Int) (v20 : List PV) (v21 v22 : Int) : OR := bif decide (v0 < 32) then bif (!v10 || v11) && true && byB v12 then bif decide (0 <= v0) && decide (v0 < zi 32) && true then rc (IntKind.i64.wrap (v0 + 1)) v1 v2 v3 v4 v5 v6 v7 v8 v9 v10 v11 ((Jb 1 (RS.mk v12 v13)).b) ((Jb 1 (RS.mk v12 v13)).e) v14 v15 v16 v17 (v18.set v0.toNat (.sc (.int .u8 (IntKind.u8.wrap (Jz 1 (RS.mk v12 v13)))))) v19 v20 v21 v22 else none else none else k0 v1 v2 v3 v4 v5 v6 v7 v8 v9 v10 v11 v12 v13 v14 v15 v16 v17 v18 v19 v20 v21 v22
def GK (f : Nat) (k0 : Int -> Int -> Int -> Int -> List PV -> Int -> List PV -> Int -> Int -> Bool -> Bool -> List PV -> Int -> Int -> Int -> Int -> Int -> List PV -> Int -> List PV -> Int -> Int -> OR) : Nat -> JsZ
 | 0 => fun _ _ _ _ _ _ _ _ _ _ _ _ _ _ _ _ _ _ _ _ _ _ _ => none
 | n + 1 => Jbf f (GK f k0 n) k0
def Jbg (k : Kont) := fun x0 x1 x2 x3 x4 x5 x6 x7 x8 x9 x10 x11 x12 x13 x14 x15 x16 x17 x18 x19 x20 x21 => k (Ex.exit 0) (Jj Jmx N37 [.ptr 1008 [], .ptr 1009 [], .ptr 1010 []] [(1008, .box false 53 (PV.st 53 [.st 42 [.sc (.int .i64 x0), .sc (.int .i64 x1)], .sc (.int .i64 x2), .sc (.int .i64 x3), .ar 37 x4, .sc (.int .i64 x5), .ro 113 true true x6, .st 42 [.sc (.int .i64 x7), .sc (.int .i64 x8)]])), (1009, .box false 166 (PV.st 166 [.ro 5 x9 x10 x11, .sc (.int .i64 x12)])), (1010, .box false 53 (PV.st 53 [.st 42 [.sc (.int .i64 x13), .sc (.int .i64 x14)], .sc (.int .i64 x15), .sc (.int .i64 x16), .ar 37 x17, .sc (.int .i64 x18), .ro 113 true true x19, .st 42 [.sc (.int .i64 x20), .sc (.int .i64 x21)]]))])
def Jmy (f : Nat) (k : Kont) (n : Nat) (v0 v1 v2 v3 v4 : Int) (v5 : List PV) (v6 : Int) (v7 : List PV) (v8 v9 : Int) (v10 v11 : Bool) (v12 : List PV) (v13 v14 v15 v16 v17 : Int) (v18 : List PV) (v19 : Int) (v20 : List PV) (v21 v22 : Int) : OR := Jy tau 0 JeW (fun s k => ev tau F37 0 0 JoO (JsY ) s k) n (Jj JeW N37 [.ptr 1008 [], .ptr 1009 [], .ptr 1010 [], .sc (.int .i64 v0)] [(1008, .box false 53 (PV.st 53 [.st 42 [.sc (.int .i64 v1), .sc (.int .i64 v2)], .sc (.int .i64 v3), .sc (.int .i64 v4), .ar 37 v5, .sc (.int .i64 v6), .ro 113 true true v7, .st 42 [.sc (.int .i64 v8), .sc (.int .i64 v9)]])), (1009, .box false 166 (PV.st 166 [.ro 5 v10 v11 v12, .sc (.int .i64 v13)])), (1010, .box false 53 (PV.st 53 [.st 42 [.sc (.int .i64 v14), .sc (.int .i64 v15)], .sc (.int .i64 v16), .sc (.int .i64 v17), .ar 37 v18, .sc (.int .i64 v19), .ro 113 true true v20, .st 42 [.sc (.int .i64 v21), .sc (.int .i64 v22)]]))]) (JI tau 0 Jmx k)
theorem JwL (f : Nat) (k : Kont) (n : Nat) : Jmy f k (n + 1) = Jbf f (Jmy f k n) (Jbg k) := by kernel_rfl
theorem JoP (f : Nat) (k : Kont) : ∀ n, Jmy f k n = GK f (Jbg k) n
 | 0 => rfl
 | n + 1 => (JwL f k n).trans (congrArg (fun r => Jbf f r (Jbg k)) (JoP f k n))
def JeX (f : Nat) : List PV -> List (Nat × Ent) -> Kont -> OR
 | [.ptr 1008 [], .ptr 1009 [], .ptr 1010 [],
 PV.sc
  (Value.int IntKind.i64
   v0)], [(1008,
  Ent.box false 53
   (PV.st 53
    [.st 42 [.sc (.int .i64 v1), .sc (.int .i64 v2)], .sc (.int .i64 v3), .sc (.int .i64 v4), .ar 37 v5,
     .sc (.int .i64 v6), .ro 113 true true v7, .st 42 [.sc (.int .i64 v8), .sc (.int .i64 v9)]])),
 (1009, .box false 166 (PV.st 166 [.ro 5 v10 v11 v12, .sc (.int .i64 v13)])),
 (1010,
  Ent.box false 53
   (PV.st 53
    [.st 42 [.sc (.int .i64 v14), .sc (.int .i64 v15)], .sc (.int .i64 v16), .sc (.int .i64 v17), .ar 37 v18,
     .sc (.int .i64 v19), .ro 113 true true v20,
     PV.st 42
      [.sc (.int .i64 v21),
       PV.sc
        (Value.int IntKind.i64
         v22)]]))], k => GK f (Jbg k) f v0 v1 v2 v3 v4 v5 v6 v7 v8 v9 v10 v11 v12 v13 v14 v15 v16 v17 v18 v19 v20 v21 v22
 | _, _, _ => none
theorem JCU (f : Nat) : Jg JoO JsY = [] := by kernel_rfl
theorem JCV (f : Nat) : (Item.l JoO JeW N37 (JeX f)).Ok tau Try.prog 0 := Ju Jn JsX Jo (x := JsY) (nm2 := Jmx) (Jk _ _ (by rw [JCU f]; intro q hq; cases hq)) fun vs hp k res hr => by
 unfold JeX at hr
 split at hr
 · rw [← JoP f] at hr; exact ⟨f, 0, hr⟩
 · cases hr
abbrev Xr := Jcb
abbrev JeY (b : List PV) := (Jb 8 (Jb 8 (Jb 8 (RS.mk b 0))))
def g37 (f : Nat) (b_z b_f : Bool) (b : List PV) (k : KR) : OR := bif slB b_z b then bif (!b_z || b_z) && true && byB b then bif (!b_z || b_z) && true && byB (Jb 8 (RS.mk b 0)).b then bif (!b_z || b_z) && true && byB (Jb 8 (Jb 8 (RS.mk b 0))).b then bif (!b_z || b_z) && true && byB (JeY b).b then GK f (fun _ _ _ _ _ _ _ _ _ x9_0 x10_0 Jp x12_0 Wr x14_0 x15_0 x16_0 x17_0 _ x19_0 _ _ => bif (!x9_0 || x10_0) && true && byB Jp then bif (!x9_0 || x10_0) && byB (Jb 1 (RS.mk Jp x12_0)).b then bif (!x9_0 || x10_0) && true && byB (Qe (Jb 1 (RS.mk Jp x12_0))).b then bif (!x9_0 || x10_0) && true && byB (Jb 8 (Qe (Jb 1 (RS.mk Jp x12_0)))).b then bif (Jb 8 (Jb 8 (Qe (Jb 1 (RS.mk Jp x12_0))))).e == 0 then bif decide (zi (Jb 8 (Jb 8 (Qe (Jb 1 (RS.mk Jp x12_0))))).b.length > 0) then k (Res.mk (.tup [.st 53 [.st 42 [.sc (.int .i64 0), .sc (.int .i64 0)], .sc (.int .i64 0), .sc (.int .i64 0), .ar 37 Xr, .sc (.int .i64 0), .ro 113 true true [], .st 42 [.sc (.int .i64 0), .sc (.int .i64 0)]], .sc (.int .i64 9)]) [] []) else bif (Jb 8 (Jb 8 (Qe (Jb 1 (RS.mk Jp x12_0))))).e == 0 then bif Je (JU (Jb 1 (RS.mk Jp x12_0))).size 1 && true then bif slB (Ent.vec false 5 false (Ji (JU (Jb 1 (RS.mk Jp x12_0))))).nil (List.take (JU (Jb 1 (RS.mk Jp x12_0))).size (List.drop 0 (Ji (JU (Jb 1 (RS.mk Jp x12_0)))))) && byB (List.take (JU (Jb 1 (RS.mk Jp x12_0))).size (Ji (JU (Jb 1 (RS.mk Jp x12_0))))) then bif opE (List.take (JU (Jb 1 (RS.mk Jp x12_0))).size (Ji (JU (Jb 1 (RS.mk Jp x12_0))))) == 0 then bif cOk (opL (List.take (JU (Jb 1 (RS.mk Jp x12_0))).size (Ji (JU (Jb 1 (RS.mk Jp x12_0)))))) then bif dCk (DV.mk Wr x14_0 x15_0 x16_0 x17_0 (Jz 1 (RS.mk Jp x12_0)) (opL (List.take (JU (Jb 1 (RS.mk Jp x12_0))).size (Ji (JU (Jb 1 (RS.mk Jp x12_0)))))) (Jz 8 (Qe (Jb 1 (RS.mk Jp x12_0)))) (Jz 8 (Jb 8 (Qe (Jb 1 (RS.mk Jp x12_0)))))) != 0 then k (Res.mk (.tup [.st 53 [.st 42 [.sc (.int .i64 0), .sc (.int .i64 0)], .sc (.int .i64 0), .sc (.int .i64 0), .ar 37 Xr, .sc (.int .i64 0), .ro 113 true true [], .st 42 [.sc (.int .i64 0), .sc (.int .i64 0)]], .sc (.int .i64 (dCk (DV.mk Wr x14_0 x15_0 x16_0 x17_0 (Jz 1 (RS.mk Jp x12_0)) (opL (List.take (JU (Jb 1 (RS.mk Jp x12_0))).size (Ji (JU (Jb 1 (RS.mk Jp x12_0)))))) (Jz 8 (Qe (Jb 1 (RS.mk Jp x12_0)))) (Jz 8 (Jb 8 (Qe (Jb 1 (RS.mk Jp x12_0))))))))]) [] []) else k (Res.mk (.tup [.st 53 [.st 42 [.sc (.int .i64 Wr), .sc (.int .i64 x14_0)], .sc (.int .i64 x15_0), .sc (.int .i64 x16_0), .ar 37 x17_0, .sc (.int .i64 (Jz 1 (RS.mk Jp x12_0))), .ro 113 (opL (List.take (JU (Jb 1 (RS.mk Jp x12_0))).size (Ji (JU (Jb 1 (RS.mk Jp x12_0)))))).isEmpty (opL (List.take (JU (Jb 1 (RS.mk Jp x12_0))).size (Ji (JU (Jb 1 (RS.mk Jp x12_0)))))).isEmpty (opL (List.take (JU (Jb 1 (RS.mk Jp x12_0))).size (Ji (JU (Jb 1 (RS.mk Jp x12_0)))))), .st 42 [.sc (.int .i64 (Jz 8 (Qe (Jb 1 (RS.mk Jp x12_0))))), .sc (.int .i64 (Jz 8 (Jb 8 (Qe (Jb 1 (RS.mk Jp x12_0))))))]], .sc (.int .i64 0)]) [] []) else none else bif opE (List.take (JU (Jb 1 (RS.mk Jp x12_0))).size (Ji (JU (Jb 1 (RS.mk Jp x12_0))))) != 0 then k (Res.mk (.tup [.st 53 [.st 42 [.sc (.int .i64 0), .sc (.int .i64 0)], .sc (.int .i64 0), .sc (.int .i64 0), .ar 37 Xr, .sc (.int .i64 0), .ro 113 true true [], .st 42 [.sc (.int .i64 0), .sc (.int .i64 0)]], .sc (.int .i64 (opE (List.take (JU (Jb 1 (RS.mk Jp x12_0))).size (Ji (JU (Jb 1 (RS.mk Jp x12_0)))))))]) [] []) else k (Res.mk (.tup [.st 53 [.st 42 [.sc (.int .i64 Wr), .sc (.int .i64 x14_0)], .sc (.int .i64 x15_0), .sc (.int .i64 x16_0), .ar 37 x17_0, .sc (.int .i64 (Jz 1 (RS.mk Jp x12_0))), .ro 113 (opL (List.take (JU (Jb 1 (RS.mk Jp x12_0))).size (Ji (JU (Jb 1 (RS.mk Jp x12_0)))))).isEmpty (opL (List.take (JU (Jb 1 (RS.mk Jp x12_0))).size (Ji (JU (Jb 1 (RS.mk Jp x12_0)))))).isEmpty (opL (List.take (JU (Jb 1 (RS.mk Jp x12_0))).size (Ji (JU (Jb 1 (RS.mk Jp x12_0)))))), .st 42 [.sc (.int .i64 (Jz 8 (Qe (Jb 1 (RS.mk Jp x12_0))))), .sc (.int .i64 (Jz 8 (Jb 8 (Qe (Jb 1 (RS.mk Jp x12_0))))))]], .sc (.int .i64 0)]) [] []) else none else none else bif (Jb 8 (Jb 8 (Qe (Jb 1 (RS.mk Jp x12_0))))).e == 0 then bif cOk x19_0 then bif dCk (DV.mk Wr x14_0 x15_0 x16_0 x17_0 (Jz 1 (RS.mk Jp x12_0)) x19_0 (Jz 8 (Qe (Jb 1 (RS.mk Jp x12_0)))) (Jz 8 (Jb 8 (Qe (Jb 1 (RS.mk Jp x12_0)))))) != 0 then k (Res.mk (.tup [.st 53 [.st 42 [.sc (.int .i64 0), .sc (.int .i64 0)], .sc (.int .i64 0), .sc (.int .i64 0), .ar 37 Xr, .sc (.int .i64 0), .ro 113 true true [], .st 42 [.sc (.int .i64 0), .sc (.int .i64 0)]], .sc (.int .i64 (dCk (DV.mk Wr x14_0 x15_0 x16_0 x17_0 (Jz 1 (RS.mk Jp x12_0)) x19_0 (Jz 8 (Qe (Jb 1 (RS.mk Jp x12_0)))) (Jz 8 (Jb 8 (Qe (Jb 1 (RS.mk Jp x12_0))))))))]) [] []) else k (Res.mk (.tup [.st 53 [.st 42 [.sc (.int .i64 Wr), .sc (.int .i64 x14_0)], .sc (.int .i64 x15_0), .sc (.int .i64 x16_0), .ar 37 x17_0, .sc (.int .i64 (Jz 1 (RS.mk Jp x12_0))), .ro 113 true true x19_0, .st 42 [.sc (.int .i64 (Jz 8 (Qe (Jb 1 (RS.mk Jp x12_0))))), .sc (.int .i64 (Jz 8 (Jb 8 (Qe (Jb 1 (RS.mk Jp x12_0))))))]], .sc (.int .i64 0)]) [] []) else none else bif (Jb 8 (Jb 8 (Qe (Jb 1 (RS.mk Jp x12_0))))).e != 0 then k (Res.mk (.tup [.st 53 [.st 42 [.sc (.int .i64 0), .sc (.int .i64 0)], .sc (.int .i64 0), .sc (.int .i64 0), .ar 37 Xr, .sc (.int .i64 0), .ro 113 true true [], .st 42 [.sc (.int .i64 0), .sc (.int .i64 0)]], .sc (.int .i64 (Jb 8 (Jb 8 (Qe (Jb 1 (RS.mk Jp x12_0))))).e)]) [] []) else k (Res.mk (.tup [.st 53 [.st 42 [.sc (.int .i64 Wr), .sc (.int .i64 x14_0)], .sc (.int .i64 x15_0), .sc (.int .i64 x16_0), .ar 37 x17_0, .sc (.int .i64 (Jz 1 (RS.mk Jp x12_0))), .ro 113 true true x19_0, .st 42 [.sc (.int .i64 (Jz 8 (Qe (Jb 1 (RS.mk Jp x12_0))))), .sc (.int .i64 (Jz 8 (Jb 8 (Qe (Jb 1 (RS.mk Jp x12_0))))))]], .sc (.int .i64 0)]) [] []) else bif (Jb 8 (Jb 8 (Qe (Jb 1 (RS.mk Jp x12_0))))).e == 0 then bif Je (JU (Jb 1 (RS.mk Jp x12_0))).size 1 && true then bif slB (Ent.vec false 5 false (Ji (JU (Jb 1 (RS.mk Jp x12_0))))).nil (List.take (JU (Jb 1 (RS.mk Jp x12_0))).size (List.drop 0 (Ji (JU (Jb 1 (RS.mk Jp x12_0)))))) && byB (List.take (JU (Jb 1 (RS.mk Jp x12_0))).size (Ji (JU (Jb 1 (RS.mk Jp x12_0))))) then bif opE (List.take (JU (Jb 1 (RS.mk Jp x12_0))).size (Ji (JU (Jb 1 (RS.mk Jp x12_0))))) == 0 then bif cOk (opL (List.take (JU (Jb 1 (RS.mk Jp x12_0))).size (Ji (JU (Jb 1 (RS.mk Jp x12_0)))))) then bif dCk (DV.mk Wr x14_0 x15_0 x16_0 x17_0 (Jz 1 (RS.mk Jp x12_0)) (opL (List.take (JU (Jb 1 (RS.mk Jp x12_0))).size (Ji (JU (Jb 1 (RS.mk Jp x12_0)))))) (Jz 8 (Qe (Jb 1 (RS.mk Jp x12_0)))) (Jz 8 (Jb 8 (Qe (Jb 1 (RS.mk Jp x12_0)))))) != 0 then k (Res.mk (.tup [.st 53 [.st 42 [.sc (.int .i64 0), .sc (.int .i64 0)], .sc (.int .i64 0), .sc (.int .i64 0), .ar 37 Xr, .sc (.int .i64 0), .ro 113 true true [], .st 42 [.sc (.int .i64 0), .sc (.int .i64 0)]], .sc (.int .i64 (dCk (DV.mk Wr x14_0 x15_0 x16_0 x17_0 (Jz 1 (RS.mk Jp x12_0)) (opL (List.take (JU (Jb 1 (RS.mk Jp x12_0))).size (Ji (JU (Jb 1 (RS.mk Jp x12_0)))))) (Jz 8 (Qe (Jb 1 (RS.mk Jp x12_0)))) (Jz 8 (Jb 8 (Qe (Jb 1 (RS.mk Jp x12_0))))))))]) [] []) else k (Res.mk (.tup [.st 53 [.st 42 [.sc (.int .i64 Wr), .sc (.int .i64 x14_0)], .sc (.int .i64 x15_0), .sc (.int .i64 x16_0), .ar 37 x17_0, .sc (.int .i64 (Jz 1 (RS.mk Jp x12_0))), .ro 113 (opL (List.take (JU (Jb 1 (RS.mk Jp x12_0))).size (Ji (JU (Jb 1 (RS.mk Jp x12_0)))))).isEmpty (opL (List.take (JU (Jb 1 (RS.mk Jp x12_0))).size (Ji (JU (Jb 1 (RS.mk Jp x12_0)))))).isEmpty (opL (List.take (JU (Jb 1 (RS.mk Jp x12_0))).size (Ji (JU (Jb 1 (RS.mk Jp x12_0)))))), .st 42 [.sc (.int .i64 (Jz 8 (Qe (Jb 1 (RS.mk Jp x12_0))))), .sc (.int .i64 (Jz 8 (Jb 8 (Qe (Jb 1 (RS.mk Jp x12_0))))))]], .sc (.int .i64 0)]) [] []) else none else bif opE (List.take (JU (Jb 1 (RS.mk Jp x12_0))).size (Ji (JU (Jb 1 (RS.mk Jp x12_0))))) != 0 then k (Res.mk (.tup [.st 53 [.st 42 [.sc (.int .i64 0), .sc (.int .i64 0)], .sc (.int .i64 0), .sc (.int .i64 0), .ar 37 Xr, .sc (.int .i64 0), .ro 113 true true [], .st 42 [.sc (.int .i64 0), .sc (.int .i64 0)]], .sc (.int .i64 (opE (List.take (JU (Jb 1 (RS.mk Jp x12_0))).size (Ji (JU (Jb 1 (RS.mk Jp x12_0)))))))]) [] []) else k (Res.mk (.tup [.st 53 [.st 42 [.sc (.int .i64 Wr), .sc (.int .i64 x14_0)], .sc (.int .i64 x15_0), .sc (.int .i64 x16_0), .ar 37 x17_0, .sc (.int .i64 (Jz 1 (RS.mk Jp x12_0))), .ro 113 (opL (List.take (JU (Jb 1 (RS.mk Jp x12_0))).size (Ji (JU (Jb 1 (RS.mk Jp x12_0)))))).isEmpty (opL (List.take (JU (Jb 1 (RS.mk Jp x12_0))).size (Ji (JU (Jb 1 (RS.mk Jp x12_0)))))).isEmpty (opL (List.take (JU (Jb 1 (RS.mk Jp x12_0))).size (Ji (JU (Jb 1 (RS.mk Jp x12_0)))))), .st 42 [.sc (.int .i64 (Jz 8 (Qe (Jb 1 (RS.mk Jp x12_0))))), .sc (.int .i64 (Jz 8 (Jb 8 (Qe (Jb 1 (RS.mk Jp x12_0))))))]], .sc (.int .i64 0)]) [] []) else none else none else bif (Jb 8 (Jb 8 (Qe (Jb 1 (RS.mk Jp x12_0))))).e == 0 then bif cOk x19_0 then bif dCk (DV.mk Wr x14_0 x15_0 x16_0 x17_0 (Jz 1 (RS.mk Jp x12_0)) x19_0 (Jz 8 (Qe (Jb 1 (RS.mk Jp x12_0)))) (Jz 8 (Jb 8 (Qe (Jb 1 (RS.mk Jp x12_0)))))) != 0 then k (Res.mk (.tup [.st 53 [.st 42 [.sc (.int .i64 0), .sc (.int .i64 0)], .sc (.int .i64 0), .sc (.int .i64 0), .ar 37 Xr, .sc (.int .i64 0), .ro 113 true true [], .st 42 [.sc (.int .i64 0), .sc (.int .i64 0)]], .sc (.int .i64 (dCk (DV.mk Wr x14_0 x15_0 x16_0 x17_0 (Jz 1 (RS.mk Jp x12_0)) x19_0 (Jz 8 (Qe (Jb 1 (RS.mk Jp x12_0)))) (Jz 8 (Jb 8 (Qe (Jb 1 (RS.mk Jp x12_0))))))))]) [] []) else k (Res.mk (.tup [.st 53 [.st 42 [.sc (.int .i64 Wr), .sc (.int .i64 x14_0)], .sc (.int .i64 x15_0), .sc (.int .i64 x16_0), .ar 37 x17_0, .sc (.int .i64 (Jz 1 (RS.mk Jp x12_0))), .ro 113 true true x19_0, .st 42 [.sc (.int .i64 (Jz 8 (Qe (Jb 1 (RS.mk Jp x12_0))))), .sc (.int .i64 (Jz 8 (Jb 8 (Qe (Jb 1 (RS.mk Jp x12_0))))))]], .sc (.int .i64 0)]) [] []) else none else bif (Jb 8 (Jb 8 (Qe (Jb 1 (RS.mk Jp x12_0))))).e != 0 then k (Res.mk (.tup [.st 53 [.st 42 [.sc (.int .i64 0), .sc (.int .i64 0)], .sc (.int .i64 0), .sc (.int .i64 0), .ar 37 Xr, .sc (.int .i64 0), .ro 113 true true [], .st 42 [.sc (.int .i64 0), .sc (.int .i64 0)]], .sc (.int .i64 (Jb 8 (Jb 8 (Qe (Jb 1 (RS.mk Jp x12_0))))).e)]) [] []) else k (Res.mk (.tup [.st 53 [.st 42 [.sc (.int .i64 Wr), .sc (.int .i64 x14_0)], .sc (.int .i64 x15_0), .sc (.int .i64 x16_0), .ar 37 x17_0, .sc (.int .i64 (Jz 1 (RS.mk Jp x12_0))), .ro 113 true true x19_0, .st 42 [.sc (.int .i64 (Jz 8 (Qe (Jb 1 (RS.mk Jp x12_0))))), .sc (.int .i64 (Jz 8 (Jb 8 (Qe (Jb 1 (RS.mk Jp x12_0))))))]], .sc (.int .i64 0)]) [] []) else none else none else none else none) f (0) (0) (0) (0) (0) (Xr) (0) ([]) (0) (0) b_z b_z ((Jb 8 (JeY b)).b) ((Jb 8 (JeY b)).e) (Jz 8 (RS.mk b 0)) (Jz 8 (Jb 8 (RS.mk b 0))) (Jz 8 (Jb 8 (Jb 8 (RS.mk b 0)))) (Jz 8 (JeY b)) (Xr) (0) ([]) (0) (0) else none else none else none else none else none
theorem e37 (f : Nat) (b_z b_f : Bool) (b : List PV) (k : KR) : JK tau F37 Try.f37 (Try.f37.body.get!) (JwK (JeX f)) [.ro, .ro] 0 [.ro 5 b_z b_f b] [] k = g37 f b_z b_f b k := by kernel_rfl
theorem JM6 (f : Nat) : Jg (Try.f37.body.get!) (JwK (JeX f)) = [.l JoO JeW N37 (JeX f)] := by kernel_rfl
theorem JM7 (f : Nat) : ∀ q ∈ Jg (Try.f37.body.get!) (JwK (JeX f)), q.Ok tau Try.prog 0 := by rw [JM6 f]; exact JL (JCV f) (fun _ h => nomatch h)
theorem JIz : Try.prog.funcs[37]? = some Try.f37 := by kernel_rfl
theorem JIA : Try.f37.body = some (Try.f37.body.get!) := by kernel_rfl
theorem JM8 : Enters Try.prog 37 := enters_of JIz (by kernel_rfl) JIA
def F43 : Fns := Js 44 JvM (F0)
theorem JCW : Jq tau Try.prog F43 := (Jt).add JrN JA5
def JCX : An := (.seq .leaf (.seq .leaf (.seq .leaf (.seq .leaf .leaf))))
def g43 (f : Nat) (y0 y1 : Bool) (r_B : List PV) (r_P y2 : Int) (k : KR) : OR := bif okT (RT.mk r_B r_P y2) then bif okT (Jh 8 (RT.mk r_B r_P y2)) then k (Res.mk (.st 42 [.sc (.int .i64 (Qm 8 (RT.mk r_B r_P y2))), .sc (.int .i64 (Qm 8 (Jh 8 (RT.mk r_B r_P y2))))]) [.box false 135 (PV.st 135 [.ro 5 y0 y1 (Jh 8 (Jh 8 (RT.mk r_B r_P y2))).B, .sc (.int .i64 (Jh 8 (Jh 8 (RT.mk r_B r_P y2))).P), .sc (.int .i64 (Jh 8 (Jh 8 (RT.mk r_B r_P y2))).e)])] []) else none else none
theorem e43 (f : Nat) (y0 y1 : Bool) (r_B : List PV) (r_P y2 : Int) (k : KR) : JK tau F43 Try.f43 (Try.f43.body.get!) JCX [.ro] 0 [.ptr 0 []] [.box false 135 (.st 135 [.ro 5 y0 y1 r_B, .sc (.int .i64 r_P), .sc (.int .i64 y2)])] k = g43 f y0 y1 r_B r_P y2 k := by kernel_rfl
theorem JM9 (f : Nat) : ∀ q ∈ Jg (Try.f43.body.get!) JCX, q.Ok tau Try.prog 1 := Jx (by kernel_rfl)
theorem JIB : Try.prog.funcs[43]? = some Try.f43 := by kernel_rfl
theorem JIC : Try.f43.body = some (Try.f43.body.get!) := by kernel_rfl
theorem JNa : Enters Try.prog 43 := enters_of JIB (by kernel_rfl) JIC
def Js0 : JA
 | [.ptr 0 []], [.box false 135 (.st 135 [.ro 5 y0 y1 r_B, .sc (.int .i64 r_P), .sc (.int .i64 y2)])], k => g43 0 y0 y1 r_B r_P y2 k
 | _, _, _ => none
def s43 : Sig := { own := [], run := Js0 }
theorem JNb : Jc tau Try.prog 43 s43 := JP Jn JCW Jo JIB JIC JCX [.ro] 1 [] Js0 (JM9 0) fun xs es k res hr => by
 unfold Js0 at hr
 split at hr
 · exact ⟨rfl, 0, (e43 0 _ _ _ _ _  _).trans hr⟩
 · cases hr
def F15 : Fns := Js 50 JHA (Js 49 JIx (Js 48 s48 (Js 47 JBb (Js 46 JvO (Js 45 JGj (Js 44 JvM (Js 43 s43 (Js 42 s42 (F0)))))))))
theorem JCY : Jq tau Try.prog F15 := (((((((((Jt).add JIm JIl).add JNb JNa).add JrN JA5).add JGk JL1).add JrO JA8).add Jyy JFY).add JIq JIp).add JIy JM5).add JHB JLE
def JCZ : An := (.seq .leaf (.seq .leaf (.seq .leaf (.seq .leaf (.seq .leaf (.seq .leaf (.seq .leaf (.seq .leaf (.seq .leaf (.seq .leaf (.seq (.seq .leaf (.cond .leaf .leaf)) (.seq (.seq .leaf (.cond .leaf .leaf)) (.seq (.seq .leaf (.cond (.seq .leaf .leaf) .leaf)) (.seq .leaf .leaf))))))))))))))
abbrev WI (b : List PV) := (Jh 8 (Jh 8 (Jh 8 (RT.mk b 0 0))))
abbrev J4 (b : List PV) := (Jh 1 (hashT (Jh 8 (WI b))))
abbrev Jcl := Jcb
abbrev Jbh (b : List PV) := (Qm 8 (Jh 8 (Jh 8 (RT.mk b 0 0))))
abbrev Jbi (b : List PV) := (pu IntKind.u8 (hashVT (Jh 8 (WI b))))
abbrev WJ (b : List PV) := (List.take (XX (J4 b)).size (Ji (XX (J4 b))))
abbrev JeZ (b : List PV) := (Res.mk (PV.tup [PV.st 53 [PV.st 42 [PV.sc (.int .i64 (Qm 8 (RT.mk b 0 0))), PV.sc (.int .i64 (Qm 8 (Jh 8 (RT.mk b 0 0))))], PV.sc (.int .i64 (Jbh b)), PV.sc (.int .i64 (Qm 8 (WI b))), PV.ar 37 (Jbi b), PV.sc (.int .i64 (Qm 1 (hashT (Jh 8 (WI b))))), PV.ro 113 (opL (WJ b)).isEmpty (opF (WJ b)) (opL (WJ b)), PV.st 42 [PV.sc (.int .i64 (Qm 8 (QZ (J4 b)))), PV.sc (.int .i64 (Qm 8 (Jh 8 (QZ (J4 b)))))]], PV.sc (.int .i64 0)]) [] [])
abbrev Je0 (b : List PV) := (Res.mk (PV.tup [PV.st 53 [PV.st 42 [PV.sc (.int .i64 (Qm 8 (RT.mk b 0 0))), PV.sc (.int .i64 (Qm 8 (Jh 8 (RT.mk b 0 0))))], PV.sc (.int .i64 (Jbh b)), PV.sc (.int .i64 (Qm 8 (WI b))), PV.ar 37 (Jbi b), PV.sc (.int .i64 (Qm 1 (hashT (Jh 8 (WI b))))), PV.ro 113 true true [], PV.st 42 [PV.sc (.int .i64 (Qm 8 (QZ (J4 b)))), PV.sc (.int .i64 (Qm 8 (Jh 8 (QZ (J4 b)))))]], PV.sc (.int .i64 0)]) [] [])
abbrev Jh5 (b : List PV) := (DV.mk (Qm 8 (RT.mk b 0 0)) (Qm 8 (Jh 8 (RT.mk b 0 0))) (Jbh b) (Qm 8 (WI b)) (Jbi b) (Qm 1 (hashT (Jh 8 (WI b)))) (opL (WJ b)) (Qm 8 (QZ (J4 b))) (Qm 8 (Jh 8 (QZ (J4 b)))))
abbrev Jh6 (b : List PV) := (DV.mk (Qm 8 (RT.mk b 0 0)) (Qm 8 (Jh 8 (RT.mk b 0 0))) (Jbh b) (Qm 8 (WI b)) (Jbi b) (Qm 1 (hashT (Jh 8 (WI b)))) [] (Qm 8 (QZ (J4 b))) (Qm 8 (Jh 8 (QZ (J4 b)))))
abbrev Jmz (b : List PV) := (Res.mk (PV.tup [PV.st 53 [PV.st 42 [PV.sc (.int .i64 0), PV.sc (.int .i64 0)], PV.sc (.int .i64 0), PV.sc (.int .i64 0), PV.ar 37 Jcl, PV.sc (.int .i64 0), PV.ro 113 true true [], PV.st 42 [PV.sc (.int .i64 0), PV.sc (.int .i64 0)]], PV.sc (.int .i64 (Jh 8 (Jh 8 (QZ (J4 b)))).e)]) [] [])
abbrev JmA (b : List PV) := (Res.mk (PV.tup [PV.st 53 [PV.st 42 [PV.sc (.int .i64 0), PV.sc (.int .i64 0)], PV.sc (.int .i64 0), PV.sc (.int .i64 0), PV.ar 37 Jcl, PV.sc (.int .i64 0), PV.ro 113 true true [], PV.st 42 [PV.sc (.int .i64 0), PV.sc (.int .i64 0)]], PV.sc (.int .i64 (dCk (Jh5 b)))]) [] [])
abbrev Jh7 (b : List PV) := (Res.mk (PV.tup [PV.st 53 [PV.st 42 [PV.sc (.int .i64 0), PV.sc (.int .i64 0)], PV.sc (.int .i64 0), PV.sc (.int .i64 0), PV.ar 37 Jcl, PV.sc (.int .i64 0), PV.ro 113 true true [], PV.st 42 [PV.sc (.int .i64 0), PV.sc (.int .i64 0)]], PV.sc (.int .i64 (opE (WJ b)))]) [] [])
abbrev Jh8 (b : List PV) := (Res.mk (PV.tup [PV.st 53 [PV.st 42 [PV.sc (.int .i64 0), PV.sc (.int .i64 0)], PV.sc (.int .i64 0), PV.sc (.int .i64 0), PV.ar 37 Jcl, PV.sc (.int .i64 0), PV.ro 113 true true [], PV.st 42 [PV.sc (.int .i64 0), PV.sc (.int .i64 0)]], PV.sc (.int .i64 (dCk (Jh6 b)))]) [] [])
def g15 (f : Nat) (b_z b_f : Bool) (b : List PV) (k : KR) : OR := bif okT (RT.mk b 0 0) then bif okT (Jh 8 (RT.mk b 0 0)) then bif okT (Jh 8 (Jh 8 (RT.mk b 0 0))) then bif okT (WI b) then bif okT (Jh 8 (WI b)) then bif okT (hashT (Jh 8 (WI b))) then bif okT (J4 b) then bif okT (QZ (J4 b)) then bif okT (Jh 8 (QZ (J4 b))) then bif (Jh 8 (Jh 8 (QZ (J4 b)))).e == 0 then bif decide ((Jh 8 (Jh 8 (QZ (J4 b)))).P < zi (Jh 8 (Jh 8 (QZ (J4 b)))).B.length) then k (Res.mk (.tup [.st 53 [.st 42 [.sc (.int .i64 0), .sc (.int .i64 0)], .sc (.int .i64 0), .sc (.int .i64 0), .ar 37 Jcl, .sc (.int .i64 0), .ro 113 true true [], .st 42 [.sc (.int .i64 0), .sc (.int .i64 0)]], .sc (.int .i64 9)]) [] []) else bif (Jh 8 (Jh 8 (QZ (J4 b)))).e == 0 then bif Je (XX (J4 b)).size 1 && true then bif byB (WJ b) && (List.take (XX (J4 b)).size (List.drop 0 (Ji (XX (J4 b))))).length.ble 1000000000 then bif opE (WJ b) == 0 then bif cOk (opL (WJ b)) then bif dCk (Jh5 b) != 0 then k (JmA b) else k (JeZ b) else none else bif opE (WJ b) != 0 then k (Jh7 b) else k (JeZ b) else none else none else bif (Jh 8 (Jh 8 (QZ (J4 b)))).e == 0 then bif cOk [] then bif dCk (Jh6 b) != 0 then k (Jh8 b) else k (Je0 b) else none else bif (Jh 8 (Jh 8 (QZ (J4 b)))).e != 0 then k (Jmz b) else k (Je0 b) else bif (Jh 8 (Jh 8 (QZ (J4 b)))).e == 0 then bif Je (XX (J4 b)).size 1 && true then bif byB (WJ b) && (List.take (XX (J4 b)).size (List.drop 0 (Ji (XX (J4 b))))).length.ble 1000000000 then bif opE (WJ b) == 0 then bif cOk (opL (WJ b)) then bif dCk (Jh5 b) != 0 then k (JmA b) else k (JeZ b) else none else bif opE (WJ b) != 0 then k (Jh7 b) else k (JeZ b) else none else none else bif (Jh 8 (Jh 8 (QZ (J4 b)))).e == 0 then bif cOk [] then bif dCk (Jh6 b) != 0 then k (Jh8 b) else k (Je0 b) else none else bif (Jh 8 (Jh 8 (QZ (J4 b)))).e != 0 then k (Jmz b) else k (Je0 b) else none else none else none else none else none else none else none else none else none
theorem e15 (f : Nat) (b_z b_f : Bool) (b : List PV) (k : KR) : JK tau F15 Try.f15 (Try.f15.body.get!) JCZ [.ro, .ro] 0 [.ro 5 b_z b_f b] [] k = g15 f b_z b_f b k := by kernel_rfl
theorem JNc (f : Nat) : ∀ q ∈ Jg (Try.f15.body.get!) JCZ, q.Ok tau Try.prog 0 := Jx (by kernel_rfl)
theorem JID : Try.prog.funcs[15]? = some Try.f15 := by kernel_rfl
theorem JIE : Try.f15.body = some (Try.f15.body.get!) := by kernel_rfl
theorem JIF : Enters Try.prog 15 := enters_of JID (by kernel_rfl) JIE
def Js1 : JA
 | [.ro 5 b_z b_f b], [], k => g15 0 b_z b_f b k
 | _, _, _ => none
def s15 : Sig := { own := [], run := Js1 }
theorem JNd : Jc tau Try.prog 15 s15 := JP Jn JCY Jo JID JIE JCZ [.ro, .ro] 0 [] Js1 (JNc 0) fun xs es k res hr => by
 unfold Js1 at hr
 split at hr
 · exact ⟨rfl, 0, (e15 0 _ _ _  _).trans hr⟩
 · cases hr
theorem Js2 (t : ByteArray) : byB (Ji t) = true := by
 unfold byB Ji
 refine List.all_eq_true.2 fun p hp => ?_
 obtain ⟨x, hx, rfl⟩ := List.mem_map.1 hp
 have := x.toNat_lt
 rw [Bool.and_eq_true, Bool.and_eq_true]
 refine ⟨rfl, decide_eq_true ?_, decide_eq_true ?_⟩
 · exact Int.natCast_nonneg _
 · exact Int.ofNat_lt.2 this
def d4 (b : List PV) : RS := Jb 8 (Jb 8 (Jb 8 (Jb 8 ⟨b, 0⟩)))
def d5 (b : List PV) : RS := hashS (d4 b)
def d7 (b : List PV) : RS := Qe (Jb 1 (d5 b))
def d9 (b : List PV) : RS := Jb 8 (Jb 8 (d7 b))
def dt (b : List PV) : List PV := Ji (JU (Jb 1 (d5 b)))
def dv (b : List PV) : DV := ⟨Jz 8 ⟨b, 0⟩, Jz 8 (Jb 8 ⟨b, 0⟩), Jz 8 (Jb 8 (Jb 8 ⟨b, 0⟩)), Jz 8 (Jb 8 (Jb 8 (Jb 8 ⟨b, 0⟩))), pu .u8 (hashV (d4 b)), Jz 1 (d5 b), opL (dt b), Jz 8 (d7 b), Jz 8 (Jb 8 (d7 b))⟩
def dE0 (b : List PV) : Int := bif (d9 b).e == 0 then (bif decide ((d9 b).b.length > 0) then 9 else bif opE (dt b) == 0 then dCk (dv b) else opE (dt b)) else (d9 b).e
def dE : List PV -> Int := hid dE0
def dN (b : List PV) : Nat -> Int
 | 0 => (dv b).ad
 | 1 => (dv b).au
 | 2 => (dv b).id
 | 3 => (dv b).ve
 | 4 => (dv b).kd
 | 5 => (dv b).wd
 | _ => (dv b).wu
def dF : Nat -> List PV -> Int := hid fun i b => bif dE0 b == 0 then dN b i else 0
def dH : List PV -> List Int := hid fun b => bif dE0 b == 0 then hashV (d4 b) else List.replicate 32 0
def dO : List PV -> List PV := hid fun b => bif dE0 b == 0 then opL (dt b) else []
def dOF : List PV -> Bool := hid fun b => !(dE0 b == 0)
theorem JoQ (b : List PV) : dE b = dE0 b := by rw [dE, hid_eq]
theorem JoR (i : Nat) (b : List PV) : dF i b = bif dE0 b == 0 then dN b i else 0 := by rw [dF, hid_eq]
theorem JoS (b : List PV) : dH b = bif dE0 b == 0 then hashV (d4 b) else List.replicate 32 0 := by rw [dH, hid_eq]
theorem JoT (b : List PV) : dO b = bif dE0 b == 0 then opL (dt b) else [] := by rw [dO, hid_eq]
theorem Js3 (b : List PV) : dOF b = !(dE0 b == 0) := by rw [dOF, hid_eq]
def JoU (e : Int) : PV := .tup [.st 53 [.st 42 [.sc (.int .i64 0), .sc (.int .i64 0)], .sc (.int .i64 0), .sc (.int .i64 0), .ar 37 (pu .u8 (List.replicate 32 0)), .sc (.int .i64 0), .ro 113 true true [], .st 42 [.sc (.int .i64 0), .sc (.int .i64 0)]], .sc (.int .i64 e)]
def dP (b : List PV) : PV := .tup [.st 53 [.st 42 [.sc (.int .i64 (dF 0 b)), .sc (.int .i64 (dF 1 b))], .sc (.int .i64 (dF 2 b)), .sc (.int .i64 (dF 3 b)), .ar 37 (pu .u8 (dH b)), .sc (.int .i64 (dF 4 b)), .ro 113 (dO b).isEmpty (dO b).isEmpty (dO b), .st 42 [.sc (.int .i64 (dF 5 b)), .sc (.int .i64 (dF 6 b))]], .sc (.int .i64 (dE b))]
def dQ (b : List PV) : PV := .tup [.st 53 [.st 42 [.sc (.int .i64 (dF 0 b)), .sc (.int .i64 (dF 1 b))], .sc (.int .i64 (dF 2 b)), .sc (.int .i64 (dF 3 b)), .ar 37 (pu .u8 (dH b)), .sc (.int .i64 (dF 4 b)), .ro 113 (dO b).isEmpty (dOF b) (dO b), .st 42 [.sc (.int .i64 (dF 5 b)), .sc (.int .i64 (dF 6 b))]], .sc (.int .i64 (dE b))]
theorem Jh9 {b : List PV} {e : Int} (h : dE0 b = e) (h0 : (e == 0) = false) : dP b = JoU e := by
 simp only [dP, JoU, JoR, JoS, JoT, JoQ, h, h0, cond_false, List.isEmpty_nil]
theorem Jia {b : List PV} {e : Int} (h : dE0 b = e) (h0 : (e == 0) = false) : dQ b = JoU e := by
 simp only [dQ, JoU, JoR, JoS, JoT, JoQ, Js3, h, h0, cond_false, List.isEmpty_nil, Bool.not_false]
theorem JIG {b : List PV} (h : dE0 b = 0) : dP b = .tup [.st 53 [.st 42 [.sc (.int .i64 (Jz 8 ⟨b, 0⟩)), .sc (.int .i64 (Jz 8 (Jb 8 ⟨b, 0⟩)))], .sc (.int .i64 (Jz 8 (Jb 8 (Jb 8 ⟨b, 0⟩)))), .sc (.int .i64 (Jz 8 (Jb 8 (Jb 8 (Jb 8 ⟨b, 0⟩))))), .ar 37 (pu .u8 (hashV (d4 b))), .sc (.int .i64 (Jz 1 (d5 b))), .ro 113 (opL (dt b)).isEmpty (opL (dt b)).isEmpty (opL (dt b)), .st 42 [.sc (.int .i64 (Jz 8 (d7 b))), .sc (.int .i64 (Jz 8 (Jb 8 (d7 b))))]], .sc (.int .i64 0)] := by
 simp only [dP, JoR, JoS, JoT, JoQ, h, beq_self_eq_true, cond_true, dN, dv]
theorem JIH {b : List PV} (h : dE0 b = 0) : dQ b = .tup [.st 53 [.st 42 [.sc (.int .i64 (Jz 8 ⟨b, 0⟩)), .sc (.int .i64 (Jz 8 (Jb 8 ⟨b, 0⟩)))], .sc (.int .i64 (Jz 8 (Jb 8 (Jb 8 ⟨b, 0⟩)))), .sc (.int .i64 (Jz 8 (Jb 8 (Jb 8 (Jb 8 ⟨b, 0⟩))))), .ar 37 (pu .u8 (hashV (d4 b))), .sc (.int .i64 (Jz 1 (d5 b))), .ro 113 (opL (dt b)).isEmpty false (opL (dt b)), .st 42 [.sc (.int .i64 (Jz 8 (d7 b))), .sc (.int .i64 (Jz 8 (Jb 8 (d7 b))))]], .sc (.int .i64 0)] := by
 simp only [dQ, JoR, JoS, JoT, JoQ, Js3, h, beq_self_eq_true, cond_true, Bool.not_true, dN, dv]
theorem JoV {b : List PV} (h : byB b = true) : cOk (opL b) = true := by
 rw [JeV]
 cases Zl b == 0 with
 | true => exact Jh4 (Jmu h) _
 | false => exact Yi.2 ⟨rfl, Nat.zero_le _⟩
theorem Jzo (f : Nat) (k0 : Int -> Int -> Int -> Int -> List PV -> Int -> List PV -> Int -> Int -> Bool -> Bool -> List PV -> Int -> Int -> Int -> Int -> Int -> List PV -> Int -> List PV -> Int -> Int -> OR) (z fl : Bool) (hz : (!z || fl) = true) (x1 x2 x3 x4 : Int) (x5 : List PV) (x6 : Int) (x7 : List PV) (x8 x9 y14 y15 y16 y17 y19 : Int) (y20 : List PV) (y21 y22 : Int) : ∀ (d i n : Nat) (s : RS) (L : List Int), i + d = 32 -> d < n -> byB s.b = true -> L.length = 32 ->
  GK f k0 n (i : Int) x1 x2 x3 x4 x5 x6 x7 x8 x9 z fl s.b s.e y14 y15 y16 y17 (pu .u8 L) y19 y20 y21 y22 = k0 x1 x2 x3 x4 x5 x6 x7 x8 x9 z fl (Jep d s).b (Jep d s).e y14 y15 y16 y17 (pu .u8 (L.take i ++ JaN d s)) y19 y20 y21 y22
 | 0, i, n + 1, s, L, h, hn, hb, hL => by
   obtain rfl : i = 32 := by omega
   simp only [GK, Jbf, Jep, JaN, List.append_nil]
   rw [List.take_of_length_le (by omega)]
   exact Jd (by decide)
 | d + 1, i, n + 1, s, L, h, hn, hb, hL => by
   have g1 := tI i
   have w1 := wI (i := i) (by omega)
   have hm : RS.mk s.b s.e = s := rfl
   simp only [GK, Jbf, g1, w1, hm, Xq]
   refine (Ja (by simp; omega)).trans ((Ja (by rw [hb, hz]; rfl)).trans ((Ja (by simp [zi]; omega)).trans ?_))
   have := Jzo f k0 z fl hz x1 x2 x3 x4 x5 x6 x7 x8 x9 y14 y15 y16 y17 y19 y20 y21 y22 d (i + 1) n (Qk 1 s) (L.set i (IntKind.u8.wrap (Jz 1 s))) (by omega) (by omega) (YQ hb 1) (by simpa using hL)
   rw [XV]
   refine Eq.trans this ?_
   have hset : (L.set i (IntKind.u8.wrap (Jz 1 s))).take (i + 1) = L.take i ++ [IntKind.u8.wrap (Jz 1 s)] := by
    rw [List.take_add_one, List.take_set_of_le (Nat.le_refl i), List.getElem?_set_self (by omega)]; rfl
   rw [hset, Zd]
   simp only [Jep, JaN, List.append_assoc, List.cons_append, List.nil_append]
theorem JC0 (z f : Bool) (b : List PV) (hz : slB z b = true) (hb : byB b = true) (k : KR) :
  g37 40 z f b k = k ⟨dP b, [], []⟩ := by
 have hE : dE0 b = dE0 b := rfl
 conv at hE => rhs; unfold dE0
 have hzz : (!z || z) = true := by cases z <;> rfl
 have c1 := Ql (s := ⟨b, 0⟩) hb 8
 have c2 := Ql c1 8
 have c3 := Ql c2 8
 have c4 : byB (d4 b).b = true := Ql c3 8
 have c5 : byB (d5 b).b = true := by unfold d5; rw [hashS_eq]; exact Jhz 32 c4
 have c6 := Ql c5 1
 have c7 : byB (d7 b).b = true := Joo c6
 have c8 := Ql c7 8
 unfold g37 JeY Xr
 refine (Ja hz).trans ((Ja (by rw [hb, hzz]; rfl)).trans ((Ja (by rw [c1, hzz]; rfl)).trans ((Ja (by rw [c2, hzz]; rfl)).trans ((Ja (by rw [c3, hzz]; rfl)).trans ?_))))
 refine (Jzo 40 _ z z hzz _ _ _ _ _ _ _ _ _ _ _ _ _ _ _ _ _ 32 0 40 (d4 b) (List.replicate 32 0) (by omega) (by omega) c4 (by simp)).trans ?_
 have hr : Jep 32 (d4 b) = d5 b := by unfold d5; rw [hashS_eq]
 have hv : JaN 32 (d4 b) = hashV (d4 b) := by rw [hashV_eq]
 have hm : RS.mk (d5 b).b (d5 b).e = d5 b := rfl
 have h7 : Qe (Jb 1 (d5 b)) = d7 b := rfl
 have h9 : Jb 8 (Jb 8 (d7 b)) = d9 b := rfl
 have hsz := Jgj c6
 have htk : List.take (JU (Jb 1 (d5 b))).size (dt b) = dt b := List.take_of_length_le (by unfold dt; rw [Yn]; exact Nat.le_refl _)
 have hto : Ji (JU (Jb 1 (d5 b))) = dt b := rfl
 have hbt : byB (dt b) = true := Js2 _
 have hlt : (dt b).length <= 65535 := by unfold dt; rw [Yn]; exact hsz
 have hsl : slB (Ent.vec false 5 false (dt b)).nil (dt b) = true := Xy.2 ⟨fun h => by simp [Ent.nil] at h, by omega⟩
 have hz9 : decide (zi (d9 b).b.length > 0) = decide ((d9 b).b.length > 0) := by apply decide_eq_decide.2; simp only [zi]; omega
 have hdv : DV.mk (Jz 8 ⟨b, 0⟩) (Jz 8 (Jb 8 ⟨b, 0⟩)) (Jz 8 (Jb 8 (Jb 8 ⟨b, 0⟩))) (Jz 8 (Jb 8 (Jb 8 (Jb 8 ⟨b, 0⟩)))) (pu .u8 (hashV (d4 b))) (Jz 1 (d5 b)) (opL (dt b)) (Jz 8 (d7 b)) (Jz 8 (Jb 8 (d7 b))) = dv b := rfl
 simp only [hr, hv, hm, h7, h9, List.take_zero, List.nil_append, List.drop_zero, htk, hto, hz9, hdv, hsl, hbt, hzz, c5, c6, c7, c8, JoV hbt, Bool.true_and, Bool.and_true, cond_true]
 cases he : ((d9 b).e == 0) with
 | false =>
  rw [he, cond_false] at hE
  rw [Jh9 hE he]
  simp only [cond_false]
  exact Ja (by rw [bne, he]; rfl)
 | true =>
  rw [he, cond_true] at hE
  cases h9 : decide ((d9 b).b.length > 0) with
  | true =>
   rw [h9, cond_true] at hE
   rw [Jh9 hE (by decide)]
   rfl
  | false =>
   rw [h9, cond_false] at hE
   simp only [cond_true, cond_false]
   refine (Ja (by simp [Je]; omega)).trans ?_
   cases ho : (opE (dt b) == 0) with
   | false =>
    rw [ho, cond_false] at hE
    try simp only [cond_false]
    rw [Jh9 hE ho]
    exact Ja (by rw [bne, ho]; rfl)
   | true =>
    rw [ho, cond_true] at hE
    try simp only [cond_true]
    cases hd : (dCk (dv b) == 0) with
    | false =>
     rw [Jh9 hE hd]
     exact Ja (by rw [bne, hd]; rfl)
    | true =>
     have hd' : dCk (dv b) = 0 := by simpa using hd
     rw [hd'] at hE
     rw [JIG hE]
     exact Jd (by rw [bne, hd]; rfl)
def JmB : JA
 | [.ro 5 z f b], [], k => bif slB z b && byB b then k ⟨dP b, [], []⟩ else none
 | _, _, _ => none
def JII : Sig := { own := [], run := JmB }
theorem JIJ : Jc tau Try.prog 37 JII := Jc.mk' fun xs es k res hl hr => by
 change JmB xs es k = some res at hr
 unfold JmB at hr
 split at hr
 · rename_i z f b
   obtain ⟨hc, hr⟩ := Jw hr
   rw [Bool.and_eq_true] at hc
   have hg := (JC0 z f b hc.1 hc.2 k).trans hr
   exact J6 Jn JsX Jo JIz JIA (JwK (JeX 40)) [.ro, .ro] 0 0 (JM7 40) hl rfl ((e37 40 z f b k).trans hg)
 · cases hr
theorem JC1 (z f : Bool) (b : List PV) (hb : byB b = true) (hlen : b.length <= 1000000000) (k : KR) :
  g15 0 z f b k = k ⟨dQ b, [], []⟩ := by
 have hE : dE0 b = dE0 b := rfl
 conv at hE => rhs; unfold dE0
 have c0 : okT (RT.mk b 0 0) = true := by simp [okT, hb]; omega
 have hv0 : (RT.mk b 0 0).view = RS.mk b 0 := rfl
 have c1 := QF c0 8
 have c2 := QF c1 8
 have c3 := QF c2 8
 have c4 := QF c3 8
 have c5 := Jr5 c4
 have c6 := QF c5 1
 have c7 := Jjw c6
 have c8 := QF c7 8
 have c9 := QF c8 8
 have b1 := Ql (s := ⟨b, 0⟩) hb 8
 have b4 : byB (d4 b).b = true := Ql (Ql (Ql b1 8) 8) 8
 have b5 : byB (d5 b).b = true := by unfold d5; rw [hashS_eq]; exact Jhz 32 b4
 have b6 := Ql b5 1
 have v4 : (Jh 8 (Jh 8 (Jh 8 (Jh 8 (RT.mk b 0 0))))).view = d4 b := by simp only [Qn, hv0, d4]
 have v5 : (hashT (Jh 8 (Jh 8 (Jh 8 (Jh 8 (RT.mk b 0 0)))))).view = d5 b := by rw [hashT_view, v4, d5]
 have v7 : (QZ (Jh 1 (hashT (Jh 8 (Jh 8 (Jh 8 (Jh 8 (RT.mk b 0 0)))))))).view = d7 b := by rw [Jge, Qn, v5, d7]
 have v9 : (Jh 8 (Jh 8 (QZ (Jh 1 (hashT (Jh 8 (Jh 8 (Jh 8 (Jh 8 (RT.mk b 0 0)))))))))).view = d9 b := by rw [Qn, Qn, v7, d9]
 have n0 : Qm 8 (RT.mk b 0 0) = Jz 8 ⟨b, 0⟩ := by rw [WF, hv0]
 have n1 : Qm 8 (Jh 8 (RT.mk b 0 0)) = Jz 8 (Jb 8 ⟨b, 0⟩) := by simp only [WF, Qn, hv0]
 have n2 : Qm 8 (Jh 8 (Jh 8 (RT.mk b 0 0))) = Jz 8 (Jb 8 (Jb 8 ⟨b, 0⟩)) := by simp only [WF, Qn, hv0]
 have n3 : Qm 8 (Jh 8 (Jh 8 (Jh 8 (RT.mk b 0 0)))) = Jz 8 (Jb 8 (Jb 8 (Jb 8 ⟨b, 0⟩))) := by simp only [WF, Qn, hv0]
 have n4 : hashVT (Jh 8 (Jh 8 (Jh 8 (Jh 8 (RT.mk b 0 0))))) = hashV (d4 b) := by rw [hashVT_val, v4]
 have n5 : Qm 1 (hashT (Jh 8 (Jh 8 (Jh 8 (Jh 8 (RT.mk b 0 0)))))) = Jz 1 (d5 b) := by rw [WF, v5]
 have n6 : XX (Jh 1 (hashT (Jh 8 (Jh 8 (Jh 8 (Jh 8 (RT.mk b 0 0))))))) = JU (Jb 1 (d5 b)) := by rw [Jgf, Qn, v5]
 have n7 : Qm 8 (QZ (Jh 1 (hashT (Jh 8 (Jh 8 (Jh 8 (Jh 8 (RT.mk b 0 0)))))))) = Jz 8 (d7 b) := by rw [WF, v7]
 have n8 : Qm 8 (Jh 8 (QZ (Jh 1 (hashT (Jh 8 (Jh 8 (Jh 8 (Jh 8 (RT.mk b 0 0))))))))) = Jz 8 (Jb 8 (d7 b)) := by rw [WF, Qn, v7]
 unfold g15 Jh8 Jh7 JmA Jmz Jh6 Jh5 Je0 JeZ WJ Jbi Jbh Jcl J4 WI
 refine (Ja c0).trans ((Ja c1).trans ((Ja c2).trans ((Ja c3).trans ((Ja c4).trans ((Ja c5).trans ((Ja c6).trans ((Ja c7).trans ((Ja c8).trans ?_))))))))
 simp only [n0, n1, n2, n3, n4, n5, n6, n7, n8]
 generalize Jh 8 (Jh 8 (QZ (Jh 1 (hashT (Jh 8 (Jh 8 (Jh 8 (Jh 8 (RT.mk b 0 0))))))))) = t at *
 have hte : t.e = (d9 b).e := by rw [← v9]; rfl
 have htP : decide (t.P < zi t.B.length) = decide ((d9 b).b.length > 0) := by
  rw [← v9]
  show decide _ = decide ((List.drop _ _).length > 0)
  rw [List.length_drop]
  simp only [okT, Bool.and_eq_true, decide_eq_true_eq] at c9
  apply decide_eq_decide.2
  simp only [zi]; omega
 have hsz := Jgj b6
 have htk : List.take (JU (Jb 1 (d5 b))).size (dt b) = dt b := List.take_of_length_le (by unfold dt; rw [Yn]; exact Nat.le_refl _)
 have hto : Ji (JU (Jb 1 (d5 b))) = dt b := rfl
 have hbt : byB (dt b) = true := Js2 _
 have hlt : (dt b).length <= 65535 := by unfold dt; rw [Yn]; exact hsz
 have hble : (dt b).length.ble 1000000000 = true := by rw [Nat.ble_eq]; omega
 have hdv : DV.mk (Jz 8 ⟨b, 0⟩) (Jz 8 (Jb 8 ⟨b, 0⟩)) (Jz 8 (Jb 8 (Jb 8 ⟨b, 0⟩))) (Jz 8 (Jb 8 (Jb 8 (Jb 8 ⟨b, 0⟩)))) (pu .u8 (hashV (d4 b))) (Jz 1 (d5 b)) (opL (dt b)) (Jz 8 (d7 b)) (Jz 8 (Jb 8 (d7 b))) = dv b := rfl
 simp only [hte, htP, List.drop_zero, htk, hto, hdv, hbt, hble, JoV hbt, Bool.true_and, Bool.and_true, cond_true]
 cases he : ((d9 b).e == 0) with
 | false =>
  rw [he, cond_false] at hE
  rw [Jia hE he]
  simp only [cond_false]
  exact Ja (by rw [bne, he]; rfl)
 | true =>
  rw [he, cond_true] at hE
  cases h9 : decide ((d9 b).b.length > 0) with
  | true =>
   rw [h9, cond_true] at hE
   rw [Jia hE (by decide)]
   rfl
  | false =>
   rw [h9, cond_false] at hE
   simp only [cond_true, cond_false]
   refine (Ja (by simp [Je]; omega)).trans ?_
   cases ho : (opE (dt b) == 0) with
   | false =>
    rw [ho, cond_false] at hE
    try simp only [cond_false]
    rw [Jia hE ho]
    exact Ja (by rw [bne, ho]; rfl)
   | true =>
    have hoF : opF (dt b) = false := by rw [Jmt, ← JeU, ho]; rfl
    rw [ho, cond_true] at hE
    try simp only [cond_true]
    cases hd : (dCk (dv b) == 0) with
    | false =>
     rw [Jia hE hd]
     exact Ja (by rw [bne, hd]; rfl)
    | true =>
     have hd' : dCk (dv b) = 0 := by simpa using hd
     rw [hd'] at hE
     rw [JIH hE, hoF]
     exact Jd (by rw [bne, hd]; rfl)
def JmC : JA
 | [.ro 5 z f b], [], k => bif byB b && Nat.ble b.length 1000000000 then k ⟨dQ b, [], []⟩ else none
 | _, _, _ => none
def JC2 : Sig := { own := [], run := JmC }
theorem Jzp : Jc tau Try.prog 15 JC2 := JNd.of fun xs es k res hr => by
 change JmC xs es k = some res at hr
 unfold JmC at hr
 split at hr
 · rename_i z f b
   obtain ⟨hc, hr⟩ := Jw hr
   rw [Bool.and_eq_true, Nat.ble_eq] at hc
   exact (JC1 z f b hc.1 hc.2 k).trans hr
 · cases hr
def F95 : Fns := F0
theorem JC3 : Jq tau Try.prog F95 := Jt
def JC4 : An := (.seq .leaf (.seq .leaf .leaf))
def g95 (f : Nat) (k : KR) : OR := k (Res.mk (.ar 159 [.sc (.int .u32 1116352408), .sc (.int .u32 1899447441), .sc (.int .u32 3049323471), .sc (.int .u32 3921009573), .sc (.int .u32 961987163), .sc (.int .u32 1508970993), .sc (.int .u32 2453635748), .sc (.int .u32 2870763221), .sc (.int .u32 3624381080), .sc (.int .u32 310598401), .sc (.int .u32 607225278), .sc (.int .u32 1426881987), .sc (.int .u32 1925078388), .sc (.int .u32 2162078206), .sc (.int .u32 2614888103), .sc (.int .u32 3248222580), .sc (.int .u32 3835390401), .sc (.int .u32 4022224774), .sc (.int .u32 264347078), .sc (.int .u32 604807628), .sc (.int .u32 770255983), .sc (.int .u32 1249150122), .sc (.int .u32 1555081692), .sc (.int .u32 1996064986), .sc (.int .u32 2554220882), .sc (.int .u32 2821834349), .sc (.int .u32 2952996808), .sc (.int .u32 3210313671), .sc (.int .u32 3336571891), .sc (.int .u32 3584528711), .sc (.int .u32 113926993), .sc (.int .u32 338241895), .sc (.int .u32 666307205), .sc (.int .u32 773529912), .sc (.int .u32 1294757372), .sc (.int .u32 1396182291), .sc (.int .u32 1695183700), .sc (.int .u32 1986661051), .sc (.int .u32 2177026350), .sc (.int .u32 2456956037), .sc (.int .u32 2730485921), .sc (.int .u32 2820302411), .sc (.int .u32 3259730800), .sc (.int .u32 3345764771), .sc (.int .u32 3516065817), .sc (.int .u32 3600352804), .sc (.int .u32 4094571909), .sc (.int .u32 275423344), .sc (.int .u32 430227734), .sc (.int .u32 506948616), .sc (.int .u32 659060556), .sc (.int .u32 883997877), .sc (.int .u32 958139571), .sc (.int .u32 1322822218), .sc (.int .u32 1537002063), .sc (.int .u32 1747873779), .sc (.int .u32 1955562222), .sc (.int .u32 2024104815), .sc (.int .u32 2227730452), .sc (.int .u32 2361852424), .sc (.int .u32 2428436474), .sc (.int .u32 2756734187), .sc (.int .u32 3204031479), .sc (.int .u32 3329325298)]) [] [])
theorem e95 (f : Nat) (k : KR) : JK tau F95 Try.f95 (Try.f95.body.get!) JC4 [.ro] 0 [] [] k = g95 f k := by kernel_rfl
theorem JNe (f : Nat) : ∀ q ∈ Jg (Try.f95.body.get!) JC4, q.Ok tau Try.prog 0 := Jx (by kernel_rfl)
theorem JIK : Try.prog.funcs[95]? = some Try.f95 := by kernel_rfl
theorem JIL : Try.f95.body = some (Try.f95.body.get!) := by kernel_rfl
theorem JNf : Enters Try.prog 95 := enters_of JIK (by kernel_rfl) JIL
def Js4 : JA
 | [], [], k => g95 0  k
 | _, _, _ => none
def s95 : Sig := { own := [], run := Js4 }
theorem JNg : Jc tau Try.prog 95 s95 := JP Jn JC3 Jo JIK JIL JC4 [.ro] 0 [] Js4 (JNe 0) fun xs es k res hr => by
 unfold Js4 at hr
 split at hr
 · exact ⟨rfl, 0, (e95 0  _).trans hr⟩
 · cases hr
def N51 : Nat := 278
def F51 : Fns := Js 95 s95 (Js 96 JGc F0)
theorem Zm : Jq tau Try.prog F51 := (Jt.add JGd JL6).add JNg JNf
def JoW : Code := Qj (Try.f51.body.get!) [1, 1, 1, 1, 1, 0, 0, 0]
def Je1 : Nm := [(0, .any), (2, .any), (3, .any), (4, .any), (5, .any)]
def JmD : Nm := [(0, .any), (2, .any), (3, .any), (4, .any), (5, .any)]
def Js5 : An := (.seq (.seq .leaf (.cond .leaf .leaf)) (.block none .leaf))
def Jgs : Code := Qj (Try.f51.body.get!) [1, 1, 1, 1, 1, 1, 1, 0, 1, 0, 0]
def Zn : Nm := [(2, .any), (3, .any), (4, .any), (5, .any), (6, .any), (7, .any)]
def Vl : Nm := [(2, .any), (3, .any), (4, .any), (5, .any)]
def JjN : An := (.seq (.seq .leaf (.cond .leaf .leaf)) (.seq (.block none .leaf) .leaf))
def Jgt : Code := Qj (Try.f51.body.get!) [1, 1, 1, 1, 1, 1, 1, 1, 1, 0, 1, 0, 0, 1, 0, 0, 0, 1, 0, 0]
def Zo : Nm := [(2, .any), (3, .any), (4, .any), (5, .any), (8, .any), (9, .any), (10, .any)]
def Vm : Nm := [(2, .any), (3, .any), (4, .any), (5, .any), (8, .any), (9, .any)]
def JjO : An := (.seq (.seq .leaf (.cond .leaf .leaf)) (.seq (.block none (.seq .leaf .leaf)) .leaf))
def Jgu : Code := Qj (Try.f51.body.get!) [1, 1, 1, 1, 1, 1, 1, 1, 1, 0, 1, 0, 0, 1, 0, 0, 1, 0, 1, 0, 0]
def Zp : Nm := [(2, .any), (3, .any), (4, .any), (5, .any), (8, .any), (9, .any), (12, .any)]
def Vn : Nm := [(2, .any), (3, .any), (4, .any), (5, .any), (8, .any), (9, .any)]
def JjP : An := (.seq (.seq .leaf (.cond .leaf .leaf)) (.seq (.block none (.seq .leaf .leaf)) .leaf))
def Jgv : Code := Qj (Try.f51.body.get!) [1, 1, 1, 1, 1, 1, 1, 1, 1, 0, 1, 0, 0, 1, 0, 0, 1, 1, 1, 0, 1, 0, 0]
def Zq : Nm := [(2, .any), (3, .any), (4, .any), (5, .any), (8, .any), (9, .any), (15, .any), (16, .any)]
def Vo : Nm := [(2, .any), (3, .any), (4, .any), (5, .any), (8, .any), (9, .any), (15, .any)]
def JjQ : An := (.seq (.seq .leaf (.cond .leaf .leaf)) (.seq (.block none (.seq .leaf (.seq .leaf (.seq .leaf .leaf)))) .leaf))
def Jgw : Code := Qj (Try.f51.body.get!) [1, 1, 1, 1, 1, 1, 1, 1, 1, 0, 1, 0, 0, 1, 0, 0, 1, 1, 1, 1, 1, 0, 0]
def Zr : Nm := [(2, .any), (3, .any), (4, .any), (5, .any), (8, .any), (9, .any), (15, .any), (20, .any)]
def Vp : Nm := [(2, .any), (3, .any), (4, .any), (5, .any), (8, .any), (9, .any)]
def JjR : An := (.seq (.seq .leaf (.cond .leaf .leaf)) (.seq (.block none .leaf) .leaf))
def Jgx : Code := Qj (Try.f51.body.get!) [1, 1, 1, 1, 1, 1, 1, 1, 1, 0, 1, 0, 0]
def Zs : Nm := [(2, .any), (3, .any), (4, .any), (5, .any), (8, .any), (9, .any)]
def Vq : Nm := [(2, .any), (4, .any)]
def JjS (r3 : Qz) (r4 : Qz) (r5 : Qz) (r6 : Qz) : An := (.seq (.seq .leaf (.cond .leaf .leaf)) (.seq (.block none (.seq (.seq .leaf (.block none (.sum Zo N51 r3))) (.seq (.seq .leaf (.block none (.sum Zp N51 r4))) (.seq .leaf (.seq (.seq .leaf (.block none (.sum Zq N51 r5))) (.seq .leaf (.block none (.sum Zr N51 r6)))))))) .leaf))
def JoX : Code := Qj (Try.f51.body.get!) [1, 1, 1, 1, 1, 1, 1, 1, 1, 1, 1, 0, 1, 0, 0]
def Je2 : Nm := [(2, .any), (4, .any), (21, .any), (22, .any)]
def JmE : Nm := [(2, .any), (21, .any)]
def Js6 : An := (.seq (.seq .leaf (.cond .leaf .leaf)) (.seq (.block none .leaf) .leaf))
def JwM (r0 : Qz) (r1 : Qz) (r2 : Qz) (r7 : Qz) : An := (.seq .leaf (.seq .leaf (.seq .leaf (.seq .leaf (.seq .leaf (.seq (.block none (.sum Je1 N51 r0)) (.seq .leaf (.seq (.seq .leaf (.block none (.sum Zn N51 r1))) (.seq .leaf (.seq (.seq .leaf (.block none (.sum Zs N51 r2))) (.seq .leaf (.seq (.seq .leaf (.block none (.sum Je2 N51 r7))) (.seq .leaf .leaf)))))))))))))
abbrev Js7 := Bool -> Bool -> List PV -> Nat -> List PV -> List PV -> List PV -> List PV -> OR
def Jbj (f : Nat) (rc : Js7) (k0 : Bool -> Bool -> List PV -> Nat -> List PV -> List PV -> List PV -> List PV -> OR) (v0 v1 : Bool) (v2 : List PV) (v3 : Nat) (v4 v5 v6 v7 : List PV) : OR := bif (zi v3).tmod 64 != 56 then bif Je (v3 + 1) 1 && true then rc v0 v1 v2 (v3 + 1) v4 v5 v6 (List.take v3 v7 ++ [.sc (.int .u8 0)]) else none else k0 v0 v1 v2 v3 v4 v5 v6 v7
def GL (f : Nat) (k0 : Bool -> Bool -> List PV -> Nat -> List PV -> List PV -> List PV -> List PV -> OR) : Nat -> Js7
 | 0 => fun _ _ _ _ _ _ _ _ => none
 | n + 1 => Jbj f (GL f k0 n) k0
def Jbk (k : Kont) := fun x0 x1 x2 x3 x4 x5 x6 x7 => k (Ex.exit 0) (Jj JmD N51 [.ro 5 x0 x1 x2, .ptr 4464 [], .ptr 4465 [], .ptr 4466 [], .ow 5 4467 [] 0 x3 none] [(4464, .box false 37 (PV.ar 37 x4)), (4465, .box false 159 (PV.ar 159 x5)), (4466, .box false 142 (PV.ar 142 x6)), (4467, .vec false 5 false x7)])
def JmF (f : Nat) (k : Kont) (n : Nat) (v0 v1 : Bool) (v2 : List PV) (v3 : Nat) (v4 v5 v6 v7 : List PV) : OR := Jy tau 0 Je1 (fun s k => ev tau F51 0 0 JoW (Js5 ) s k) n (Jj Je1 N51 [.ro 5 v0 v1 v2, .ptr 4464 [], .ptr 4465 [], .ptr 4466 [], .ow 5 4467 [] 0 v3 none] [(4464, .box false 37 (PV.ar 37 v4)), (4465, .box false 159 (PV.ar 159 v5)), (4466, .box false 142 (PV.ar 142 v6)), (4467, .vec false 5 false v7)]) (JI tau 0 JmD k)
theorem JwN (f : Nat) (k : Kont) (n : Nat) : JmF f k (n + 1) = Jbj f (JmF f k n) (Jbk k) := by kernel_rfl
theorem JoY (f : Nat) (k : Kont) : ∀ n, JmF f k n = GL f (Jbk k) n
 | 0 => rfl
 | n + 1 => (JwN f k n).trans (congrArg (fun r => Jbj f r (Jbk k)) (JoY f k n))
def Je3 (f : Nat) : List PV -> List (Nat × Ent) -> Kont -> OR
 | [.ro 5 v0 v1 v2, .ptr 4464 [], .ptr 4465 [], .ptr 4466 [],
 PV.ow 5 4467 [] 0 v3
  none], [(4464, .box false 37 (PV.ar 37 v4)), (4465, .box false 159 (PV.ar 159 v5)), (4466, .box false 142 (PV.ar 142 v6)),
 (4467,
  Ent.vec false 5 false
   v7)], k => GL f (Jbk k) f v0 v1 v2 v3 v4 v5 v6 v7
 | _, _, _ => none
theorem JC5 (f : Nat) : Jg JoW Js5 = [] := by kernel_rfl
theorem JIM (f : Nat) : (Item.l JoW Je1 N51 (Je3 f)).Ok tau Try.prog 0 := Ju Jn Zm Jo (x := Js5) (nm2 := JmD) (Jk _ _ (by rw [JC5 f]; intro q hq; cases hq)) fun vs hp k res hr => by
 unfold Je3 at hr
 split at hr
 · exact ⟨f, 0, (JoY f _ f _ _ _ _ _ _ _ _ ).trans hr⟩
 · cases hr
def Jbl (f : Nat) (rc : Nat -> Int -> Int -> List PV -> List PV -> List PV -> List PV -> OR) (k0 : Nat -> List PV -> List PV -> List PV -> List PV -> OR) (v0 : Nat) (v1 v2 : Int) (v3 v4 v5 v6 : List PV) : OR := bif decide (v2 >= 0) then bif decide (0 <= IntKind.u64.wrap (8 * IntKind.u64.wrap v2)) && true then bif Je (v0 + 1) 1 && true then rc (v0 + 1) v1 (IntKind.i64.wrap (v2 - 1)) v3 v4 v5 (List.take v0 v6 ++ [.sc (.int .u8 (IntKind.u8.wrap (JX IntKind.u64 v1 (IntKind.u64.wrap (8 * IntKind.u64.wrap v2)))))]) else none else none else k0 v0 v3 v4 v5 v6
def GM (f : Nat) (k0 : Nat -> List PV -> List PV -> List PV -> List PV -> OR) : Nat -> Nat -> Int -> Int -> List PV -> List PV -> List PV -> List PV -> OR
 | 0, _, _, _, _, _, _, _ => none
 | n + 1, v0, v1, v2, v3, v4, v5, v6 => Jbl f (GM f k0 n) k0 v0 v1 v2 v3 v4 v5 v6
theorem JwO (f : Nat) (k : Kont) (n v0 : Nat) (v1 v2 : Int) (v3 v4 v5 v6 : List PV) : Jy tau 0 Zn (fun s k => ev tau F51 0 0 Jgs (JjN ) s k) (n + 1) (Jj Zn N51 [.ptr 4464 [], .ptr 4465 [], .ptr 4466 [], .ow 5 4467 [] 0 v0 none, .sc (.int .u64 v1), .sc (.int .i64 v2)] [(4464, .box false 37 (PV.ar 37 v3)), (4465, .box false 159 (PV.ar 159 v4)), (4466, .box false 142 (PV.ar 142 v5)), (4467, .vec false 5 false v6)]) (JI tau 0 Vl k) = Jbl f (fun v0 v1 v2 v3 v4 v5 v6 => Jy tau 0 Zn (fun s k => ev tau F51 0 0 Jgs (JjN ) s k) n (Jj Zn N51 [.ptr 4464 [], .ptr 4465 [], .ptr 4466 [], .ow 5 4467 [] 0 v0 none, .sc (.int .u64 v1), .sc (.int .i64 v2)] [(4464, .box false 37 (PV.ar 37 v3)), (4465, .box false 159 (PV.ar 159 v4)), (4466, .box false 142 (PV.ar 142 v5)), (4467, .vec false 5 false v6)]) (JI tau 0 Vl k)) (fun x0 x1 x2 x3 x4 => k (Ex.exit 2) (Jj Vl N51 [.ptr 4464 [], .ptr 4465 [], .ptr 4466 [], .ow 5 4467 [] 0 x0 none] [(4464, .box false 37 (PV.ar 37 x1)), (4465, .box false 159 (PV.ar 159 x2)), (4466, .box false 142 (PV.ar 142 x3)), (4467, .vec false 5 false x4)])) v0 v1 v2 v3 v4 v5 v6 := by kernel_rfl
theorem JoZ (f : Nat) (k : Kont) : ∀ (n v0 : Nat) (v1 v2 : Int) (v3 v4 v5 v6 : List PV), Jy tau 0 Zn (fun s k => ev tau F51 0 0 Jgs (JjN ) s k) n (Jj Zn N51 [.ptr 4464 [], .ptr 4465 [], .ptr 4466 [], .ow 5 4467 [] 0 v0 none, .sc (.int .u64 v1), .sc (.int .i64 v2)] [(4464, .box false 37 (PV.ar 37 v3)), (4465, .box false 159 (PV.ar 159 v4)), (4466, .box false 142 (PV.ar 142 v5)), (4467, .vec false 5 false v6)]) (JI tau 0 Vl k) = GM f (fun x0 x1 x2 x3 x4 => k (Ex.exit 2) (Jj Vl N51 [.ptr 4464 [], .ptr 4465 [], .ptr 4466 [], .ow 5 4467 [] 0 x0 none] [(4464, .box false 37 (PV.ar 37 x1)), (4465, .box false 159 (PV.ar 159 x2)), (4466, .box false 142 (PV.ar 142 x3)), (4467, .vec false 5 false x4)])) n v0 v1 v2 v3 v4 v5 v6 | 0, _, _, _, _, _, _, _ => rfl | n + 1, v0, v1, v2, v3, v4, v5, v6 => (JwO f k n v0 v1 v2 v3 v4 v5 v6).trans (congrArg (fun r => Jbl f r (fun x0 x1 x2 x3 x4 => k (Ex.exit 2) (Jj Vl N51 [.ptr 4464 [], .ptr 4465 [], .ptr 4466 [], .ow 5 4467 [] 0 x0 none] [(4464, .box false 37 (PV.ar 37 x1)), (4465, .box false 159 (PV.ar 159 x2)), (4466, .box false 142 (PV.ar 142 x3)), (4467, .vec false 5 false x4)])) v0 v1 v2 v3 v4 v5 v6) (by funext v0 v1 v2 v3 v4 v5 v6; exact JoZ f k n v0 v1 v2 v3 v4 v5 v6))
def Je4 (f : Nat) : List PV -> List (Nat × Ent) -> Kont -> OR
 | [.ptr 4464 [], .ptr 4465 [], .ptr 4466 [], .ow 5 4467 [] 0 v0 none, .sc (.int .u64 v1),
 PV.sc
  (Value.int IntKind.i64
   v2)], [(4464, .box false 37 (PV.ar 37 v3)), (4465, .box false 159 (PV.ar 159 v4)), (4466, .box false 142 (PV.ar 142 v5)),
 (4467,
  Ent.vec false 5 false
   v6)], k => GM f (fun x0 x1 x2 x3 x4 => k (Ex.exit
 2) (Jj Vl N51 [.ptr 4464 [], .ptr 4465 [], .ptr 4466 [],
 PV.ow 5 4467 [] 0 x0
  none] [(4464, .box false 37 (PV.ar 37 x1)), (4465, .box false 159 (PV.ar 159 x2)), (4466, .box false 142 (PV.ar 142 x3)), (4467, .vec false 5 false x4)])) f v0 v1 v2 v3 v4 v5 v6
 | _, _, _ => none
theorem JC6 (f : Nat) : Jg Jgs JjN = [] := by kernel_rfl
theorem JIN (f : Nat) : (Item.l Jgs Zn N51 (Je4 f)).Ok tau Try.prog 0 := Ju Jn Zm Jo (x := JjN) (nm2 := Vl) (Jk _ _ (by rw [JC6 f]; intro q hq; cases hq)) fun vs hp k res hr => by
 unfold Je4 at hr
 split at hr
 · exact ⟨f, 0, (JoZ f _ f _ _ _ _ _ _ _ ).trans hr⟩
 · cases hr
abbrev W6 (v1 : Int) (v2 : Int) := (IntKind.i64.wrap (v1 + IntKind.i64.wrap (4 * v2)) + 1)
abbrev W7 (v1 : Int) (v2 : Int) := (IntKind.i64.wrap (v1 + IntKind.i64.wrap (4 * v2)) + 2)
abbrev W8 (v1 : Int) (v2 : Int) := (IntKind.i64.wrap (v1 + IntKind.i64.wrap (4 * v2)) + 3)
def Jbm (f : Nat) (rc : Nat -> Int -> Int -> List PV -> List PV -> List PV -> List PV -> List PV -> OR) (k0 : Nat -> Int -> List PV -> List PV -> List PV -> List PV -> List PV -> OR) (v0 : Nat) (v1 v2 : Int) (v3 v4 v5 v6 v7 : List PV) : OR := bif decide (v2 < 16) then bif decide (0 <= IntKind.i64.wrap (v1 + IntKind.i64.wrap (4 * v2))) && decide (IntKind.i64.wrap (v1 + IntKind.i64.wrap (4 * v2)) < zi v0) && true then bif PV.isInt IntKind.u8 (Jr (v6.getD (0 + (IntKind.i64.wrap (v1 + IntKind.i64.wrap (4 * v2))).toNat) PV.top) []) && true then bif decide (0 <= IntKind.i64.wrap (W6 v1 v2)) && decide (IntKind.i64.wrap (W6 v1 v2) < zi v0) && true then bif PV.isInt IntKind.u8 (Jr (v6.getD (0 + (IntKind.i64.wrap (W6 v1 v2)).toNat) PV.top) []) && true then bif decide (0 <= IntKind.i64.wrap (W7 v1 v2)) && decide (IntKind.i64.wrap (W7 v1 v2) < zi v0) && true then bif PV.isInt IntKind.u8 (Jr (v6.getD (0 + (IntKind.i64.wrap (W7 v1 v2)).toNat) PV.top) []) && true then bif decide (0 <= IntKind.i64.wrap (W8 v1 v2)) && decide (IntKind.i64.wrap (W8 v1 v2) < zi v0) && true then bif PV.isInt IntKind.u8 (Jr (v6.getD (0 + (IntKind.i64.wrap (W8 v1 v2)).toNat) PV.top) []) && true then bif decide (0 <= v2) && decide (v2 < zi 64) && true then rc v0 v1 (IntKind.i64.wrap (v2 + 1)) v3 v4 v5 v6 (v7.set v2.toNat (.sc (.int .u32 (JM BinOp.or IntKind.u32 (JM BinOp.or IntKind.u32 (JM BinOp.or IntKind.u32 (Xt IntKind.u32 (IntKind.u32.wrap (Jr (v6.getD (0 + (IntKind.i64.wrap (v1 + IntKind.i64.wrap (4 * v2))).toNat) PV.top) []).int) 24) (Xt IntKind.u32 (IntKind.u32.wrap (Jr (v6.getD (0 + (IntKind.i64.wrap (W6 v1 v2)).toNat) PV.top) []).int) 16)) (Xt IntKind.u32 (IntKind.u32.wrap (Jr (v6.getD (0 + (IntKind.i64.wrap (W7 v1 v2)).toNat) PV.top) []).int) 8)) (IntKind.u32.wrap (Jr (v6.getD (0 + (IntKind.i64.wrap (W8 v1 v2)).toNat) PV.top) []).int))))) else none else none else none else none else none else none else none else none else none else k0 v0 v1 v3 v4 v5 v6 v7
def GN (f : Nat) (k0 : Nat -> Int -> List PV -> List PV -> List PV -> List PV -> List PV -> OR) : Nat -> Nat -> Int -> Int -> List PV -> List PV -> List PV -> List PV -> List PV -> OR
 | 0, _, _, _, _, _, _, _, _ => none
 | n + 1, v0, v1, v2, v3, v4, v5, v6, v7 => Jbm f (GN f k0 n) k0 v0 v1 v2 v3 v4 v5 v6 v7
theorem JwP (f : Nat) (k : Kont) (n v0 : Nat) (v1 v2 : Int) (v3 v4 v5 v6 v7 : List PV) : Jy tau 0 Zo (fun s k => ev tau F51 0 0 Jgt (JjO ) s k) (n + 1) (Jj Zo N51 [.ptr 4464 [], .ptr 4465 [], .ptr 4466 [], .ow 5 4467 [] 0 v0 none, .ptr 4468 [], .sc (.int .i64 v1), .sc (.int .i64 v2)] [(4464, .box false 37 (PV.ar 37 v3)), (4465, .box false 159 (PV.ar 159 v4)), (4466, .box false 142 (PV.ar 142 v5)), (4467, .vec false 5 false v6), (4468, .box false 159 (PV.ar 159 v7))]) (JI tau 0 Vm k) = Jbm f (fun v0 v1 v2 v3 v4 v5 v6 v7 => Jy tau 0 Zo (fun s k => ev tau F51 0 0 Jgt (JjO ) s k) n (Jj Zo N51 [.ptr 4464 [], .ptr 4465 [], .ptr 4466 [], .ow 5 4467 [] 0 v0 none, .ptr 4468 [], .sc (.int .i64 v1), .sc (.int .i64 v2)] [(4464, .box false 37 (PV.ar 37 v3)), (4465, .box false 159 (PV.ar 159 v4)), (4466, .box false 142 (PV.ar 142 v5)), (4467, .vec false 5 false v6), (4468, .box false 159 (PV.ar 159 v7))]) (JI tau 0 Vm k)) (fun x0 x1 x2 x3 x4 x5 x6 => k (Ex.exit 6) (Jj Vm N51 [.ptr 4464 [], .ptr 4465 [], .ptr 4466 [], .ow 5 4467 [] 0 x0 none, .ptr 4468 [], .sc (.int .i64 x1)] [(4464, .box false 37 (PV.ar 37 x2)), (4465, .box false 159 (PV.ar 159 x3)), (4466, .box false 142 (PV.ar 142 x4)), (4467, .vec false 5 false x5), (4468, .box false 159 (PV.ar 159 x6))])) v0 v1 v2 v3 v4 v5 v6 v7 := by kernel_rfl
theorem Jo0 (f : Nat) (k : Kont) : ∀ (n v0 : Nat) (v1 v2 : Int) (v3 v4 v5 v6 v7 : List PV), Jy tau 0 Zo (fun s k => ev tau F51 0 0 Jgt (JjO ) s k) n (Jj Zo N51 [.ptr 4464 [], .ptr 4465 [], .ptr 4466 [], .ow 5 4467 [] 0 v0 none, .ptr 4468 [], .sc (.int .i64 v1), .sc (.int .i64 v2)] [(4464, .box false 37 (PV.ar 37 v3)), (4465, .box false 159 (PV.ar 159 v4)), (4466, .box false 142 (PV.ar 142 v5)), (4467, .vec false 5 false v6), (4468, .box false 159 (PV.ar 159 v7))]) (JI tau 0 Vm k) = GN f (fun x0 x1 x2 x3 x4 x5 x6 => k (Ex.exit 6) (Jj Vm N51 [.ptr 4464 [], .ptr 4465 [], .ptr 4466 [], .ow 5 4467 [] 0 x0 none, .ptr 4468 [], .sc (.int .i64 x1)] [(4464, .box false 37 (PV.ar 37 x2)), (4465, .box false 159 (PV.ar 159 x3)), (4466, .box false 142 (PV.ar 142 x4)), (4467, .vec false 5 false x5), (4468, .box false 159 (PV.ar 159 x6))])) n v0 v1 v2 v3 v4 v5 v6 v7 | 0, _, _, _, _, _, _, _, _ => rfl | n + 1, v0, v1, v2, v3, v4, v5, v6, v7 => (JwP f k n v0 v1 v2 v3 v4 v5 v6 v7).trans (congrArg (fun r => Jbm f r (fun x0 x1 x2 x3 x4 x5 x6 => k (Ex.exit 6) (Jj Vm N51 [.ptr 4464 [], .ptr 4465 [], .ptr 4466 [], .ow 5 4467 [] 0 x0 none, .ptr 4468 [], .sc (.int .i64 x1)] [(4464, .box false 37 (PV.ar 37 x2)), (4465, .box false 159 (PV.ar 159 x3)), (4466, .box false 142 (PV.ar 142 x4)), (4467, .vec false 5 false x5), (4468, .box false 159 (PV.ar 159 x6))])) v0 v1 v2 v3 v4 v5 v6 v7) (by funext v0 v1 v2 v3 v4 v5 v6 v7; exact Jo0 f k n v0 v1 v2 v3 v4 v5 v6 v7))
def Jc2 (f : Nat) : List PV -> List (Nat × Ent) -> Kont -> OR
 | [.ptr 4464 [], .ptr 4465 [], .ptr 4466 [], .ow 5 4467 [] 0 v0 none, .ptr 4468 [], .sc (.int .i64 v1),
 PV.sc
  (Value.int IntKind.i64
   v2)], [(4464, .box false 37 (PV.ar 37 v3)), (4465, .box false 159 (PV.ar 159 v4)), (4466, .box false 142 (PV.ar 142 v5)), (4467, .vec false 5 false v6),
 (4468,
  Ent.box false 159
   (PV.ar 159
    v7))], k => GN f (fun x0 x1 x2 x3 x4 x5 x6 => k (Ex.exit
 6) (Jj Vm N51 [.ptr 4464 [], .ptr 4465 [], .ptr 4466 [], .ow 5 4467 [] 0 x0 none, .ptr 4468 [],
 PV.sc
  (Value.int IntKind.i64
   x1)] [(4464, .box false 37 (PV.ar 37 x2)), (4465, .box false 159 (PV.ar 159 x3)), (4466, .box false 142 (PV.ar 142 x4)), (4467, .vec false 5 false x5),
 (4468, .box false 159 (PV.ar 159 x6))])) f v0 v1 v2 v3 v4 v5 v6 v7
 | _, _, _ => none
theorem JC7 (f : Nat) : Jg Jgt JjO = [] := by kernel_rfl
theorem JIO (f : Nat) : (Item.l Jgt Zo N51 (Jc2 f)).Ok tau Try.prog 0 := Ju Jn Zm Jo (x := JjO) (nm2 := Vm) (Jk _ _ (by rw [JC7 f]; intro q hq; cases hq)) fun vs hp k res hr => by
 unfold Jc2 at hr
 split at hr
 · exact ⟨f, 0, (Jo0 f _ f _ _ _ _ _ _ _ _ ).trans hr⟩
 · cases hr
abbrev W9 (v2 : Int) (v7 : List PV) := (Jr (PV.ar 159 v7) [(IntKind.i64.wrap (v2 - 15)).toNat])
abbrev Xa (v2 : Int) (v7 : List PV) := (Jr (PV.ar 159 v7) [(IntKind.i64.wrap (v2 - 2)).toNat])
def Jbn (f : Nat) (rc : Nat -> Int -> Int -> List PV -> List PV -> List PV -> List PV -> List PV -> OR) (k0 : Nat -> Int -> List PV -> List PV -> List PV -> List PV -> List PV -> OR) (v0 : Nat) (v1 v2 : Int) (v3 v4 v5 v6 v7 : List PV) : OR := bif decide (v2 < 64) then bif decide (0 <= IntKind.i64.wrap (v2 - 15)) && decide (IntKind.i64.wrap (v2 - 15) < zi 64) && true then bif PV.isInt IntKind.u32 (W9 v2 v7) && true then bif decide (0 <= IntKind.i64.wrap (v2 - 2)) && decide (IntKind.i64.wrap (v2 - 2) < zi 64) && true then bif PV.isInt IntKind.u32 (Xa v2 v7) && true then bif decide (0 <= IntKind.i64.wrap (v2 - 7)) && decide (IntKind.i64.wrap (v2 - 7) < zi 64) && true then bif PV.isInt IntKind.u32 (Jr (PV.ar 159 v7) [(IntKind.i64.wrap (v2 - 7)).toNat]) && true then bif decide (0 <= IntKind.i64.wrap (v2 - 16)) && decide (IntKind.i64.wrap (v2 - 16) < zi 64) && true then bif PV.isInt IntKind.u32 (Jr (PV.ar 159 v7) [(IntKind.i64.wrap (v2 - 16)).toNat]) && true then bif decide (0 <= v2) && decide (v2 < zi 64) && true then rc v0 v1 (IntKind.i64.wrap (v2 + 1)) v3 v4 v5 v6 (v7.set v2.toNat (.sc (.int .u32 (IntKind.u32.wrap (IntKind.u32.wrap (IntKind.u32.wrap (JM BinOp.xor IntKind.u32 (JM BinOp.xor IntKind.u32 (rr (Xa v2 v7).int 17) (rr (Xa v2 v7).int 19)) (JX IntKind.u32 (Xa v2 v7).int 10) + (Jr (PV.ar 159 v7) [(IntKind.i64.wrap (v2 - 7)).toNat]).int) + JM BinOp.xor IntKind.u32 (JM BinOp.xor IntKind.u32 (rr (W9 v2 v7).int 7) (rr (W9 v2 v7).int 18)) (JX IntKind.u32 (W9 v2 v7).int 3)) + (Jr (PV.ar 159 v7) [(IntKind.i64.wrap (v2 - 16)).toNat]).int))))) else none else none else none else none else none else none else none else none else none else k0 v0 v1 v3 v4 v5 v6 v7
def GO (f : Nat) (k0 : Nat -> Int -> List PV -> List PV -> List PV -> List PV -> List PV -> OR) : Nat -> Nat -> Int -> Int -> List PV -> List PV -> List PV -> List PV -> List PV -> OR
 | 0, _, _, _, _, _, _, _, _ => none
 | n + 1, v0, v1, v2, v3, v4, v5, v6, v7 => Jbn f (GO f k0 n) k0 v0 v1 v2 v3 v4 v5 v6 v7
theorem JwQ (f : Nat) (k : Kont) (n v0 : Nat) (v1 v2 : Int) (v3 v4 v5 v6 v7 : List PV) : Jy tau 0 Zp (fun s k => ev tau F51 0 0 Jgu (JjP ) s k) (n + 1) (Jj Zp N51 [.ptr 4464 [], .ptr 4465 [], .ptr 4466 [], .ow 5 4467 [] 0 v0 none, .ptr 4468 [], .sc (.int .i64 v1), .sc (.int .i64 v2)] [(4464, .box false 37 (PV.ar 37 v3)), (4465, .box false 159 (PV.ar 159 v4)), (4466, .box false 142 (PV.ar 142 v5)), (4467, .vec false 5 false v6), (4468, .box false 159 (PV.ar 159 v7))]) (JI tau 0 Vn k) = Jbn f (fun v0 v1 v2 v3 v4 v5 v6 v7 => Jy tau 0 Zp (fun s k => ev tau F51 0 0 Jgu (JjP ) s k) n (Jj Zp N51 [.ptr 4464 [], .ptr 4465 [], .ptr 4466 [], .ow 5 4467 [] 0 v0 none, .ptr 4468 [], .sc (.int .i64 v1), .sc (.int .i64 v2)] [(4464, .box false 37 (PV.ar 37 v3)), (4465, .box false 159 (PV.ar 159 v4)), (4466, .box false 142 (PV.ar 142 v5)), (4467, .vec false 5 false v6), (4468, .box false 159 (PV.ar 159 v7))]) (JI tau 0 Vn k)) (fun x0 x1 x2 x3 x4 x5 x6 => k (Ex.exit 8) (Jj Vn N51 [.ptr 4464 [], .ptr 4465 [], .ptr 4466 [], .ow 5 4467 [] 0 x0 none, .ptr 4468 [], .sc (.int .i64 x1)] [(4464, .box false 37 (PV.ar 37 x2)), (4465, .box false 159 (PV.ar 159 x3)), (4466, .box false 142 (PV.ar 142 x4)), (4467, .vec false 5 false x5), (4468, .box false 159 (PV.ar 159 x6))])) v0 v1 v2 v3 v4 v5 v6 v7 := by kernel_rfl
theorem Jo1 (f : Nat) (k : Kont) : ∀ (n v0 : Nat) (v1 v2 : Int) (v3 v4 v5 v6 v7 : List PV), Jy tau 0 Zp (fun s k => ev tau F51 0 0 Jgu (JjP ) s k) n (Jj Zp N51 [.ptr 4464 [], .ptr 4465 [], .ptr 4466 [], .ow 5 4467 [] 0 v0 none, .ptr 4468 [], .sc (.int .i64 v1), .sc (.int .i64 v2)] [(4464, .box false 37 (PV.ar 37 v3)), (4465, .box false 159 (PV.ar 159 v4)), (4466, .box false 142 (PV.ar 142 v5)), (4467, .vec false 5 false v6), (4468, .box false 159 (PV.ar 159 v7))]) (JI tau 0 Vn k) = GO f (fun x0 x1 x2 x3 x4 x5 x6 => k (Ex.exit 8) (Jj Vn N51 [.ptr 4464 [], .ptr 4465 [], .ptr 4466 [], .ow 5 4467 [] 0 x0 none, .ptr 4468 [], .sc (.int .i64 x1)] [(4464, .box false 37 (PV.ar 37 x2)), (4465, .box false 159 (PV.ar 159 x3)), (4466, .box false 142 (PV.ar 142 x4)), (4467, .vec false 5 false x5), (4468, .box false 159 (PV.ar 159 x6))])) n v0 v1 v2 v3 v4 v5 v6 v7 | 0, _, _, _, _, _, _, _, _ => rfl | n + 1, v0, v1, v2, v3, v4, v5, v6, v7 => (JwQ f k n v0 v1 v2 v3 v4 v5 v6 v7).trans (congrArg (fun r => Jbn f r (fun x0 x1 x2 x3 x4 x5 x6 => k (Ex.exit 8) (Jj Vn N51 [.ptr 4464 [], .ptr 4465 [], .ptr 4466 [], .ow 5 4467 [] 0 x0 none, .ptr 4468 [], .sc (.int .i64 x1)] [(4464, .box false 37 (PV.ar 37 x2)), (4465, .box false 159 (PV.ar 159 x3)), (4466, .box false 142 (PV.ar 142 x4)), (4467, .vec false 5 false x5), (4468, .box false 159 (PV.ar 159 x6))])) v0 v1 v2 v3 v4 v5 v6 v7) (by funext v0 v1 v2 v3 v4 v5 v6 v7; exact Jo1 f k n v0 v1 v2 v3 v4 v5 v6 v7))
def Jc3 (f : Nat) : List PV -> List (Nat × Ent) -> Kont -> OR
 | [.ptr 4464 [], .ptr 4465 [], .ptr 4466 [], .ow 5 4467 [] 0 v0 none, .ptr 4468 [], .sc (.int .i64 v1),
 PV.sc
  (Value.int IntKind.i64
   v2)], [(4464, .box false 37 (PV.ar 37 v3)), (4465, .box false 159 (PV.ar 159 v4)), (4466, .box false 142 (PV.ar 142 v5)), (4467, .vec false 5 false v6),
 (4468,
  Ent.box false 159
   (PV.ar 159
    v7))], k => GO f (fun x0 x1 x2 x3 x4 x5 x6 => k (Ex.exit
 8) (Jj Vn N51 [.ptr 4464 [], .ptr 4465 [], .ptr 4466 [], .ow 5 4467 [] 0 x0 none, .ptr 4468 [],
 PV.sc
  (Value.int IntKind.i64
   x1)] [(4464, .box false 37 (PV.ar 37 x2)), (4465, .box false 159 (PV.ar 159 x3)), (4466, .box false 142 (PV.ar 142 x4)), (4467, .vec false 5 false x5),
 (4468, .box false 159 (PV.ar 159 x6))])) f v0 v1 v2 v3 v4 v5 v6 v7
 | _, _, _ => none
theorem JC8 (f : Nat) : Jg Jgu JjP = [] := by kernel_rfl
theorem JIP (f : Nat) : (Item.l Jgu Zp N51 (Jc3 f)).Ok tau Try.prog 0 := Ju Jn Zm Jo (x := JjP) (nm2 := Vn) (Jk _ _ (by rw [JC8 f]; intro q hq; cases hq)) fun vs hp k res hr => by
 unfold Jc3 at hr
 split at hr
 · exact ⟨f, 0, (Jo1 f _ f _ _ _ _ _ _ _ _ ).trans hr⟩
 · cases hr
abbrev Zt (v2 : Int) (v4 : List PV) (v7 : List PV) (v8 : List PV) := (IntKind.u32.wrap (IntKind.u32.wrap (IntKind.u32.wrap ((Jr (PV.ar 142 v8) [7]).int + JM BinOp.xor IntKind.u32 (JM BinOp.xor IntKind.u32 (rr (Jr (PV.ar 142 v8) [4]).int 6) (rr (Jr (PV.ar 142 v8) [4]).int 11)) (rr (Jr (PV.ar 142 v8) [4]).int 25)) + JM BinOp.xor IntKind.u32 (JM BinOp.and IntKind.u32 (Jr (PV.ar 142 v8) [4]).int (Jr (PV.ar 142 v8) [5]).int) (JM BinOp.and IntKind.u32 (JM BinOp.xor IntKind.u32 (Int.ofNat (2 ^ IntKind.u32.bits - Nat.succ 0)) (Jr (PV.ar 142 v8) [4]).int) (Jr (PV.ar 142 v8) [6]).int)) + (Jr (PV.ar 159 v4) [v2.toNat]).int) + (Jr (PV.ar 159 v7) [v2.toNat]).int)
def Jbo (f : Nat) (rc : Nat -> Int -> Int -> List PV -> List PV -> List PV -> List PV -> List PV -> List PV -> OR) (k0 : Nat -> Int -> List PV -> List PV -> List PV -> List PV -> List PV -> List PV -> OR) (v0 : Nat) (v1 v2 : Int) (v3 v4 v5 v6 v7 v8 : List PV) : OR := bif decide (v2 < 64) then bif PV.isInt IntKind.u32 (Jr (PV.ar 142 v8) [4]) && true then bif PV.isInt IntKind.u32 (Jr (PV.ar 142 v8) [7]) && true then bif PV.isInt IntKind.u32 (Jr (PV.ar 142 v8) [5]) && true then bif PV.isInt IntKind.u32 (Jr (PV.ar 142 v8) [6]) && true then bif decide (0 <= v2) && decide (v2 < zi 64) && true then bif PV.isInt IntKind.u32 (Jr (PV.ar 159 v4) [v2.toNat]) && true then bif decide (0 <= v2) && decide (v2 < zi 64) && true then bif PV.isInt IntKind.u32 (Jr (PV.ar 159 v7) [v2.toNat]) && true then bif PV.isInt IntKind.u32 (Jr (PV.ar 142 v8) [0]) && true then bif PV.isInt IntKind.u32 (Jr (PV.ar 142 v8) [0]) && true then bif PV.isInt IntKind.u32 (Jr (PV.ar 142 v8) [0]) && true then bif PV.isInt IntKind.u32 (Jr (PV.ar 142 v8) [0]) && true then bif PV.isInt IntKind.u32 (Jr (PV.ar 142 v8) [1]) && true then bif PV.isInt IntKind.u32 (Jr (PV.ar 142 v8) [0]) && true then bif PV.isInt IntKind.u32 (Jr (PV.ar 142 v8) [2]) && true then bif PV.isInt IntKind.u32 (Jr (PV.ar 142 v8) [1]) && true then bif PV.isInt IntKind.u32 (Jr (PV.ar 142 v8) [2]) && true then bif PV.isInt IntKind.u32 (Jr (PV.ar 142 v8) [0]) && true then bif PV.isInt IntKind.u32 (Jr (PV.ar 142 v8) [1]) && true then bif PV.isInt IntKind.u32 (Jr (PV.ar 142 v8) [2]) && true then bif PV.isInt IntKind.u32 (Jr (PV.ar 142 v8) [3]) && true then bif PV.isInt IntKind.u32 (Jr (PV.ar 142 v8) [4]) && true then bif PV.isInt IntKind.u32 (Jr (PV.ar 142 v8) [5]) && true then bif PV.isInt IntKind.u32 (Jr (PV.ar 142 v8) [6]) && true then rc v0 v1 (IntKind.i64.wrap (v2 + 1)) v3 v4 v5 v6 v7 ([.sc (.int .u32 (IntKind.u32.wrap (IntKind.u32.wrap (Zt v2 v4 v7 v8) + IntKind.u32.wrap (JM BinOp.xor IntKind.u32 (JM BinOp.xor IntKind.u32 (rr (Jr (PV.ar 142 v8) [0]).int 2) (rr (Jr (PV.ar 142 v8) [0]).int 13)) (rr (Jr (PV.ar 142 v8) [0]).int 22) + JM BinOp.xor IntKind.u32 (JM BinOp.xor IntKind.u32 (JM BinOp.and IntKind.u32 (Jr (PV.ar 142 v8) [0]).int (Jr (PV.ar 142 v8) [1]).int) (JM BinOp.and IntKind.u32 (Jr (PV.ar 142 v8) [0]).int (Jr (PV.ar 142 v8) [2]).int)) (JM BinOp.and IntKind.u32 (Jr (PV.ar 142 v8) [1]).int (Jr (PV.ar 142 v8) [2]).int))))), .sc (.int .u32 (Jr (PV.ar 142 v8) [0]).int), .sc (.int .u32 (Jr (PV.ar 142 v8) [1]).int), .sc (.int .u32 (Jr (PV.ar 142 v8) [2]).int), .sc (.int .u32 (IntKind.u32.wrap ((Jr (PV.ar 142 v8) [3]).int + IntKind.u32.wrap (Zt v2 v4 v7 v8)))), .sc (.int .u32 (Jr (PV.ar 142 v8) [4]).int), .sc (.int .u32 (Jr (PV.ar 142 v8) [5]).int), .sc (.int .u32 (Jr (PV.ar 142 v8) [6]).int)]) else none else none else none else none else none else none else none else none else none else none else none else none else none else none else none else none else none else none else none else none else none else none else none else none else k0 v0 v1 v3 v4 v5 v6 v7 v8
def GP (f : Nat) (k0 : Nat -> Int -> List
 PV -> List PV -> List PV -> List PV -> List PV -> List PV -> OR) : Nat -> Nat -> Int -> Int -> List PV -> List PV -> List PV -> List PV -> List PV -> List PV -> OR
 | 0, _, _, _, _, _, _, _, _, _ => none
 | n + 1, v0, v1, v2, v3, v4, v5, v6, v7, v8 => Jbo f (GP f k0 n) k0 v0 v1 v2 v3 v4 v5 v6 v7 v8
theorem JwR (f : Nat) (k : Kont) (n v0 : Nat) (v1 v2 : Int) (v3 v4 v5 v6 v7 v8 : List PV) : Jy tau 0 Zq (fun s k => ev tau F51 0 0 Jgv (JjQ ) s k) (n + 1) (Jj Zq N51 [.ptr 4464 [], .ptr 4465 [], .ptr 4466 [], .ow 5 4467 [] 0 v0 none, .ptr 4468 [], .sc (.int .i64 v1), .ptr 4469 [], .sc (.int .i64 v2)] [(4464, .box false 37 (PV.ar 37 v3)), (4465, .box false 159 (PV.ar 159 v4)), (4466, .box false 142 (PV.ar 142 v5)), (4467, .vec false 5 false v6), (4468, .box false 159 (PV.ar 159 v7)), (4469, .box false 142 (PV.ar 142 v8))]) (JI tau 0 Vo k) = Jbo f (fun v0 v1 v2 v3 v4 v5 v6 v7 v8 => Jy tau 0 Zq (fun s k => ev tau F51 0 0 Jgv (JjQ ) s k) n (Jj Zq N51 [.ptr 4464 [], .ptr 4465 [], .ptr 4466 [], .ow 5 4467 [] 0 v0 none, .ptr 4468 [], .sc (.int .i64 v1), .ptr 4469 [], .sc (.int .i64 v2)] [(4464, .box false 37 (PV.ar 37 v3)), (4465, .box false 159 (PV.ar 159 v4)), (4466, .box false 142 (PV.ar 142 v5)), (4467, .vec false 5 false v6), (4468, .box false 159 (PV.ar 159 v7)), (4469, .box false 142 (PV.ar 142 v8))]) (JI tau 0 Vo k)) (fun x0 x1 x2 x3 x4 x5 x6 x7 => k (Ex.exit 10) (Jj Vo N51 [.ptr 4464 [], .ptr 4465 [], .ptr 4466 [], .ow 5 4467 [] 0 x0 none, .ptr 4468 [], .sc (.int .i64 x1), .ptr 4469 []] [(4464, .box false 37 (PV.ar 37 x2)), (4465, .box false 159 (PV.ar 159 x3)), (4466, .box false 142 (PV.ar 142 x4)), (4467, .vec false 5 false x5), (4468, .box false 159 (PV.ar 159 x6)), (4469, .box false 142 (PV.ar 142 x7))])) v0 v1 v2 v3 v4 v5 v6 v7 v8 := by kernel_rfl
theorem Jo2 (f : Nat) (k : Kont) : ∀ (n v0 : Nat) (v1 v2 : Int) (v3 v4 v5 v6 v7 v8 : List PV), Jy tau 0 Zq (fun s k => ev tau F51 0 0 Jgv (JjQ ) s k) n (Jj Zq N51 [.ptr 4464 [], .ptr 4465 [], .ptr 4466 [], .ow 5 4467 [] 0 v0 none, .ptr 4468 [], .sc (.int .i64 v1), .ptr 4469 [], .sc (.int .i64 v2)] [(4464, .box false 37 (PV.ar 37 v3)), (4465, .box false 159 (PV.ar 159 v4)), (4466, .box false 142 (PV.ar 142 v5)), (4467, .vec false 5 false v6), (4468, .box false 159 (PV.ar 159 v7)), (4469, .box false 142 (PV.ar 142 v8))]) (JI tau 0 Vo k) = GP f (fun x0 x1 x2 x3 x4 x5 x6 x7 => k (Ex.exit 10) (Jj Vo N51 [.ptr 4464 [], .ptr 4465 [], .ptr 4466 [], .ow 5 4467 [] 0 x0 none, .ptr 4468 [], .sc (.int .i64 x1), .ptr 4469 []] [(4464, .box false 37 (PV.ar 37 x2)), (4465, .box false 159 (PV.ar 159 x3)), (4466, .box false 142 (PV.ar 142 x4)), (4467, .vec false 5 false x5), (4468, .box false 159 (PV.ar 159 x6)), (4469, .box false 142 (PV.ar 142 x7))])) n v0 v1 v2 v3 v4 v5 v6 v7 v8 | 0, _, _, _, _, _, _, _, _, _ => rfl | n + 1, v0, v1, v2, v3, v4, v5, v6, v7, v8 => (JwR f k n v0 v1 v2 v3 v4 v5 v6 v7 v8).trans (congrArg (fun r => Jbo f r (fun x0 x1 x2 x3 x4 x5 x6 x7 => k (Ex.exit 10) (Jj Vo N51 [.ptr 4464 [], .ptr 4465 [], .ptr 4466 [], .ow 5 4467 [] 0 x0 none, .ptr 4468 [], .sc (.int .i64 x1), .ptr 4469 []] [(4464, .box false 37 (PV.ar 37 x2)), (4465, .box false 159 (PV.ar 159 x3)), (4466, .box false 142 (PV.ar 142 x4)), (4467, .vec false 5 false x5), (4468, .box false 159 (PV.ar 159 x6)), (4469, .box false 142 (PV.ar 142 x7))])) v0 v1 v2 v3 v4 v5 v6 v7 v8) (by funext v0 v1 v2 v3 v4 v5 v6 v7 v8; exact Jo2 f k n v0 v1 v2 v3 v4 v5 v6 v7 v8))
def Jc4 (f : Nat) : List PV -> List (Nat × Ent) -> Kont -> OR
 | [.ptr 4464 [], .ptr 4465 [], .ptr 4466 [], .ow 5 4467 [] 0 v0 none, .ptr 4468 [], .sc (.int .i64 v1), .ptr 4469 [],
 PV.sc
  (Value.int IntKind.i64
   v2)], [(4464, .box false 37 (PV.ar 37 v3)), (4465, .box false 159 (PV.ar 159 v4)), (4466, .box false 142 (PV.ar 142 v5)), (4467, .vec false 5 false v6),
 (4468, .box false 159 (PV.ar 159 v7)),
 (4469,
  Ent.box false 142
   (PV.ar 142
    v8))], k => GP f (fun x0 x1 x2 x3 x4 x5 x6 x7 => k (Ex.exit
 10) (Jj Vo N51 [.ptr 4464 [], .ptr 4465 [], .ptr 4466 [], .ow 5 4467 [] 0 x0 none, .ptr 4468 [], .sc (.int .i64 x1),
 PV.ptr 4469
  []] [(4464, .box false 37 (PV.ar 37 x2)), (4465, .box false 159 (PV.ar 159 x3)), (4466, .box false 142 (PV.ar 142 x4)), (4467, .vec false 5 false x5),
 (4468, .box false 159 (PV.ar 159 x6)), (4469, .box false 142 (PV.ar 142 x7))])) f v0 v1 v2 v3 v4 v5 v6 v7 v8
 | _, _, _ => none
theorem JC9 (f : Nat) : Jg Jgv JjQ = [] := by kernel_rfl
theorem JIQ (f : Nat) : (Item.l Jgv Zq N51 (Jc4 f)).Ok tau Try.prog 0 := Ju Jn Zm Jo (x := JjQ) (nm2 := Vo) (Jk _ _ (by rw [JC9 f]; intro q hq; cases hq)) fun vs hp k res hr => by
 unfold Jc4 at hr
 split at hr
 · exact ⟨f, 0, (Jo2 f _ f _ _ _ _ _ _ _ _ _ ).trans hr⟩
 · cases hr
def Jbp (f : Nat) (rc : Nat -> Int -> Int -> List PV -> List PV -> List PV -> List PV -> List PV -> List PV -> OR) (k0 : Nat -> Int -> List PV -> List PV -> List PV -> List PV -> List PV -> OR) (v0 : Nat) (v1 v2 : Int) (v3 v4 v5 v6 v7 v8 : List PV) : OR := bif decide (v2 < 8) then bif decide (0 <= v2) && decide (v2 < zi 8) && true then bif PV.isInt IntKind.u32 (Jr (PV.ar 142 v5) [v2.toNat]) && true then bif decide (0 <= v2) && decide (v2 < zi 8) && true then bif PV.isInt IntKind.u32 (Jr (PV.ar 142 v8) [v2.toNat]) && true then bif decide (0 <= v2) && decide (v2 < zi 8) && true then rc v0 v1 (IntKind.i64.wrap (v2 + 1)) v3 v4 (v5.set v2.toNat (.sc (.int .u32 (IntKind.u32.wrap ((Jr (PV.ar 142 v5) [v2.toNat]).int + (Jr (PV.ar 142 v8) [v2.toNat]).int))))) v6 v7 v8 else none else none else none else none else none else k0 v0 v1 v3 v4 v5 v6 v7
def GQ (f : Nat) (k0 : Nat -> Int -> List PV -> List PV -> List PV -> List PV -> List PV -> OR) : Nat -> Nat -> Int -> Int -> List PV -> List PV -> List PV -> List PV -> List PV -> List PV -> OR
 | 0, _, _, _, _, _, _, _, _, _ => none
 | n + 1, v0, v1, v2, v3, v4, v5, v6, v7, v8 => Jbp f (GQ f k0 n) k0 v0 v1 v2 v3 v4 v5 v6 v7 v8
theorem JwS (f : Nat) (k : Kont) (n v0 : Nat) (v1 v2 : Int) (v3 v4 v5 v6 v7 v8 : List PV) : Jy tau 0 Zr (fun s k => ev tau F51 0 0 Jgw (JjR ) s k) (n + 1) (Jj Zr N51 [.ptr 4464 [], .ptr 4465 [], .ptr 4466 [], .ow 5 4467 [] 0 v0 none, .ptr 4468 [], .sc (.int .i64 v1), .ptr 4469 [], .sc (.int .i64 v2)] [(4464, .box false 37 (PV.ar 37 v3)), (4465, .box false 159 (PV.ar 159 v4)), (4466, .box false 142 (PV.ar 142 v5)), (4467, .vec false 5 false v6), (4468, .box false 159 (PV.ar 159 v7)), (4469, .box false 142 (PV.ar 142 v8))]) (JI tau 0 Vp k) = Jbp f (fun v0 v1 v2 v3 v4 v5 v6 v7 v8 => Jy tau 0 Zr (fun s k => ev tau F51 0 0 Jgw (JjR ) s k) n (Jj Zr N51 [.ptr 4464 [], .ptr 4465 [], .ptr 4466 [], .ow 5 4467 [] 0 v0 none, .ptr 4468 [], .sc (.int .i64 v1), .ptr 4469 [], .sc (.int .i64 v2)] [(4464, .box false 37 (PV.ar 37 v3)), (4465, .box false 159 (PV.ar 159 v4)), (4466, .box false 142 (PV.ar 142 v5)), (4467, .vec false 5 false v6), (4468, .box false 159 (PV.ar 159 v7)), (4469, .box false 142 (PV.ar 142 v8))]) (JI tau 0 Vp k)) (fun x0 x1 x2 x3 x4 x5 x6 => k (Ex.exit 12) (Jj Vp N51 [.ptr 4464 [], .ptr 4465 [], .ptr 4466 [], .ow 5 4467 [] 0 x0 none, .ptr 4468 [], .sc (.int .i64 x1)] [(4464, .box false 37 (PV.ar 37 x2)), (4465, .box false 159 (PV.ar 159 x3)), (4466, .box false 142 (PV.ar 142 x4)), (4467, .vec false 5 false x5), (4468, .box false 159 (PV.ar 159 x6))])) v0 v1 v2 v3 v4 v5 v6 v7 v8 := by kernel_rfl
theorem Jo3 (f : Nat) (k : Kont) : ∀ (n v0 : Nat) (v1 v2 : Int) (v3 v4 v5 v6 v7 v8 : List PV), Jy tau 0 Zr (fun s k => ev tau F51 0 0 Jgw (JjR ) s k) n (Jj Zr N51 [.ptr 4464 [], .ptr 4465 [], .ptr 4466 [], .ow 5 4467 [] 0 v0 none, .ptr 4468 [], .sc (.int .i64 v1), .ptr 4469 [], .sc (.int .i64 v2)] [(4464, .box false 37 (PV.ar 37 v3)), (4465, .box false 159 (PV.ar 159 v4)), (4466, .box false 142 (PV.ar 142 v5)), (4467, .vec false 5 false v6), (4468, .box false 159 (PV.ar 159 v7)), (4469, .box false 142 (PV.ar 142 v8))]) (JI tau 0 Vp k) = GQ f (fun x0 x1 x2 x3 x4 x5 x6 => k (Ex.exit 12) (Jj Vp N51 [.ptr 4464 [], .ptr 4465 [], .ptr 4466 [], .ow 5 4467 [] 0 x0 none, .ptr 4468 [], .sc (.int .i64 x1)] [(4464, .box false 37 (PV.ar 37 x2)), (4465, .box false 159 (PV.ar 159 x3)), (4466, .box false 142 (PV.ar 142 x4)), (4467, .vec false 5 false x5), (4468, .box false 159 (PV.ar 159 x6))])) n v0 v1 v2 v3 v4 v5 v6 v7 v8 | 0, _, _, _, _, _, _, _, _, _ => rfl | n + 1, v0, v1, v2, v3, v4, v5, v6, v7, v8 => (JwS f k n v0 v1 v2 v3 v4 v5 v6 v7 v8).trans (congrArg (fun r => Jbp f r (fun x0 x1 x2 x3 x4 x5 x6 => k (Ex.exit 12) (Jj Vp N51 [.ptr 4464 [], .ptr 4465 [], .ptr 4466 [], .ow 5 4467 [] 0 x0 none, .ptr 4468 [], .sc (.int .i64 x1)] [(4464, .box false 37 (PV.ar 37 x2)), (4465, .box false 159 (PV.ar 159 x3)), (4466, .box false 142 (PV.ar 142 x4)), (4467, .vec false 5 false x5), (4468, .box false 159 (PV.ar 159 x6))])) v0 v1 v2 v3 v4 v5 v6 v7 v8) (by funext v0 v1 v2 v3 v4 v5 v6 v7 v8; exact Jo3 f k n v0 v1 v2 v3 v4 v5 v6 v7 v8))
def Jc5 (f : Nat) : List PV -> List (Nat × Ent) -> Kont -> OR
 | [.ptr 4464 [], .ptr 4465 [], .ptr 4466 [], .ow 5 4467 [] 0 v0 none, .ptr 4468 [], .sc (.int .i64 v1), .ptr 4469 [],
 PV.sc
  (Value.int IntKind.i64
   v2)], [(4464, .box false 37 (PV.ar 37 v3)), (4465, .box false 159 (PV.ar 159 v4)), (4466, .box false 142 (PV.ar 142 v5)), (4467, .vec false 5 false v6),
 (4468, .box false 159 (PV.ar 159 v7)),
 (4469,
  Ent.box false 142
   (PV.ar 142
    v8))], k => GQ f (fun x0 x1 x2 x3 x4 x5 x6 => k (Ex.exit
 12) (Jj Vp N51 [.ptr 4464 [], .ptr 4465 [], .ptr 4466 [], .ow 5 4467 [] 0 x0 none, .ptr 4468 [],
 PV.sc
  (Value.int IntKind.i64
   x1)] [(4464, .box false 37 (PV.ar 37 x2)), (4465, .box false 159 (PV.ar 159 x3)), (4466, .box false 142 (PV.ar 142 x4)), (4467, .vec false 5 false x5),
 (4468, .box false 159 (PV.ar 159 x6))])) f v0 v1 v2 v3 v4 v5 v6 v7 v8
 | _, _, _ => none
theorem JDa (f : Nat) : Jg Jgw JjR = [] := by kernel_rfl
theorem JIR (f : Nat) : (Item.l Jgw Zr N51 (Jc5 f)).Ok tau Try.prog 0 := Ju Jn Zm Jo (x := JjR) (nm2 := Vp) (Jk _ _ (by rw [JDa f]; intro q hq; cases hq)) fun vs hp k res hr => by
 unfold Jc5 at hr
 split at hr
 · exact ⟨f, 0, (Jo3 f _ f _ _ _ _ _ _ _ _ _ ).trans hr⟩
 · cases hr
def Jbq (f : Nat) (rc : Nat -> Int -> List PV -> List PV -> List PV -> List PV -> List PV -> OR) (k0 : List PV -> List PV -> OR) (v0 : Nat) (v1 : Int) (v2 v3 v4 v5 v6 : List PV) : OR := bif decide (v1 < zi v0) then GN f (fun x0_2 x1_2 x2_2 x3_2 x4_2 x5_2 x6_2 => GO f (fun x0_3 x1_3 x2_3 x3_3 x4_3 x5_3 x6_3 => GP f (fun x0_4 x1_4 x2_4 x3_4 x4_4 x5_4 x6_4 x7_4 => GQ f (fun x0_5 x1_5 x2_5 x3_5 x4_5 x5_5 x6_5 => rc x0_5 (IntKind.i64.wrap (x1_5 + 64)) x2_5 x3_5 x4_5 x5_5 x6_5) f x0_4 x1_4 (0) x2_4 x3_4 x4_4 x5_4 x6_4 x7_4) f x0_3 x1_3 (0) x2_3 x3_3 x4_3 x5_3 x6_3 x4_3) f x0_2 x1_2 (16) x2_2 x3_2 x4_2 x5_2 x6_2) f v0 v1 (0) v2 v3 v4 v5 v6 else k0 v2 v4
def GR (f : Nat) (k0 : List PV -> List PV -> OR) : Nat -> Nat -> Int -> List PV -> List PV -> List PV -> List PV -> List PV -> OR
 | 0, _, _, _, _, _, _, _ => none
 | n + 1, v0, v1, v2, v3, v4, v5, v6 => Jbq f (GR f k0 n) k0 v0 v1 v2 v3 v4 v5 v6
theorem JwT (f : Nat) (k : Kont) (n v0 : Nat) (v1 : Int) (v2 v3 v4 v5 v6 : List PV) : Jy tau 0 Zs (fun s k => ev tau F51 0 0 Jgx (JjS (Jc2 f) (Jc3 f) (Jc4 f) (Jc5 f)) s k) (n + 1) (Jj Zs N51 [.ptr 4464 [], .ptr 4465 [], .ptr 4466 [], .ow 5 4467 [] 0 v0 none, .ptr 4468 [], .sc (.int .i64 v1)] [(4464, .box false 37 (PV.ar 37 v2)), (4465, .box false 159 (PV.ar 159 v3)), (4466, .box false 142 (PV.ar 142 v4)), (4467, .vec false 5 false v5), (4468, .box false 159 (PV.ar 159 v6))]) (JI tau 0 Vq k) = Jbq f (fun v0 v1 v2 v3 v4 v5 v6 => Jy tau 0 Zs (fun s k => ev tau F51 0 0 Jgx (JjS (Jc2 f) (Jc3 f) (Jc4 f) (Jc5 f)) s k) n (Jj Zs N51 [.ptr 4464 [], .ptr 4465 [], .ptr 4466 [], .ow 5 4467 [] 0 v0 none, .ptr 4468 [], .sc (.int .i64 v1)] [(4464, .box false 37 (PV.ar 37 v2)), (4465, .box false 159 (PV.ar 159 v3)), (4466, .box false 142 (PV.ar 142 v4)), (4467, .vec false 5 false v5), (4468, .box false 159 (PV.ar 159 v6))]) (JI tau 0 Vq k)) (fun x0 x1 => k (Ex.exit 4) (Jj Vq N51 [.ptr 4464 [], .ptr 4465 []] [(4464, .box false 37 (PV.ar 37 x0)), (4465, .box false 142 (PV.ar 142 x1))])) v0 v1 v2 v3 v4 v5 v6 := by kernel_rfl
theorem Jo4 (f : Nat) (k : Kont) : ∀ (n v0 : Nat) (v1 : Int) (v2 v3 v4 v5 v6 : List PV), Jy tau 0 Zs (fun s k => ev tau F51 0 0 Jgx (JjS (Jc2 f) (Jc3 f) (Jc4 f) (Jc5 f)) s k) n (Jj Zs N51 [.ptr 4464 [], .ptr 4465 [], .ptr 4466 [], .ow 5 4467 [] 0 v0 none, .ptr 4468 [], .sc (.int .i64 v1)] [(4464, .box false 37 (PV.ar 37 v2)), (4465, .box false 159 (PV.ar 159 v3)), (4466, .box false 142 (PV.ar 142 v4)), (4467, .vec false 5 false v5), (4468, .box false 159 (PV.ar 159 v6))]) (JI tau 0 Vq k) = GR f (fun x0 x1 => k (Ex.exit 4) (Jj Vq N51 [.ptr 4464 [], .ptr 4465 []] [(4464, .box false 37 (PV.ar 37 x0)), (4465, .box false 142 (PV.ar 142 x1))])) n v0 v1 v2 v3 v4 v5 v6 | 0, _, _, _, _, _, _, _ => rfl | n + 1, v0, v1, v2, v3, v4, v5, v6 => (JwT f k n v0 v1 v2 v3 v4 v5 v6).trans (congrArg (fun r => Jbq f r (fun x0 x1 => k (Ex.exit 4) (Jj Vq N51 [.ptr 4464 [], .ptr 4465 []] [(4464, .box false 37 (PV.ar 37 x0)), (4465, .box false 142 (PV.ar 142 x1))])) v0 v1 v2 v3 v4 v5 v6) (by funext v0 v1 v2 v3 v4 v5 v6; exact Jo4 f k n v0 v1 v2 v3 v4 v5 v6))
def Je5 (f : Nat) : List PV -> List (Nat × Ent) -> Kont -> OR
 | [.ptr 4464 [], .ptr 4465 [], .ptr 4466 [], .ow 5 4467 [] 0 v0 none, .ptr 4468 [],
 PV.sc
  (Value.int IntKind.i64
   v1)], [(4464, .box false 37 (PV.ar 37 v2)), (4465, .box false 159 (PV.ar 159 v3)), (4466, .box false 142 (PV.ar 142 v4)), (4467, .vec false 5 false v5),
 (4468,
  Ent.box false 159
   (PV.ar 159
    v6))], k => GR f (fun x0 x1 => k (Ex.exit
 4) (Jj Vq N51 [.ptr 4464 [], .ptr 4465 []] [(4464, .box false 37 (PV.ar 37 x0)), (4465, .box false 142 (PV.ar 142 x1))])) f v0 v1 v2 v3 v4 v5 v6
 | _, _, _ => none
theorem JDb (f : Nat) : Jg Jgx (JjS (Jc2 f) (Jc3 f) (Jc4 f) (Jc5 f)) = [.l Jgt Zo N51 (Jc2 f), .l Jgu Zp N51 (Jc3 f), .l Jgv Zq N51 (Jc4 f), .l Jgw Zr N51 (Jc5 f)] := by kernel_rfl
theorem JIS (f : Nat) : (Item.l Jgx Zs N51 (Je5 f)).Ok tau Try.prog 0 := Ju Jn Zm Jo (x := (JjS (Jc2 f) (Jc3 f) (Jc4 f) (Jc5 f))) (nm2 := Vq) (Jk _ _ (by rw [JDb f]; simp only [List.forall_mem_cons, List.not_mem_nil, false_implies, implies_true, and_true]; exact ⟨JIO f, JIP f, JIQ f, JIR f⟩)) fun vs hp k res hr => by
 unfold Je5 at hr
 split at hr
 · exact ⟨f, 0, (Jo4 f _ f _ _ _ _ _ _ _ ).trans hr⟩
 · cases hr
abbrev Js8 := Int -> List PV -> List PV -> List PV -> OR
def Jbr (f : Nat) (rc : Js8) (k0 : List PV -> List PV -> OR) (v0 : Int) (v1 v2 v3 : List PV) : OR := bif decide (v0 < 8) then bif decide (0 <= v0) && decide (v0 < zi 8) && true then bif PV.isInt IntKind.u32 (Jr (PV.ar 142 v2) [v0.toNat]) && true then bif decide (0 <= v0) && decide (v0 < zi 8) && true then bif PV.isInt IntKind.u32 (Jr (PV.ar 142 v2) [v0.toNat]) && true then bif decide (0 <= v0) && decide (v0 < zi 8) && true then bif PV.isInt IntKind.u32 (Jr (PV.ar 142 v2) [v0.toNat]) && true then bif decide (0 <= v0) && decide (v0 < zi 8) && true then bif PV.isInt IntKind.u32 (Jr (PV.ar 142 v2) [v0.toNat]) && true then bif decide (0 <= IntKind.i64.wrap (4 * v0)) && decide (IntKind.i64.wrap (4 * v0) < zi 32) && true then bif decide (0 <= IntKind.i64.wrap (IntKind.i64.wrap (4 * v0) + 1)) && decide (IntKind.i64.wrap (IntKind.i64.wrap (4 * v0) + 1) < zi 32) && true then bif decide (0 <= IntKind.i64.wrap (IntKind.i64.wrap (4 * v0) + 2)) && decide (IntKind.i64.wrap (IntKind.i64.wrap (4 * v0) + 2) < zi 32) && true then bif decide (0 <= IntKind.i64.wrap (IntKind.i64.wrap (4 * v0) + 3)) && decide (IntKind.i64.wrap (IntKind.i64.wrap (4 * v0) + 3) < zi 32) && true then rc (IntKind.i64.wrap (v0 + 1)) v1 v2 ((((v3.set (IntKind.i64.wrap (4 * v0)).toNat (.sc (.int .u8 (IntKind.u8.wrap (JX IntKind.u32 (Jr (PV.ar 142 v2) [v0.toNat]).int 24))))).set (IntKind.i64.wrap (IntKind.i64.wrap (4 * v0) + 1)).toNat (.sc (.int .u8 (IntKind.u8.wrap (JX IntKind.u32 (Jr (PV.ar 142 v2) [v0.toNat]).int 16))))).set (IntKind.i64.wrap (IntKind.i64.wrap (4 * v0) + 2)).toNat (.sc (.int .u8 (IntKind.u8.wrap (JX IntKind.u32 (Jr (PV.ar 142 v2) [v0.toNat]).int 8))))).set (IntKind.i64.wrap (IntKind.i64.wrap (4 * v0) + 3)).toNat (.sc (.int .u8 (IntKind.u8.wrap (Jr (PV.ar 142 v2) [v0.toNat]).int)))) else none else none else none else none else none else none else none else none else none else none else none else none else k0 v1 v3
def GS (f : Nat) (k0 : List PV -> List PV -> OR) : Nat -> Js8
 | 0 => fun _ _ _ _ => none
 | n + 1 => Jbr f (GS f k0 n) k0
def Jbs (k : Kont) := fun x0 x1 => k (Ex.exit 14) (Jj JmE N51 [.ptr 4464 [], .ptr 4465 []] [(4464, .box false 37 (PV.ar 37 x0)), (4465, .box false 37 (PV.ar 37 x1))])
def JmG (f : Nat) (k : Kont) (n : Nat) (v0 : Int) (v1 v2 v3 : List PV) : OR := Jy tau 0 Je2 (fun s k => ev tau F51 0 0 JoX (Js6 ) s k) n (Jj Je2 N51 [.ptr 4464 [], .ptr 4465 [], .ptr 4466 [], .sc (.int .i64 v0)] [(4464, .box false 37 (PV.ar 37 v1)), (4465, .box false 142 (PV.ar 142 v2)), (4466, .box false 37 (PV.ar 37 v3))]) (JI tau 0 JmE k)
theorem JwU (f : Nat) (k : Kont) (n : Nat) : JmG f k (n + 1) = Jbr f (JmG f k n) (Jbs k) := by kernel_rfl
theorem Jo5 (f : Nat) (k : Kont) : ∀ n, JmG f k n = GS f (Jbs k) n
 | 0 => rfl
 | n + 1 => (JwU f k n).trans (congrArg (fun r => Jbr f r (Jbs k)) (Jo5 f k n))
def Je6 (f : Nat) : List PV -> List (Nat × Ent) -> Kont -> OR
 | [.ptr 4464 [], .ptr 4465 [], .ptr 4466 [],
 PV.sc
  (Value.int IntKind.i64
   v0)], [(4464, .box false 37 (PV.ar 37 v1)), (4465, .box false 142 (PV.ar 142 v2)),
 (4466,
  Ent.box false 37
   (PV.ar 37
    v3))], k => GS f (Jbs k) f v0 v1 v2 v3
 | _, _, _ => none
theorem JDc (f : Nat) : Jg JoX Js6 = [] := by kernel_rfl
theorem JIT (f : Nat) : (Item.l JoX Je2 N51 (Je6 f)).Ok tau Try.prog 0 := Ju Jn Zm Jo (x := Js6) (nm2 := JmE) (Jk _ _ (by rw [JDc f]; intro q hq; cases hq)) fun vs hp k res hr => by
 unfold Je6 at hr
 split at hr
 · exact ⟨f, 0, (Jo5 f _ f _ _ _ _ ).trans hr⟩
 · cases hr
abbrev Js9 := (Jcb)
def g51 (f : Nat) (nl fl : Bool) (b : List PV) (k : KR) : OR := bif Je (0 + b.length) 1 && true then bif Je (0 + b.length + 1) 1 && true then GL f (fun _ _ x2_0 JR x4_0 x5_0 x6_0 x7_0 => GM f (fun x0_1 x1_1 x2_1 JcE x4_1 => GR f (fun x0_6 x1_6 => GS f (fun _ x1_7 => k (Res.mk (.ar 37 x1_7) [] [])) f (0) x0_6 x1_6 Js9) f x0_1 (0) x1_1 x2_1 JcE x4_1 (Jn3)) f JR (IntKind.u64.wrap (IntKind.u64.wrap (zi x2_0.length) * 8)) (7) x4_0 x5_0 x6_0 x7_0) f nl fl b (0 + b.length + 1) Js9 ([.sc (.int .u32 1116352408), .sc (.int .u32 1899447441), .sc (.int .u32 3049323471), .sc (.int .u32 3921009573), .sc (.int .u32 961987163), .sc (.int .u32 1508970993), .sc (.int .u32 2453635748), .sc (.int .u32 2870763221), .sc (.int .u32 3624381080), .sc (.int .u32 310598401), .sc (.int .u32 607225278), .sc (.int .u32 1426881987), .sc (.int .u32 1925078388), .sc (.int .u32 2162078206), .sc (.int .u32 2614888103), .sc (.int .u32 3248222580), .sc (.int .u32 3835390401), .sc (.int .u32 4022224774), .sc (.int .u32 264347078), .sc (.int .u32 604807628), .sc (.int .u32 770255983), .sc (.int .u32 1249150122), .sc (.int .u32 1555081692), .sc (.int .u32 1996064986), .sc (.int .u32 2554220882), .sc (.int .u32 2821834349), .sc (.int .u32 2952996808), .sc (.int .u32 3210313671), .sc (.int .u32 3336571891), .sc (.int .u32 3584528711), .sc (.int .u32 113926993), .sc (.int .u32 338241895), .sc (.int .u32 666307205), .sc (.int .u32 773529912), .sc (.int .u32 1294757372), .sc (.int .u32 1396182291), .sc (.int .u32 1695183700), .sc (.int .u32 1986661051), .sc (.int .u32 2177026350), .sc (.int .u32 2456956037), .sc (.int .u32 2730485921), .sc (.int .u32 2820302411), .sc (.int .u32 3259730800), .sc (.int .u32 3345764771), .sc (.int .u32 3516065817), .sc (.int .u32 3600352804), .sc (.int .u32 4094571909), .sc (.int .u32 275423344), .sc (.int .u32 430227734), .sc (.int .u32 506948616), .sc (.int .u32 659060556), .sc (.int .u32 883997877), .sc (.int .u32 958139571), .sc (.int .u32 1322822218), .sc (.int .u32 1537002063), .sc (.int .u32 1747873779), .sc (.int .u32 1955562222), .sc (.int .u32 2024104815), .sc (.int .u32 2227730452), .sc (.int .u32 2361852424), .sc (.int .u32 2428436474), .sc (.int .u32 2756734187), .sc (.int .u32 3204031479), .sc (.int .u32 3329325298)]) ([.sc (.int .u32 1779033703), .sc (.int .u32 3144134277), .sc (.int .u32 1013904242), .sc (.int .u32 2773480762), .sc (.int .u32 1359893119), .sc (.int .u32 2600822924), .sc (.int .u32 528734635), .sc (.int .u32 1541459225)]) (List.take (0 + b.length) ([] ++ b) ++ [.sc (.int .u8 128)]) else none else none
theorem e51 (f : Nat) (nl fl : Bool) (b : List PV) (k : KR) : JK tau F51 Try.f51 (Try.f51.body.get!) (JwM (Je3 f) (Je4 f) (Je5 f) (Je6 f)) [] 0 [.ro 5 nl fl b] [] k = g51 f nl fl b k := by kernel_rfl
theorem JNh (f : Nat) : Jg (Try.f51.body.get!) (JwM (Je3 f) (Je4 f) (Je5 f) (Je6 f)) = [.l JoW Je1 N51 (Je3 f), .l Jgs Zn N51 (Je4 f), .l Jgx Zs N51 (Je5 f), .l JoX Je2 N51 (Je6 f)] := by kernel_rfl
theorem JNi (f : Nat) : ∀ q ∈ Jg (Try.f51.body.get!) (JwM (Je3 f) (Je4 f) (Je5 f) (Je6 f)), q.Ok tau Try.prog 0 := by rw [JNh f]; exact JL (JIM f) (JL (JIN f) (JL (JIS f) (JL (JIT f) (fun _ h => nomatch h))))
theorem JIU : Try.prog.funcs[51]? = some Try.f51 := by kernel_rfl
theorem JIV : Try.f51.body = some (Try.f51.body.get!) := by kernel_rfl
theorem JDd : Enters Try.prog 51 := enters_of JIU (by kernel_rfl) JIV
theorem Jta (v : PV) : Jr v [] = v := rfl
theorem X4 {R : List Int} (h : R.length = 8) (j : Nat) (hj : j < 8) : (pu .u32 R).getD j .top = .sc (.int .u32 (R.getD j 0)) := ZX (by omega)
theorem Jzq (f : Nat) (a b : Bool) (c x y w : List PV) (k0 : Bool -> Bool -> List PV -> Nat -> List PV -> List PV -> List PV -> List PV -> OR) : ∀ (d n : Nat) (L : List Int), zs L.length = d -> d < n -> L.length + d <= 140737488355200 ->
  GL f k0 n a b c L.length x y w (pu .u8 L) = k0 a b c (L.length + d) x y w (pu .u8 (L ++ List.replicate d 0))
 | 0, n + 1, L, hd, hn, hL => by
   simp only [GL, Jbj, Jeo]
   refine (Jd (by simp [zs] at hd ⊢; omega)).trans ?_
   simp
 | d + 1, n + 1, L, hd, hn, hL => by
   have hlt : d + 1 < 64 := by rw [← hd]; unfold zs; omega
   have c3 : Je (L.length + 1) 1 = true := by simp [Je]; omega
   simp only [GL, Jbj, Jeo, c3, Bool.and_true, cond_true, Yg]
   refine (Ja (by simp [zs] at hd ⊢; omega)).trans ?_
   rw [List.take_of_length_le (Nat.le_refl _)]
   have := Jzq f a b c x y w k0 d n (L ++ [0]) (by simp [zs] at hd ⊢; omega) (by omega) (by simp; omega)
   simp only [List.length_append, List.length_cons, List.length_nil, Nat.zero_add, Qa] at this
   refine this.trans ?_
   rw [show L.length + 1 + d = L.length + (d + 1) from by omega, List.replicate_succ]
   simp
def JwV (N : Int) (i : Nat) : Int := IntKind.u8.wrap (JX .u64 N (56 - 8 * (i : Int)))
theorem Jzr (f : Nat) (N : Int) (x y w : List PV) (k0 : Nat -> List PV -> List PV -> List PV -> List PV -> OR) (L : List Int) (hL : L.length <= 140737488355300) : ∀ (d i n : Nat), i + d = 8 -> d < n ->
  GM f k0 n (L.length + i) N (7 - (i : Int)) x y w (pu .u8 (L ++ (List.range i).map (JwV N))) = k0 (L.length + 8) x y w (pu .u8 (L ++ (List.range 8).map (JwV N)))
 | 0, i, n + 1, h, hn => by
   obtain rfl : i = 8 := by omega
   simp only [GM, Jbl]
   exact Jd (by decide)
 | d + 1, i, n + 1, h, hn => by
   have h1 : IntKind.i64.wrap (7 - (i : Int) - 1) = 7 - ((i + 1 : Nat) : Int) := by rw [wrap_i64 (by omega) (by omega)]; omega
   have h8 : IntKind.u64.wrap (7 - (i : Int)) = 7 - (i : Int) := by rw [QX]; omega
   have h9 : IntKind.u64.wrap (8 * (7 - (i : Int))) = 56 - 8 * (i : Int) := by rw [QX]; omega
   have c1 : decide (7 - (i : Int) >= 0) = true := by simp; omega
   have c2 : decide (0 <= 56 - 8 * (i : Int)) = true := by simp; omega
   have c3 : Je (L.length + i + 1) 1 = true := by simp [Je]; omega
   have hlen : (L ++ (List.range i).map (JwV N)).length = L.length + i := by simp
   simp only [GM, Jbl, h1, h8, h9, c1, c2, c3, Bool.and_true, cond_true, Yg]
   rw [List.take_of_length_le (by omega)]
   have := Jzr f N x y w k0 L hL d (i + 1) n (by omega) (by omega)
   rw [List.range_succ, List.map_append, ← List.append_assoc, Qa] at this
   exact this
theorem Jdv (P : List Int) (q j : Nat) (hj : j < 64) : ((P.drop (64 * q)).take 64).getD j 0 = P.getD (64 * q + j) 0 := by
 simp [List.getD_eq_getElem?_getD, hj, List.getElem?_drop]
theorem Jzs (P : List Int) (q : Nat) (hq : 64 * q + 64 <= P.length) (hP : P.length <= 140737488356000) (T : List Int) (hT : T.length = 64) (f : Nat) (x y w : List PV) (k0 : Nat -> Int -> List PV -> List PV -> List PV -> List PV -> List PV -> OR) : ∀ (d i n : Nat), i + d = 16 -> d < n ->
  GN f k0 n P.length ((64 * q : Nat) : Int) (i : Int) x y w (pu .u8 P) (pu .u32 (QR (word ((P.drop (64 * q)).take 64)) T i)) = k0 P.length ((64 * q : Nat) : Int) x y w (pu .u8 P) (pu .u32 (QR (word ((P.drop (64 * q)).take 64)) T 16))
 | 0, i, n + 1, h, hn => by
   obtain rfl : i = 16 := by omega
   simp only [GN, Jbm, W8, W7, W6]
   exact Jd (by decide)
 | d + 1, i, n + 1, h, hn => by
   have h4 : IntKind.i64.wrap (4 * (i : Int)) = ((4 * i : Nat) : Int) := by rw [wrap_i64 (by omega) (by omega)]; omega
   have h40 : IntKind.i64.wrap (((64 * q : Nat) : Int) + ((4 * i : Nat) : Int)) = ((64 * q + 4 * i : Nat) : Int) := by rw [wrap_i64 (by omega) (by omega)]; omega
   have h41 : IntKind.i64.wrap (((64 * q + 4 * i : Nat) : Int) + 1) = ((64 * q + (4 * i + 1) : Nat) : Int) := by rw [wrap_i64 (by omega) (by omega)]; omega
   have h42 : IntKind.i64.wrap (((64 * q + 4 * i : Nat) : Int) + 2) = ((64 * q + (4 * i + 2) : Nat) : Int) := by rw [wrap_i64 (by omega) (by omega)]; omega
   have h43 : IntKind.i64.wrap (((64 * q + 4 * i : Nat) : Int) + 3) = ((64 * q + (4 * i + 3) : Nat) : Int) := by rw [wrap_i64 (by omega) (by omega)]; omega
   have h5 := wI (i := i) (by omega)
   simp only [GN, Jbm, W8, W7, W6, h4, h40, h41, h42, h43, h5, Int.toNat_natCast, Nat.zero_add, Jta, zi]
   rw [J7 (by omega), J7 (by omega), J7 (by omega), J7 (by omega), QI (by omega), QI (by omega), QI (by omega), QI (by omega), Xq]
   refine (Ja (by simp; omega)).trans ?_
   refine (Ja (by simp only [Bool.and_true, Bool.and_eq_true, decide_eq_true_eq]; omega)).trans ?_
   refine (Ja rfl).trans ?_
   refine (Ja (by simp only [Bool.and_true, Bool.and_eq_true, decide_eq_true_eq]; omega)).trans ?_
   refine (Ja rfl).trans ?_
   refine (Ja (by simp only [Bool.and_true, Bool.and_eq_true, decide_eq_true_eq]; omega)).trans ?_
   refine (Ja rfl).trans ?_
   refine (Ja (by simp only [Bool.and_true, Bool.and_eq_true, decide_eq_true_eq]; omega)).trans ?_
   refine (Ja rfl).trans ?_
   refine (Ja (by simp only [Bool.and_true, Bool.and_eq_true, decide_eq_true_eq]; omega)).trans ?_
   have := Jzs P q hq hP T hT f x y w k0 d (i + 1) n (by omega) (by omega)
   rw [← QP _ T i (by omega), word, Jdv P q _ (by omega), Jdv P q _ (by omega), Jdv P q _ (by omega), Jdv P q _ (by omega)] at this
   exact this
def Gh (bs T : List Int) (i : Nat) : List Int := Q0 bs i ++ T.drop (16 + i)
theorem Jib (bs T : List Int) (hT : T.length = 64) (i : Nat) (h : i <= 48) : (Gh bs T i).length = 64 := by simp [Gh, Qg, hT]; omega
theorem VR (bs T : List Int) (i j : Nat) (h : j < 16 + i) : (Gh bs T i).getD j 0 = (Q0 bs i).getD j 0 := by
 simp only [Gh, List.getD_eq_getElem?_getD]
 rw [List.getElem?_append_left (by rw [Qg]; exact h)]
theorem Jqp (bs T : List Int) (hT : T.length = 64) (i : Nat) (h : i < 48) (x : Int) : (Gh bs T i).set (i + 16) x = (Q0 bs i ++ [x]) ++ T.drop (16 + (i + 1)) := by
 rw [Gh, List.set_append_right _ _ (by rw [Qg]; omega), Qg, List.drop_eq_getElem_cons (by omega), show i + 16 - (16 + i) = 0 from by omega, List.set_cons_zero]
 simp [Nat.add_assoc]
theorem JwW (w16 w15 w7 w2 : Int) : ww (ww (ww (sg1 w2 + w7) + sg0 w15) + w16) = JBg w16 w15 w7 w2 := by
 simp only [JBg, ww, Jjk]; omega
theorem Jzt (bs T : List Int) (hT : T.length = 64) (f : Nat) (l : Nat) (p : Int) (x y w e : List PV) (k0 : Nat -> Int -> List PV -> List PV -> List PV -> List PV -> List PV -> OR) : ∀ (d i n : Nat), i + d = 48 -> d < n ->
  GO f k0 n l p ((i + 16 : Nat) : Int) x y w e (pu .u32 (Gh bs T i)) = k0 l p x y w e (pu .u32 (Qt bs))
 | 0, i, n + 1, h, hn => by
   obtain rfl : i = 48 := by omega
   simp only [GO, Jbn, Xa, W9]
   refine (Jd (by decide)).trans ?_
   rw [Gh, List.drop_of_length_le (by omega), List.append_nil]; rfl
 | d + 1, i, n + 1, h, hn => by
   have h15 : IntKind.i64.wrap (((i + 16 : Nat) : Int) - 15) = ((i + 1 : Nat) : Int) := by rw [wrap_i64 (by omega) (by omega)]; omega
   have h2 : IntKind.i64.wrap (((i + 16 : Nat) : Int) - 2) = ((i + 14 : Nat) : Int) := by rw [wrap_i64 (by omega) (by omega)]; omega
   have h16 : IntKind.i64.wrap (((i + 16 : Nat) : Int) - 16) = ((i : Nat) : Int) := by rw [wrap_i64 (by omega) (by omega)]; omega
   have h7 : IntKind.i64.wrap (((i + 16 : Nat) : Int) - 7) = ((i + 9 : Nat) : Int) := by rw [wrap_i64 (by omega) (by omega)]; omega
   have h1 : IntKind.i64.wrap (((i + 16 : Nat) : Int) + 1) = ((i + 1 + 16 : Nat) : Int) := by rw [wrap_i64 (by omega) (by omega)]; omega
   have hl := Jib bs T hT i (by omega)
   simp only [GO, Jbn, Xa, W9, h15, h2, h16, h7, h1, Int.toNat_natCast, zi, Yh]
   rw [J7 (by omega), J7 (by omega), J7 (by omega), J7 (by omega), QI (by omega), QI (by omega), QI (by omega), QI (by omega), Xq]
   refine (Ja (by simp; omega)).trans ?_
   refine (Ja (by simp; omega)).trans ?_
   refine (Ja rfl).trans ?_
   refine (Ja (by simp; omega)).trans ?_
   refine (Ja rfl).trans ?_
   refine (Ja (by simp; omega)).trans ?_
   refine (Ja rfl).trans ?_
   refine (Ja (by simp; omega)).trans ?_
   refine (Ja rfl).trans ?_
   refine (Ja (by simp; omega)).trans ?_
   have := Jzt bs T hT f l p x y w e k0 d (i + 1) n (by omega) (by omega)
   rw [VR bs T i i (by omega), VR bs T i (i + 1) (by omega), VR bs T i (i + 9) (by omega), VR bs T i (i + 14) (by omega), Jqp bs T hT i (by omega)]
   have hn := JwW ((Q0 bs i).getD i 0) ((Q0 bs i).getD (i + 1) 0) ((Q0 bs i).getD (i + 9) 0) ((Q0 bs i).getD (i + 14) 0)
   rw [Gh, Q0, ← hn] at this
   exact this
theorem Jzu (W s : List Int) (hW : W.length = 64) (hs : s.length = 8) (f : Nat) (l : Nat) (p : Int) (x w e : List PV) (k0 : Nat -> Int -> List PV -> List PV -> List PV -> List PV -> List PV -> List PV -> OR) : ∀ (d i n : Nat), i + d = 64 -> d < n ->
  GP f k0 n l p (i : Int) x (pu .u32 kks) w e (pu .u32 W) (pu .u32 (Jcf W s i)) = k0 l p x (pu .u32 kks) w e (pu .u32 W) (pu .u32 (Jcf W s 64))
 | 0, i, n + 1, h, hn => by
   obtain rfl : i = 64 := by omega
   simp only [GP, Jbo, Zt]
   exact Jd (by decide)
 | d + 1, i, n + 1, h, hn => by
   have hl := Ym W s hs i
   have h1 := wI (i := i) (by omega)
   have hk : (pu .u32 kks).getD i .top = .sc (.int .u32 (kks.getD i 0)) := ZX (by show i < 64; omega)
   have hw : (pu .u32 W).getD i .top = .sc (.int .u32 (W.getD i 0)) := ZX (by omega)
   have c1 : decide ((i : Int) < 64) = true := by simp; omega
   have c2 : decide (0 <= (i : Int)) = true := by simp
   have c3 : decide ((i : Int) < zi 64) = true := by simp; omega
   simp only [GP, Jbo, Zt, Yh, Int.toNat_natCast, h1, hk, hw, c1, c2, c3, X4 hl 0 (by omega), X4 hl 1 (by omega), X4 hl 2 (by omega), X4 hl 3 (by omega), X4 hl 4 (by omega), X4 hl 5 (by omega), X4 hl 6 (by omega), X4 hl 7 (by omega), PV.isInt, PV.int, decide_true, Bool.and_true, cond_true]
   exact Jzu W s hW hs f l p x w e k0 d (i + 1) n (by omega) (by omega)
theorem Jzv (t s : List Int) (ht : t.length = 8) (hs : s.length = 8) (f : Nat) (l : Nat) (p : Int) (x y e u : List PV) (k0 : Nat -> Int -> List PV -> List PV -> List PV -> List PV -> List PV -> OR) : ∀ (d i n : Nat), i + d = 8 -> d < n ->
  GQ f k0 n l p (i : Int) x y (pu .u32 (QR (fun j => ww (t.getD j 0 + s.getD j 0)) s i)) e u (pu .u32 t) = k0 l p x y (pu .u32 ((List.range 8).map fun j => ww (t.getD j 0 + s.getD j 0))) e u
 | 0, i, n + 1, h, hn => by
   obtain rfl : i = 8 := by omega
   simp only [GQ, Jbp]
   refine (Jd (by decide)).trans ?_
   have := WZ (fun j => ww (t.getD j 0 + s.getD j 0)) s
   rw [hs] at this; rw [this]
 | d + 1, i, n + 1, h, hn => by
   have hl : (QR (fun j => ww (t.getD j 0 + s.getD j 0)) s i).length = 8 := by rw [JaM _ _ _ (by omega), hs]
   have h1 := wI (i := i) (by omega)
   have c1 : decide ((i : Int) < 8) = true := by simp; omega
   have c2 : decide (0 <= (i : Int)) = true := by simp
   have c3 : decide ((i : Int) < zi 8) = true := by simp; omega
   have g1 := tI i
   simp only [GQ, Jbp, Yh, g1, h1, c1, c2, c3, X4 hl i (by omega), X4 ht i (by omega), Jgh _ s i (by omega), PV.isInt, PV.int, decide_true, Bool.and_true, cond_true, Xq]
   have := Jzv t s ht hs f l p x y e u k0 d (i + 1) n (by omega) (by omega)
   rw [← QP _ s i (by omega), Int.add_comm (t.getD i 0)] at this
   exact this
theorem JIW (s : List Int) (i : Nat) : ZK s (4 * i) = IntKind.u8.wrap (JX .u32 (s.getD i 0) 24) := by
 rw [ZK, show 4 * i / 4 = i from by omega, show 4 * i % 4 = 0 from by omega]; rfl
theorem JIX (s : List Int) (i : Nat) : ZK s (4 * i + 1) = IntKind.u8.wrap (JX .u32 (s.getD i 0) 16) := by
 rw [ZK, show (4 * i + 1) / 4 = i from by omega, show (4 * i + 1) % 4 = 1 from by omega]; rfl
theorem JIY (s : List Int) (i : Nat) : ZK s (4 * i + 2) = IntKind.u8.wrap (JX .u32 (s.getD i 0) 8) := by
 rw [ZK, show (4 * i + 2) / 4 = i from by omega, show (4 * i + 2) % 4 = 2 from by omega]; rfl
theorem JIZ (s : List Int) (i : Nat) : ZK s (4 * i + 3) = IntKind.u8.wrap (s.getD i 0) := by
 rw [ZK, show (4 * i + 3) / 4 = i from by omega, show (4 * i + 3) % 4 = 3 from by omega]
 have : JX .u32 (s.getD i 0) (24 - 8 * ((3 : Nat) : Int)) = s.getD i 0 := by
  have h0 : (24 - 8 * ((3 : Nat) : Int)) = 0 := by decide
  rw [h0]; simp [JX]
 rw [this]
theorem Jzw (s : List Int) (hs : s.length = 8) (f : Nat) (k0 : List PV -> List PV -> OR) (a : List PV) (t : List Int) (ht : t.length = 32) : ∀ (d i n : Nat), i + d = 8 -> d < n ->
  GS f k0 n (i : Int) a (pu .u32 s) (pu .u8 (QR (ZK s) t (4 * i))) = k0 a (pu .u8 (Jr4 s))
 | 0, i, n + 1, h, hn => by
   obtain rfl : i = 8 := by omega
   simp only [GS, Jbr]
   refine (Jd (by decide)).trans ?_
   have := WZ (ZK s) t
   rw [ht] at this; rw [show 4 * 8 = 32 from rfl, this]; rfl
 | d + 1, i, n + 1, h, hn => by
   have h1 := wI (i := i) (by omega)
   have h4 : IntKind.i64.wrap (4 * (i : Int)) = ((4 * i : Nat) : Int) := by rw [wrap_i64 (by omega) (by omega)]; omega
   have h41 : IntKind.i64.wrap (((4 * i : Nat) : Int) + 1) = ((4 * i + 1 : Nat) : Int) := by rw [wrap_i64 (by omega) (by omega)]; omega
   have h42 : IntKind.i64.wrap (((4 * i : Nat) : Int) + 2) = ((4 * i + 2 : Nat) : Int) := by rw [wrap_i64 (by omega) (by omega)]; omega
   have h43 : IntKind.i64.wrap (((4 * i : Nat) : Int) + 3) = ((4 * i + 3 : Nat) : Int) := by rw [wrap_i64 (by omega) (by omega)]; omega
   have c1 : decide ((i : Int) < 8) = true := by simp; omega
   have c2 : decide (0 <= (i : Int)) = true := by simp
   have c3 : decide ((i : Int) < zi 8) = true := by simp; omega
   have b0 : (decide (0 <= ((4 * i : Nat) : Int)) && decide (((4 * i : Nat) : Int) < zi 32) && true) = true := by simp; omega
   have b1 : (decide (0 <= ((4 * i + 1 : Nat) : Int)) && decide (((4 * i + 1 : Nat) : Int) < zi 32) && true) = true := by simp; omega
   have b2 : (decide (0 <= ((4 * i + 2 : Nat) : Int)) && decide (((4 * i + 2 : Nat) : Int) < zi 32) && true) = true := by simp; omega
   have b3 : (decide (0 <= ((4 * i + 3 : Nat) : Int)) && decide (((4 * i + 3 : Nat) : Int) < zi 32) && true) = true := by simp; omega
   have g1 := tI i
   have g2 : (((4 * i : Nat) : Int)).toNat = 4 * i := by omega
   have g3 : (((4 * i + 1 : Nat) : Int)).toNat = 4 * i + 1 := by omega
   have g4 : (((4 * i + 2 : Nat) : Int)).toNat = 4 * i + 2 := by omega
   have g5 : (((4 * i + 3 : Nat) : Int)).toNat = 4 * i + 3 := by omega
   simp only [GS, Jbr, h1, h4, h41, h42, h43, b0, b1, b2, b3, g1, g2, g3, g4, g5, Yh, c1, c2, c3, X4 hs i (by omega), PV.isInt, PV.int, decide_true, Bool.and_true, cond_true, Xq]
   have := Jzw s hs f k0 a t ht d (i + 1) n (by omega) (by omega)
   rw [show 4 * (i + 1) = 4 * i + 3 + 1 from by omega, ← QP (ZK s) t (4 * i + 3) (by omega), ← QP (ZK s) t (4 * i + 2) (by omega), ← QP (ZK s) t (4 * i + 1) (by omega), ← QP (ZK s) t (4 * i) (by omega), JIW, JIX, JIY, JIZ] at this
   exact this
theorem Jzx (P : List Int) (m : Nat) (hP : P.length = 64 * m) (hb : P.length <= 140737488356000) (f : Nat) (hf : 100 <= f) (x : List PV) (k0 : List PV -> List PV -> OR) : ∀ (d i n : Nat) (T : List Int), i + d = m -> d < n -> T.length = 64 ->
  GR f k0 n P.length ((64 * i : Nat) : Int) x (pu .u32 kks) (pu .u32 (XY iv P i)) (pu .u8 P) (pu .u32 T) = k0 x (pu .u32 (XY iv P m))
 | 0, i, n + 1, T, h, hn, hT => by
   obtain rfl : i = m := by omega
   simp only [GR, Jbq]
   exact Jd (by simp [zi]; omega)
 | d + 1, i, n + 1, T, h, hn, hT => by
   have hfl := Xz iv P rfl i
   simp only [GR, Jbq]
   refine (Ja (by simp [zi]; omega)).trans ?_
   have e3 := fun kk => Jzs P i (by omega) hb T hT f x (pu .u32 kks) (pu .u32 (XY iv P i)) kk 16 0 f (by omega) (by omega)
   have e4 := fun kk => Jzt ((P.drop (64 * i)).take 64) T hT f P.length ((64 * i : Nat) : Int) x (pu .u32 kks) (pu .u32 (XY iv P i)) (pu .u8 P) kk 48 0 f (by omega) (by omega)
   have hW : (Qt ((P.drop (64 * i)).take 64)).length = 64 := Qg _ 48
   have e5 := fun kk => Jzu (Qt ((P.drop (64 * i)).take 64)) (XY iv P i) hW hfl f P.length ((64 * i : Nat) : Int) x (pu .u32 (XY iv P i)) (pu .u8 P) kk 64 0 f (by omega) (by omega)
   have e6 := fun kk => Jzv (Jcf (Qt ((P.drop (64 * i)).take 64)) (XY iv P i) 64) (XY iv P i) (Ym _ _ hfl 64) hfl f P.length ((64 * i : Nat) : Int) x (pu .u32 kks) (pu .u8 P) (pu .u32 (Qt ((P.drop (64 * i)).take 64))) kk 8 0 f (by omega) (by omega)
   have h0 : QR (word ((P.drop (64 * i)).take 64)) T 16 = Gh ((P.drop (64 * i)).take 64) T 0 := rfl
   rw [Wh] at e6
   simp only [Wh] at e3
   refine (e3 _).trans ?_
   rw [h0]
   refine (e4 _).trans ?_
   refine (e5 _).trans ?_
   refine (e6 _).trans ?_
   have h1 : IntKind.i64.wrap (((64 * i : Nat) : Int) + 64) = ((64 * (i + 1) : Nat) : Int) := by rw [wrap_i64 (by omega) (by omega)]; omega
   rw [h1]
   exact Jzx P m hP hb f hf x k0 d (i + 1) n (Qt ((P.drop (64 * i)).take 64)) (by omega) (by omega) hW
theorem JDe (bs : List Int) (hb : bs.length <= 140737488355000) (nl fl : Bool) (k : KR) : g51 ((Q6 bs).length / 64 + 100) nl fl (pu .u8 bs) k = k ⟨.ar 37 (pu .u8 (JZ bs)), [], []⟩ := by
 rw [Jdq]
 have hlen : (Q6 bs).length = bs.length + 1 + zs (bs.length + 1) + 8 := by simp [Q6, Jv0]; omega
 have hz : zs (bs.length + 1) < 64 := by unfold zs; omega
 have h64 : (Q6 bs).length = 64 * ((Q6 bs).length / 64) := JcY bs
 generalize hf : (Q6 bs).length / 64 + 100 = f
 refine (Ja (by simp [Je]; omega)).trans ?_
 refine (Ja (by simp [Je]; omega)).trans ?_
 have hL : List.take (0 + (pu .u8 bs).length) ([] ++ pu .u8 bs) ++ [PV.sc (Value.int IntKind.u8 128)] = pu .u8 (bs ++ [128]) := by
  rw [List.take_of_length_le (by simp)]; simp
 rw [hL]
 have e0 := fun kk x y w => Jzq f nl fl (pu .u8 bs) x y w kk (zs (bs.length + 1)) f (bs ++ [128]) (by simp) (by omega) (by simp; omega)
 simp only [List.length_append, List.length_cons, List.length_nil, Nat.zero_add] at e0
 have hl1 : 0 + (pu .u8 bs).length + 1 = bs.length + 1 := by simp
 rw [hl1]
 refine (e0 _ _ _ _).trans ?_
 have e1 := fun kk x y w => Jzr f (IntKind.u64.wrap (IntKind.u64.wrap (zi (pu .u8 bs).length) * 8)) x y w kk (bs ++ [128] ++ List.replicate (zs (bs.length + 1)) 0) (by simp; omega) 8 0 f (by omega) (by omega)
 have hl2 : (bs ++ [128] ++ List.replicate (zs (bs.length + 1)) 0).length = bs.length + 1 + zs (bs.length + 1) := by simp; omega
 rw [hl2] at e1
 simp only [List.range_zero, List.map_nil, List.append_nil, Nat.add_zero] at e1
 refine (e1 _ _ _ _).trans ?_
 have hPd : bs ++ [128] ++ List.replicate (zs (bs.length + 1)) 0 ++ (List.range 8).map (JwV (IntKind.u64.wrap (IntKind.u64.wrap (zi (pu .u8 bs).length) * 8))) = Q6 bs := by
  rw [JG]; rfl
 rw [hPd, ← hlen]
 have e2 := fun kk x => Jzx (Q6 bs) ((Q6 bs).length / 64) h64 (by omega) f (by omega) x kk ((Q6 bs).length / 64) 0 f (List.replicate 64 0) (by omega) (by omega) (by simp)
 refine (e2 _ _).trans ?_
 have hfl := Xz iv (Q6 bs) rfl ((Q6 bs).length / 64)
 have e7 := fun kk a => Jzw (XY iv (Q6 bs) ((Q6 bs).length / 64)) hfl f kk a (List.replicate 32 0) (by simp) 8 0 f (by omega) (by omega)
 simp only [Nat.mul_zero, Wh] at e7
 exact e7 _ _
def JmH : JA
 | [.ro 5 nl fl b], [], k => bif Jl .u8 b && decide (b.length <= 140737488355000) then k ⟨.ar 37 (pu .u8 (JZ (JD b))), [], []⟩ else none
 | _, _, _ => none
def JwX : Sig := { own := [], run := JmH }
theorem Jtb : Jc tau Try.prog 51 JwX := Jg7 Jn Zm Jo JIU JIV (fun n => JwM (Je3 n) (Je4 n) (Je5 n) (Je6 n)) [] 0 [] JmH (fun n => JNi n) fun xs es k res hr => by
 unfold JmH at hr
 split at hr
 · rename_i nl fl l
   obtain ⟨hc, hr⟩ := Jw hr
   simp only [Bool.and_eq_true, decide_eq_true_eq] at hc
   refine ⟨rfl, (Q6 (JD l)).length / 64 + 100, 0, (e51 _ _ _ _ _).trans ?_⟩
   have he := QC hc.1
   have := JDe (JD l) (by simpa using hc.2) nl fl k
   rw [← he] at this
   rw [this]; exact hr
 · cases hr
def N31 : Nat := 53
def F31 : Fns := Js 51 JwX (F0)
theorem Jtc : Jq tau Try.prog F31 := (Jt).add Jtb JDd
def Jo6 : Code := Qj (Try.f31.body.get!) [1, 1, 1, 1, 0, 1, 0, 0]
def Je7 : Nm := [(1, .any), (4, .any), (5, .any), (7, .any), (8, .any), (9, .any)]
def JmI : Nm := [(1, .any), (4, .any), (7, .any), (8, .any)]
def Jtd : An := (.seq (.seq .leaf (.cond .leaf .leaf)) (.seq (.block none .leaf) .leaf))
def JwY (r0 : Qz) : An := (.seq .leaf (.seq .leaf (.seq (.seq .leaf (.cond (.seq .leaf .leaf) .leaf)) (.seq .leaf (.seq (.seq .leaf (.block none (.sum Je7 N31 r0))) (.seq .leaf (.seq .leaf .leaf)))))))
abbrev Jte := Bool -> Bool -> List PV -> Int -> List PV -> List PV -> List PV -> List PV -> OR
def Jbt (f : Nat) (rc : Jte) (k0 : Bool -> Bool -> List PV -> List PV -> List PV -> List PV -> OR) (v0 v1 : Bool) (v2 : List PV) (v3 : Int) (v4 v5 v6 v7 : List PV) : OR := bif decide (v3 < 64) then bif decide (0 <= v3) && decide (v3 < zi 64) && true then bif PV.isInt IntKind.u8 (Jr (v5.getD (0 + v3.toNat) PV.top) []) && true then bif decide (0 <= v3) && decide (v3 < zi 64) && true then bif PV.isInt IntKind.u8 (Jr (v5.getD (0 + v3.toNat) PV.top) []) && true then bif decide (0 <= v3) && decide (v3 < zi 64) && true then bif decide (0 <= v3) && decide (v3 < zi 64) && true then rc v0 v1 v2 (IntKind.i64.wrap (v3 + 1)) v4 v5 (v6.set (0 + v3.toNat) (.sc (.int .u8 (JM BinOp.xor IntKind.u8 (Jr (v5.getD (0 + v3.toNat) PV.top) []).int 54)))) (v7.set (0 + v3.toNat) (.sc (.int .u8 (JM BinOp.xor IntKind.u8 (Jr (v5.getD (0 + v3.toNat) PV.top) []).int 92)))) else none else none else none else none else none else none else k0 v0 v1 v2 v4 v6 v7
def X5 (f : Nat) (k0 : Bool -> Bool -> List PV -> List PV -> List PV -> List PV -> OR) : Nat -> Jte
 | 0 => fun _ _ _ _ _ _ _ _ => none
 | n + 1 => Jbt f (X5 f k0 n) k0
def Jbu (k : Kont) := fun x0 x1 x2 x3 x4 x5 => k (Ex.exit 0) (Jj JmI N31 [.ro 5 x0 x1 x2, .ptr 864 [], .ow 5 865 [] 0 64 (some 64), .ow 5 866 [] 0 64 (some 64)] [(864, .box false 37 (PV.ar 37 x3)), (865, .vec false 5 false x4), (866, .vec false 5 false x5)])
def JmJ (f : Nat) (k : Kont) (n : Nat) (v0 v1 : Bool) (v2 : List PV) (v3 : Int) (v4 v5 v6 v7 : List PV) : OR := Jy tau 0 Je7 (fun s k => ev tau F31 0 0 Jo6 (Jtd ) s k) n (Jj Je7 N31 [.ro 5 v0 v1 v2, .ptr 864 [], .ow 5 865 [] 0 64 (some 64), .ow 5 866 [] 0 64 (some 64), .ow 5 867 [] 0 64 (some 64), .sc (.int .i64 v3)] [(864, .box false 37 (PV.ar 37 v4)), (865, .vec false 5 false v5), (866, .vec false 5 false v6), (867, .vec false 5 false v7)]) (JI tau 0 JmI k)
theorem JwZ (f : Nat) (k : Kont) (n : Nat) : JmJ f k (n + 1) = Jbt f (JmJ f k n) (Jbu k) := by kernel_rfl
theorem Jo7 (f : Nat) (k : Kont) : ∀ n, JmJ f k n = X5 f (Jbu k) n
 | 0 => rfl
 | n + 1 => (JwZ f k n).trans (congrArg (fun r => Jbt f r (Jbu k)) (Jo7 f k n))
def Je8 (f : Nat) : List PV -> List (Nat × Ent) -> Kont -> OR
 | [.ro 5 v0 v1 v2, .ptr 864 [], .ow 5 865 [] 0 64 (some 64), .ow 5 866 [] 0 64 (some 64), .ow 5 867 [] 0 64 (some 64),
 PV.sc
  (Value.int IntKind.i64
   v3)], [(864, .box false 37 (PV.ar 37 v4)), (865, .vec false 5 false v5), (866, .vec false 5 false v6),
 (867,
  Ent.vec false 5 false
   v7)], k => X5 f (Jbu k) f v0 v1 v2 v3 v4 v5 v6 v7
 | _, _, _ => none
theorem JDf (f : Nat) : Jg Jo6 Jtd = [] := by kernel_rfl
theorem JDg (f : Nat) : (Item.l Jo6 Je7 N31 (Je8 f)).Ok tau Try.prog 0 := Ju Jn Jtc Jo (x := Jtd) (nm2 := JmI) (Jk _ _ (by rw [JDf f]; intro q hq; cases hq)) fun vs hp k res hr => by
 unfold Je8 at hr
 split at hr
 · rw [← Jo7 f] at hr; exact ⟨f, 0, hr⟩
 · cases hr
abbrev Jcm := JAq
abbrev Jtf := (Jcb)
def g31 (f : Nat) (y0 y1 : Bool) (key : List PV) (y2 y3 : Bool) (text : List PV) (k : KR) : OR := bif decide (zi key.length > 64) then bif Jl IntKind.u8 key && decide (key.length <= 140737488355000) then X5 f (fun _ _ x2_0 _ x4_0 x5_0 => bif Je (64 + x2_0.length) 1 && true then bif Jl IntKind.u8 (List.take (64 + x2_0.length) (List.take 64 x4_0 ++ x2_0)) && decide ((List.take (64 + x2_0.length) (List.take 64 x4_0 ++ x2_0)).length <= 140737488355000) then bif Je (64 + (List.take 32 (pu IntKind.u8 (JZ (JD (List.take (64 + x2_0.length) (List.take 64 x4_0 ++ x2_0)))))).length) 1 && true then bif Jl IntKind.u8 (List.take (64 + (List.take 32 (pu IntKind.u8 (JZ (JD (List.take (64 + x2_0.length) (List.take 64 x4_0 ++ x2_0)))))).length) (List.take 64 x5_0 ++ List.take 32 (pu IntKind.u8 (JZ (JD (List.take (64 + x2_0.length) (List.take 64 x4_0 ++ x2_0))))))) && decide ((List.take (64 + (List.take 32 (pu IntKind.u8 (JZ (JD (List.take (64 + x2_0.length) (List.take 64 x4_0 ++ x2_0)))))).length) (List.take 64 x5_0 ++ List.take 32 (pu IntKind.u8 (JZ (JD (List.take (64 + x2_0.length) (List.take 64 x4_0 ++ x2_0))))))).length <= 140737488355000) then k (Res.mk (.ar 37 (pu IntKind.u8 (JZ (JD (List.take (64 + (List.take 32 (pu IntKind.u8 (JZ (JD (List.take (64 + x2_0.length) (List.take 64 x4_0 ++ x2_0)))))).length) (List.take 64 x5_0 ++ List.take 32 (pu IntKind.u8 (JZ (JD (List.take (64 + x2_0.length) (List.take 64 x4_0 ++ x2_0))))))))))) [] []) else none else none else none else none) f y2 y3 text (0) Jtf (List.take 64 (List.take 32 (pu IntKind.u8 (JZ (JD key)))) ++ List.drop (0 + min (List.take 32 (pu IntKind.u8 (JZ (JD key)))).length 64) Jcm) (Jcm) (Jcm) else none else X5 f (fun _ _ x2_1 _ x4_1 x5_1 => bif Je (64 + x2_1.length) 1 && true then bif Jl IntKind.u8 (List.take (64 + x2_1.length) (List.take 64 x4_1 ++ x2_1)) && decide ((List.take (64 + x2_1.length) (List.take 64 x4_1 ++ x2_1)).length <= 140737488355000) then bif Je (64 + (List.take 32 (pu IntKind.u8 (JZ (JD (List.take (64 + x2_1.length) (List.take 64 x4_1 ++ x2_1)))))).length) 1 && true then bif Jl IntKind.u8 (List.take (64 + (List.take 32 (pu IntKind.u8 (JZ (JD (List.take (64 + x2_1.length) (List.take 64 x4_1 ++ x2_1)))))).length) (List.take 64 x5_1 ++ List.take 32 (pu IntKind.u8 (JZ (JD (List.take (64 + x2_1.length) (List.take 64 x4_1 ++ x2_1))))))) && decide ((List.take (64 + (List.take 32 (pu IntKind.u8 (JZ (JD (List.take (64 + x2_1.length) (List.take 64 x4_1 ++ x2_1)))))).length) (List.take 64 x5_1 ++ List.take 32 (pu IntKind.u8 (JZ (JD (List.take (64 + x2_1.length) (List.take 64 x4_1 ++ x2_1))))))).length <= 140737488355000) then k (Res.mk (.ar 37 (pu IntKind.u8 (JZ (JD (List.take (64 + (List.take 32 (pu IntKind.u8 (JZ (JD (List.take (64 + x2_1.length) (List.take 64 x4_1 ++ x2_1)))))).length) (List.take 64 x5_1 ++ List.take 32 (pu IntKind.u8 (JZ (JD (List.take (64 + x2_1.length) (List.take 64 x4_1 ++ x2_1))))))))))) [] []) else none else none else none else none) f y2 y3 text (0) Jtf (List.take 64 key ++ List.drop (0 + min key.length 64) Jcm) (Jcm) (Jcm)
theorem e31 (f : Nat) (y0 y1 : Bool) (key : List PV) (y2 y3 : Bool) (text : List PV) (k : KR) : JK tau F31 Try.f31 (Try.f31.body.get!) (JwY (Je8 f)) [.ro] 0 [.ro 5 y0 y1 key, .ro 5 y2 y3 text] [] k = g31 f y0 y1 key y2 y3 text k := by kernel_rfl
theorem JNj (f : Nat) : Jg (Try.f31.body.get!) (JwY (Je8 f)) = [.l Jo6 Je7 N31 (Je8 f)] := by kernel_rfl
theorem JNk (f : Nat) : ∀ q ∈ Jg (Try.f31.body.get!) (JwY (Je8 f)), q.Ok tau Try.prog 0 := by rw [JNj f]; exact JL (JDg f) (fun _ h => nomatch h)
theorem JI0 : Try.prog.funcs[31]? = some Try.f31 := by kernel_rfl
theorem JI1 : Try.f31.body = some (Try.f31.body.get!) := by kernel_rfl
theorem JI2 : Enters Try.prog 31 := enters_of JI0 (by kernel_rfl) JI1






def Zu (l : List Int) (x : Int) : List Int := l.map fun b => JM .xor .u8 b x
@[simp] theorem Jzy (l : List Int) (x : Int) : (Zu l x).length = l.length := by simp [Zu]
theorem Jtg (K : List Int) (hK : K.length = 64) (x : Int) : (List.range 64).map (fun j => JM .xor .u8 x (K.getD j 0)) = Zu K x := by
 apply List.ext_getElem
 · simp [hK]
 · intro i h1 h2
   have h1' : i < K.length := by simpa using h2
   simp only [List.getElem_map, List.getElem_range, Zu]
   rw [Gg, List.getD_eq_getElem?_getD, List.getElem?_eq_getElem h1']; rfl

theorem Jc6 (a b : List PV) : JD (a ++ b) = JD a ++ JD b := by simp [JD]
@[simp] theorem JI3 : JD [] = [] := rfl
def Jth (s : List Int) : List Int := s ++ List.replicate (64 - s.length) 0
def JjT (key : List Int) : List Int := if key.length > 64 then Jth (JZ key) else Jth key
def Jti (key text : List Int) : List Int := JZ (Zu (JjT key) 92 ++ JZ (Zu (JjT key) 54 ++ text))
def JfP : List Int -> List Int -> List Int := hid Jti
theorem Jo8 (key text : List Int) : JfP key text = Jti key text := by rw [JfP, hid_eq]
theorem JjU (key text : List Int) : (JfP key text).length = 32 := by rw [Jo8]; exact Qx _
theorem Jc7 (key : List Int) : (JjT key).length = 64 := by
 unfold JjT Jth
 split
 · rw [List.length_append, Qx, List.length_replicate]
 · rw [List.length_append, List.length_replicate]; omega
def kbG (src : List PV) : List PV := [] ++ List.take 64 src ++ List.drop (0 + min src.length 64) (pu .u8 (List.replicate 64 0))
theorem Jtj (s : List Int) (h : s.length <= 64) : kbG (pu .u8 s) = pu .u8 (Jth s) := by
 unfold kbG Jth
 rw [JG, show 0 + min s.length 64 = s.length from by omega, Jn1, List.drop_replicate, List.take_of_length_le (by simpa using h), List.nil_append, ← Qa]
theorem Jgy (K : List Int) (hK : K.length = 64) (x : Int) : (List.range 64).map (fun j => JM .xor .u8 (K.getD j 0) x) = Zu K x := by
 rw [← Jtg K hK x]
 apply List.map_congr_left
 intro j _
 exact Gg _ _ _
theorem Jzz (K : List Int) (hK : K.length = 64) (f : Nat) (k0 : Bool -> Bool -> List PV -> List PV -> List PV -> List PV -> OR) (tz tf : Bool) (text h : List PV) : ∀ (d i n : Nat), i + d = 64 -> d < n ->
  X5 f k0 n tz tf text (i : Int) h (pu .u8 K) (pu .u8 (QR (fun j => JM .xor .u8 (K.getD j 0) 54) (List.replicate 64 0) i)) (pu .u8 (QR (fun j => JM .xor .u8 (K.getD j 0) 92) (List.replicate 64 0) i)) = k0 tz tf text h (pu .u8 (Zu K 54)) (pu .u8 (Zu K 92))
 | 0, i, n + 1, hh, hn => by
   obtain rfl : i = 64 := by omega
   simp only [X5, Jbt]
   refine (Jd (by decide)).trans ?_
   have h1 := WZ (fun j => JM .xor .u8 (K.getD j 0) 54) (List.replicate 64 0)
   have h2 := WZ (fun j => JM .xor .u8 (K.getD j 0) 92) (List.replicate 64 0)
   rw [List.length_replicate] at h1 h2
   rw [h1, h2, Jgy K hK, Jgy K hK]
 | d + 1, i, n + 1, hh, hn => by
   have g1 := tI i
   have h1 := wI (i := i) (by omega)
   have c0 : (decide (0 <= (i : Int)) && decide ((i : Int) < zi 64) && true) = true := by simp; omega
   simp only [X5, Jbt, g1, h1, Nat.zero_add, Jr]
   rw [J7 (by omega), QI (by omega), Xq, Xq]
   refine (Ja (by simp; omega)).trans ((Ja c0).trans ((Ja rfl).trans ((Ja c0).trans ((Ja rfl).trans ((Ja c0).trans ((Ja c0).trans ?_))))))
   have := Jzz K hK f k0 tz tf text h d (i + 1) n (by omega) (by omega)
   rw [← QP _ _ i (by simp; omega), ← QP _ _ i (by simp; omega)] at this
   exact this
def VS (a b text : List PV) (k : KR) : OR :=
 bif Je (64 + text.length) 1 && true then
  bif Jl .u8 (List.take (64 + text.length) (List.take 64 a ++ text)) && decide ((List.take (64 + text.length) (List.take 64 a ++ text)).length <= 140737488355000) then
   bif Je (64 + (List.take 32 (pu .u8 (JZ (JD (List.take (64 + text.length) (List.take 64 a ++ text)))))).length) 1 && true then
    bif Jl .u8 (List.take (64 + (List.take 32 (pu .u8 (JZ (JD (List.take (64 + text.length) (List.take 64 a ++ text)))))).length) (List.take 64 b ++ List.take 32 (pu .u8 (JZ (JD (List.take (64 + text.length) (List.take 64 a ++ text)))))))
      && decide ((List.take (64 + (List.take 32 (pu .u8 (JZ (JD (List.take (64 + text.length) (List.take 64 a ++ text)))))).length) (List.take 64 b ++ List.take 32 (pu .u8 (JZ (JD (List.take (64 + text.length) (List.take 64 a ++ text))))))).length <= 140737488355000) then
     k ⟨.ar 37 (pu .u8 (JZ (JD (List.take (64 + (List.take 32 (pu .u8 (JZ (JD (List.take (64 + text.length) (List.take 64 a ++ text)))))).length) (List.take 64 b ++ List.take 32 (pu .u8 (JZ (JD (List.take (64 + text.length) (List.take 64 a ++ text)))))))))), [], []⟩
    else none
   else none
  else none
 else none
theorem Jtk (f : Nat) (kz kf : Bool) (key : List PV) (tz tf : Bool) (text : List PV) (k : KR) : g31 f kz kf key tz tf text k =
 (bif decide (zi key.length > 64) then
  bif Jl .u8 key && decide (key.length <= 140737488355000) then
   X5 f (fun _ _ t _ a b => VS a b t k) f tz tf text 0 (pu .u8 (List.replicate 32 0)) (kbG (List.take 32 (pu .u8 (JZ (JD key))))) (pu .u8 (List.replicate 64 0)) (pu .u8 (List.replicate 64 0))
  else none
 else X5 f (fun _ _ t _ a b => VS a b t k) f tz tf text 0 (pu .u8 (List.replicate 32 0)) (kbG key) (pu .u8 (List.replicate 64 0)) (pu .u8 (List.replicate 64 0))) := by kernel_rfl
theorem JmK (K T : List Int) (hK : K.length = 64) (hT : T.length <= 1000000000) (k : KR) :
  VS (pu .u8 (Zu K 54)) (pu .u8 (Zu K 92)) (pu .u8 T) k = k ⟨.ar 37 (pu .u8 (JZ (Zu K 92 ++ JZ (Zu K 54 ++ T)))), [], []⟩ := by
 have e1 : List.take (64 + (pu .u8 T).length) (List.take 64 (pu .u8 (Zu K 54)) ++ pu .u8 T) = pu .u8 (Zu K 54 ++ T) := by
  rw [List.take_of_length_le (i := 64) (by simp [hK]), List.take_of_length_le (by simp [hK]), ← Qa]
 have e2 : ∀ l : List Int, List.take 32 (pu .u8 (JZ l)) = pu .u8 (JZ l) := fun l => List.take_of_length_le (by simp [Qx])
 have e3 : ∀ l : List Int, List.take (64 + (pu .u8 (JZ l)).length) (List.take 64 (pu .u8 (Zu K 92)) ++ pu .u8 (JZ l)) = pu .u8 (Zu K 92 ++ JZ l) := fun l => by
  rw [List.take_of_length_le (i := 64) (by simp [hK]), List.take_of_length_le (by simp [hK]), ← Qa]
 unfold VS
 rw [e1, e2, e3, Ja (by simp [Je]; omega), Ja (by rw [JO, JG]; simp [hK]; omega), Ja (by simp [Je, Qx]), Ja (by rw [JO, JG]; simp [hK, Qx])]
 simp only [We]
def JmL : JA
 | [.ro 5 kz kf key, .ro 5 tz tf text], [], k =>
  bif (Jl .u8 key && decide (key.length <= 1000000000)) && (Jl .u8 text && decide (text.length <= 1000000000)) then
   k ⟨.ar 37 (pu .u8 (JfP (JD key) (JD text))), [], []⟩ else none
 | _, _, _ => none
def JDh : Sig := { own := [], run := JmL }
theorem JDi (kz kf : Bool) (key : List PV) (tz tf : Bool) (text : List PV) (k : KR) (a1 : Jl .u8 key = true) (a2 : key.length <= 1000000000) (h3 : Jl .u8 text = true) (h4 : text.length <= 1000000000) :
   g31 70 kz kf key tz tf text k = k ⟨.ar 37 (pu .u8 (JfP (JD key) (JD text))), [], []⟩ := by
 rw [Jtk, Jo8, Jti]
 have hi := QC a1
 have ht := QC h3
 have hL : ∀ K : List Int, K.length = 64 -> X5 70 (fun _ _ t _ a b => VS a b t k) 70 tz tf text 0 (pu .u8 (List.replicate 32 0)) (pu .u8 K) (pu .u8 (List.replicate 64 0)) (pu .u8 (List.replicate 64 0)) = k ⟨.ar 37 (pu .u8 (JZ (Zu K 92 ++ JZ (Zu K 54 ++ JD text)))), [], []⟩ := by
   intro K hK
   have := Jzz K hK 70 (fun _ _ t _ a b => VS a b t k) tz tf text (pu .u8 (List.replicate 32 0)) 64 0 70 (by omega) (by omega)
   rw [Wh, Wh] at this
   refine this.trans ?_
   have hm := JmK K (JD text) hK (by simpa using h4) k
   rw [← ht] at hm
   exact hm
 by_cases hc : key.length > 64
 · rw [Ja (by simp [zi]; omega), Ja (by simp [a1]; omega), List.take_of_length_le (by simp [Qx]), Jtj _ (by rw [Qx]; omega),
    hL _ (by rw [← Jc7 (JD key), JjT, if_pos (by simpa using hc)]), JjT, if_pos (by simpa using hc)]
 · have hl : (JD key).length <= 64 := by simp; omega
   rw [Jd (by simp [zi]; omega), hi, Jtj _ hl, We, hL _ (by rw [← Jc7 (JD key), JjT, if_neg (by omega)]), JjT, if_neg (by omega)]
theorem JzA : Jc tau Try.prog 31 JDh := Jc.mk' fun xs es k res hl hr => by
 change JmL xs es k = some res at hr
 unfold JmL at hr
 split at hr
 · rename_i kz kf key tz tf text
   obtain ⟨hc, hr⟩ := Jw hr
   simp only [Bool.and_eq_true, decide_eq_true_eq] at hc
   obtain ⟨⟨a1, a2⟩, h3, h4⟩ := hc
   exact J6 Jn Jtc Jo JI0 JI1 (JwY (Je8 70)) [.ro] 0 0 (JNk 70) hl rfl ((e31 70 kz kf key tz tf text k).trans ((JDi kz kf key tz tf text k a1 a2 h3 h4).trans hr))
 · cases hr
def F55 : Fns := Js 99 JHw (Js 31 JDh (F0))
theorem JDj : Jq tau Try.prog F55 := ((Jt).add JzA JI2).add JHx JMz
def JDk : An := (.seq .leaf (.seq .leaf (.seq .leaf .leaf)))
abbrev Je9 (y0 : Int) (y1 : Int) (d_Id : Int) (y2 : Int) (y3 : List PV) (y4 : Int) (d_Op : List PV) (y7 : Int) (y8 : Int) := (List.take (dlB (DV.mk y0 y1 d_Id y2 y3 y4 d_Op y7 y8)).length (pu IntKind.u8 (dlB (DV.mk y0 y1 d_Id y2 y3 y4 d_Op y7 y8))))
def g55 (f : Nat) (k0_z k0_f : Bool) (k0 : List PV) (k1_z k1_f : Bool) (k1 : List PV) (k2_z k2_f : Bool) (k2 : List PV) (y0 y1 d_Id y2 : Int) (y3 : List PV) (y4 : Int) (y5 y6 : Bool) (d_Op : List PV) (y7 y8 : Int) (k : KR) : OR := bif dOk (DV.mk y0 y1 d_Id y2 y3 y4 d_Op y7 y8) then bif decide (0 <= y0) && decide (y0 < zi 3) && true then bif PV.isRo 5 (Jr (PV.st 31 [.ro 5 k0_z k0_f k0, .ro 5 k1_z k1_f k1, .ro 5 k2_z k2_f k2]) [y0.toNat]) && true then bif Jl IntKind.u8 (Jr (PV.st 31 [.ro 5 k0_z k0_f k0, .ro 5 k1_z k1_f k1, .ro 5 k2_z k2_f k2]) [y0.toNat]).els && decide ((Jr (PV.st 31 [.ro 5 k0_z k0_f k0, .ro 5 k1_z k1_f k1, .ro 5 k2_z k2_f k2]) [y0.toNat]).els.length <= 1000000000) && (Jl IntKind.u8 (Je9 y0 y1 d_Id y2 y3 y4 d_Op y7 y8) && decide ((Je9 y0 y1 d_Id y2 y3 y4 d_Op y7 y8).length <= 1000000000)) then k (Res.mk (.st 47 [.ro 5 false false (Je9 y0 y1 d_Id y2 y3 y4 d_Op y7 y8), .ar 37 (pu IntKind.u8 (JfP (JD (Jr (PV.st 31 [.ro 5 k0_z k0_f k0, .ro 5 k1_z k1_f k1, .ro 5 k2_z k2_f k2]) [y0.toNat]).els) (JD (Je9 y0 y1 d_Id y2 y3 y4 d_Op y7 y8))))]) [] []) else none else none else none else none
theorem e55 (f : Nat) (k0_z k0_f : Bool) (k0 : List PV) (k1_z k1_f : Bool) (k1 : List PV) (k2_z k2_f : Bool) (k2 : List PV) (y0 y1 d_Id y2 : Int) (y3 : List PV) (y4 : Int) (y5 y6 : Bool) (d_Op : List PV) (y7 y8 : Int) (k : KR) : JK tau F55 Try.f55 (Try.f55.body.get!) JDk [.ro] 0 [.st 31 [.ro 5 k0_z k0_f k0, .ro 5 k1_z k1_f k1, .ro 5 k2_z k2_f k2], .st 53 [.st 42 [.sc (.int .i64 y0), .sc (.int .i64 y1)], .sc (.int .i64 d_Id), .sc (.int .i64 y2), .ar 37 y3, .sc (.int .i64 y4), .ro 113 y5 y6 d_Op, .st 42 [.sc (.int .i64 y7), .sc (.int .i64 y8)]]] [] k = g55 f k0_z k0_f k0 k1_z k1_f k1 k2_z k2_f k2 y0 y1 d_Id y2 y3 y4 y5 y6 d_Op y7 y8 k := by kernel_rfl
theorem JNl (f : Nat) : ∀ q ∈ Jg (Try.f55.body.get!) JDk, q.Ok tau Try.prog 0 := Jx (by kernel_rfl)
theorem JI4 : Try.prog.funcs[55]? = some Try.f55 := by kernel_rfl
theorem JI5 : Try.f55.body = some (Try.f55.body.get!) := by kernel_rfl
theorem JNm : Enters Try.prog 55 := enters_of JI4 (by kernel_rfl) JI5
def Jtl : JA
 | [.st 31 [.ro 5 k0_z k0_f k0, .ro 5 k1_z k1_f k1, .ro 5 k2_z k2_f k2], .st 53 [.st 42 [.sc (.int .i64 y0), .sc (.int .i64 y1)], .sc (.int .i64 d_Id), .sc (.int .i64 y2), .ar 37 y3, .sc (.int .i64 y4), .ro 113 y5 y6 d_Op, .st 42 [.sc (.int .i64 y7), .sc (.int .i64 y8)]]], [], k => g55 0 k0_z k0_f k0 k1_z k1_f k1 k2_z k2_f k2 y0 y1 d_Id y2 y3 y4 y5 y6 d_Op y7 y8 k
 | _, _, _ => none
def s55 : Sig := { own := [], run := Jtl }
theorem JNn : Jc tau Try.prog 55 s55 := JP Jn JDj Jo JI4 JI5 JDk [.ro] 0 [] Jtl (JNl 0) fun xs es k res hr => by
 unfold Jtl at hr
 split at hr
 · exact ⟨rfl, 0, (e55 0 _ _ _ _ _ _ _ _ _ _ _ _ _ _ _ _ _ _ _ _  _).trans hr⟩
 · cases hr
def F16 : Fns := Js 52 JB8 (Js 51 JwX (F0))
theorem JDl : Jq tau Try.prog F16 := ((Jt).add Jtb JDd).add Jy7 JHt
def JDm : An := (.seq .leaf (.seq .leaf .leaf))
abbrev Jic (prev : List PV) (y2 : List PV) (y3 : List PV) (e_At : Int) (e_Op : List PV) := (List.take (0 + (List.take 32 prev).length + (List.take (J0 (EV.mk y2 y3 e_At e_Op)).length (pu IntKind.u8 (J0 (EV.mk y2 y3 e_At e_Op)))).length) (List.take (0 + (List.take 32 prev).length) (List.take 32 prev) ++ List.take (J0 (EV.mk y2 y3 e_At e_Op)).length (pu IntKind.u8 (J0 (EV.mk y2 y3 e_At e_Op)))))
def g16 (f : Nat) (prev : List PV) (y0 y1 : Bool) (y2 y3 : List PV) (e_At : Int) (y4 y5 : Bool) (e_Op y6 y7 : List PV) (k : KR) : OR := bif Je (0 + (List.take 32 prev).length) 1 && true then bif eOk (EV.mk y2 y3 e_At e_Op) then bif Je (0 + (List.take 32 prev).length + (List.take (J0 (EV.mk y2 y3 e_At e_Op)).length (pu IntKind.u8 (J0 (EV.mk y2 y3 e_At e_Op)))).length) 1 && true then bif Jl IntKind.u8 (Jic prev y2 y3 e_At e_Op) && decide ((Jic prev y2 y3 e_At e_Op).length <= 140737488355000) then k (Res.mk (.ar 37 (pu IntKind.u8 (JZ (JD (Jic prev y2 y3 e_At e_Op))))) [] []) else none else none else none else none
theorem e16 (f : Nat) (prev : List PV) (y0 y1 : Bool) (y2 y3 : List PV) (e_At : Int) (y4 y5 : Bool) (e_Op y6 y7 : List PV) (k : KR) : JK tau F16 Try.f16 (Try.f16.body.get!) JDm [.ro] 0 [.ar 37 prev, .st 51 [.st 47 [.ro 5 y0 y1 y2, .ar 37 y3], .sc (.int .i64 e_At), .ro 113 y4 y5 e_Op, .ar 37 y6, .ar 37 y7]] [] k = g16 f prev y0 y1 y2 y3 e_At y4 y5 e_Op y6 y7 k := by kernel_rfl
theorem JNo (f : Nat) : ∀ q ∈ Jg (Try.f16.body.get!) JDm, q.Ok tau Try.prog 0 := Jx (by kernel_rfl)
theorem JI6 : Try.prog.funcs[16]? = some Try.f16 := by kernel_rfl
theorem JI7 : Try.f16.body = some (Try.f16.body.get!) := by kernel_rfl
theorem JDn : Enters Try.prog 16 := enters_of JI6 (by kernel_rfl) JI7
def Jtm : JA
 | [.ar 37 prev, .st 51 [.st 47 [.ro 5 y0 y1 y2, .ar 37 y3], .sc (.int .i64 e_At), .ro 113 y4 y5 e_Op, .ar 37 y6, .ar 37 y7]], [], k => g16 0 prev y0 y1 y2 y3 e_At y4 y5 e_Op y6 y7 k
 | _, _, _ => none
def s16 : Sig := { own := [], run := Jtm }
theorem JI8 : Jc tau Try.prog 16 s16 := JP Jn JDl Jo JI6 JI7 JDm [.ro] 0 [] Jtm (JNo 0) fun xs es k res hr => by
 unfold Jtm at hr
 split at hr
 · exact ⟨rfl, 0, (e16 0 _ _ _ _ _ _ _ _ _ _ _  _).trans hr⟩
 · cases hr
theorem EntRep.free_none {τ : Tab} {im : Im} {ow : Own} {i : Nat} {e : Ent} {w : World} (he : EntRep τ im ow i e w) (hf : e.free = true) {l : Loc} {b : Nat} (hl : ow i = some l) (hb : l.blk = some b) : im b = none := by
 obtain ⟨loc, h1, h2⟩ := he
 obtain rfl : loc = l := Option.some.inj (h1.symm.trans hl)
 cases e with
 | dead => cases hf
 | box fz t v =>
  obtain ⟨k1, k2, b', cells, el, fr, pre, mid, post, q1, q2, q3, q4, q5, q6, q7, q8⟩ := h2
  have : fz = false := by cases fz with | true => cases hf | false => rfl
  obtain rfl : b = b' := Option.some.inj (hb.symm.trans q1)
  exact q8.1 this
 | vec fz t nl els =>
  obtain ⟨k1, k2, k3⟩ := h2
  have : fz = false := by cases fz with | true => cases hf | false => rfl
  rcases k3 with k3 | ⟨_, b', cells, el, fr, pre, mid, post, q1, q2, q3, q4, q5, q6, q7, q8⟩
  · rw [k3.1] at hb; cases hb
  · obtain rfl : b = b' := Option.some.inj (hb.symm.trans q1)
    exact q8.1 this
theorem Jc.dead {τ : Tab} {P : Program} {g : FuncId} {sg : Sig} (h : Jc τ P g sg) :
   Jc τ P g { own := sg.own, run := fun xs es k => sg.run xs es fun r => bif r.news.isEmpty && decide (r.pars.length <= 15) then k ⟨r.val, r.pars, [.dead]⟩ else none } := by
 intro xs es k res hl hrun
 obtain ⟨r, hk, H⟩ := h xs es _ res hl hrun
 obtain ⟨hn, hk'⟩ := Jw hk
 rw [Bool.and_eq_true, decide_eq_true_eq] at hn
 refine ⟨⟨r.val, r.pars, [.dead]⟩, hk', fun im ow w us hx hi => (H im ow w us hx hi).mono fun e w' hp => ?_⟩
 obtain ⟨u, im', ow', h1, h2, G⟩ := hp
 have hn0 : r.news = [] := List.isEmpty_iff.1 hn.1
 rw [hn0] at G
 have e16 : JQ r.pars [] 16 = none := rfl
 have d16 : JQ r.pars [.dead] 16 = some .dead := rfl
 have same : ∀ i, i ≠ 16 -> JQ r.pars [.dead] i = JQ r.pars [] i := by
   intro i hi
   unfold JQ
   by_cases h16 : i < 16
   · rw [if_pos h16, if_pos h16]
   · rw [if_neg h16, if_neg h16]
     obtain ⟨m, hm⟩ : ∃ m, i - 16 = m + 1 := ⟨i - 17, by omega⟩
     rw [hm]; rfl
 have o16 : ow' 16 = none := by
   cases ho : ow' 16 with
   | none => rfl
   | some l =>
     obtain ⟨e, he⟩ := G.inv.dom 16 l ho
     rw [e16] at he; cases he
 let ow2 : Own := Xv ow' 16 ⟨none, 0, .box 0, 0⟩
 have t16 : ow2 16 = some ⟨none, 0, .box 0, 0⟩ := if_pos rfl
 have tne : ∀ i, i ≠ 16 -> ow2 i = ow' i := fun i hi => if_neg hi
 have how : ∀ i l, ow' i = some l -> ow2 i = some l := by
   intro i l hil
   by_cases h16 : i = 16
   · subst h16; rw [o16] at hil; cases hil
   · rw [tne i h16]; exact hil
 have live : ∀ i b, Live (JQ r.pars [.dead]) ow2 i b -> Live (JQ r.pars []) ow' i b := by
   rintro i b ⟨e, l, q1, q2, q3, q4⟩
   by_cases h16 : i = 16
   · subst h16; rw [d16] at q1; obtain rfl := Option.some.inj q1; cases q2
   · exact ⟨e, l, by rw [← same i h16]; exact q1, q2, by rw [← tne i h16]; exact q3, q4⟩
 refine ⟨u, im', ow2, h1, Jf.mono (fun _ _ h => h) how _ _ h2, ⟨G.imX, fun i l hil => how i l (G.owX i l hil), ⟨G.inv.imOk, ?_, ?_, ?_⟩, G.size, G.keep, G.newim, fun i b hb => G.newlive i b (live i b hb), G.rest⟩⟩
 · intro i e he
   by_cases h16 : i = 16
   · subst h16; rw [d16] at he; obtain rfl := Option.some.inj he; exact ⟨_, t16, trivial⟩
   · rw [same i h16] at he
     have q := G.inv.ent i e he
     exact EntRep.keep (fun _ _ h => h) how (fun _ _ _ _ _ => rfl) (fun hf l b hl hb => q.free_none hf hl hb) q
 · intro i j b hi hj
   exact G.inv.inj i j b (live i b hi) (live j b hj)
 · intro i l hil
   by_cases h16 : i = 16
   · subst h16; exact ⟨_, d16⟩
   · rw [tne i h16] at hil
     obtain ⟨e, he⟩ := G.inv.dom i l hil
     exact ⟨e, by rw [same i h16]; exact he⟩
def JI9 : Sig := { own := s16.own, run := fun xs es k => s16.run xs es fun r => bif r.news.isEmpty && decide (r.pars.length <= 15) then k ⟨r.val, r.pars, [.dead]⟩ else none }
theorem JJa : Jc tau Try.prog 16 JI9 := JI8.dead
def F54 : Fns := Js 52 JB8 (Js 31 JDh (Js 16 JI9 (F0)))
theorem JDo : Jq tau Try.prog F54 := (((Jt).add JJa JDn).add JzA JI2).add Jy7 JHt
def JDp : An := (.seq .leaf (.seq .leaf (.seq .leaf (.seq .leaf (.seq .leaf .leaf)))))
abbrev X6 (y2 : List PV) (y3 : List PV) (at1 : Int) (o : List PV) := (J0 (EV.mk (List.take (0 + y2.length) y2) y3 at1 (List.take (0 + o.length) o)))
abbrev GT (prev : List PV) (y2 : List PV) (y3 : List PV) (at1 : Int) (o : List PV) := (List.take (0 + (List.take 32 prev).length + (List.take (X6 y2 y3 at1 o).length (pu IntKind.u8 (X6 y2 y3 at1 o))).length) (List.take (0 + (List.take 32 prev).length) (List.take 32 prev) ++ List.take (X6 y2 y3 at1 o).length (pu IntKind.u8 (X6 y2 y3 at1 o))))
abbrev Jid (prev : List PV) (y2 : List PV) (y3 : List PV) (at1 : Int) (o : List PV) := (List.take ((X6 y2 y3 at1 o).length + (List.take 32 (pu IntKind.u8 (JZ (JD (GT prev y2 y3 at1 o))))).length) (List.take (X6 y2 y3 at1 o).length (pu IntKind.u8 (X6 y2 y3 at1 o)) ++ List.take 32 (pu IntKind.u8 (JZ (JD (GT prev y2 y3 at1 o))))))
def g54 (f : Nat) (k0_z k0_f : Bool) (k0 : List PV) (k1_z k1_f : Bool) (k1 : List PV) (k2_z k2_f : Bool) (k2 : List PV) (host : Int) (prev : List PV) (y0 y1 : Bool) (y2 y3 : List PV) (at1 : Int) (o_z o_f : Bool) (o : List PV) (k : KR) : OR := bif Je (0 + y2.length) 1 && true then bif Je (0 + o.length) 32 && true then bif Je (0 + (List.take 32 prev).length) 1 && true then bif eOk (EV.mk (List.take (0 + y2.length) y2) y3 at1 (List.take (0 + o.length) o)) then bif Je (0 + (List.take 32 prev).length + (List.take (X6 y2 y3 at1 o).length (pu IntKind.u8 (X6 y2 y3 at1 o))).length) 1 && true then bif Jl IntKind.u8 (GT prev y2 y3 at1 o) && decide ((GT prev y2 y3 at1 o).length <= 140737488355000) then bif decide (0 <= host) && decide (host < zi 3) && true then bif PV.isRo 5 (Jr (PV.st 31 [.ro 5 k0_z k0_f k0, .ro 5 k1_z k1_f k1, .ro 5 k2_z k2_f k2]) [host.toNat]) && true then bif eOk (EV.mk (List.take (0 + y2.length) y2) y3 at1 (List.take (0 + o.length) o)) then bif Je ((X6 y2 y3 at1 o).length + (List.take 32 (pu IntKind.u8 (JZ (JD (GT prev y2 y3 at1 o))))).length) 1 && true then bif Jl IntKind.u8 (Jr (PV.st 31 [.ro 5 k0_z k0_f k0, .ro 5 k1_z k1_f k1, .ro 5 k2_z k2_f k2]) [host.toNat]).els && decide ((Jr (PV.st 31 [.ro 5 k0_z k0_f k0, .ro 5 k1_z k1_f k1, .ro 5 k2_z k2_f k2]) [host.toNat]).els.length <= 1000000000) && (Jl IntKind.u8 (Jid prev y2 y3 at1 o) && decide ((Jid prev y2 y3 at1 o).length <= 1000000000)) then k (Res.mk (.st 51 [.st 47 [.ro 5 false false (List.take (0 + y2.length) y2), .ar 37 y3], .sc (.int .i64 at1), .ro 113 false false (List.take (0 + o.length) o), .ar 37 (pu IntKind.u8 (JZ (JD (GT prev y2 y3 at1 o)))), .ar 37 (pu IntKind.u8 (JfP (JD (Jr (PV.st 31 [.ro 5 k0_z k0_f k0, .ro 5 k1_z k1_f k1, .ro 5 k2_z k2_f k2]) [host.toNat]).els) (JD (Jid prev y2 y3 at1 o))))]) [] []) else none else none else none else none else none else none else none else none else none else none else none
theorem e54 (f : Nat) (k0_z k0_f : Bool) (k0 : List PV) (k1_z k1_f : Bool) (k1 : List PV) (k2_z k2_f : Bool) (k2 : List PV) (host : Int) (prev : List PV) (y0 y1 : Bool) (y2 y3 : List PV) (at1 : Int) (o_z o_f : Bool) (o : List PV) (k : KR) : JK tau F54 Try.f54 (Try.f54.body.get!) JDp [.ro] 0 [.st 31 [.ro 5 k0_z k0_f k0, .ro 5 k1_z k1_f k1, .ro 5 k2_z k2_f k2], .sc (.int .i64 host), .ar 37 prev, .st 47 [.ro 5 y0 y1 y2, .ar 37 y3], .sc (.int .i64 at1), .ro 113 o_z o_f o] [] k = g54 f k0_z k0_f k0 k1_z k1_f k1 k2_z k2_f k2 host prev y0 y1 y2 y3 at1 o_z o_f o k := by kernel_rfl
theorem JNp (f : Nat) : ∀ q ∈ Jg (Try.f54.body.get!) JDp, q.Ok tau Try.prog 0 := Jx (by kernel_rfl)
theorem JJb : Try.prog.funcs[54]? = some Try.f54 := by kernel_rfl
theorem JJc : Try.f54.body = some (Try.f54.body.get!) := by kernel_rfl
theorem JNq : Enters Try.prog 54 := enters_of JJb (by kernel_rfl) JJc
def Jtn : JA
 | [.st 31 [.ro 5 k0_z k0_f k0, .ro 5 k1_z k1_f k1, .ro 5 k2_z k2_f k2], .sc (.int .i64 host), .ar 37 prev, .st 47 [.ro 5 y0 y1 y2, .ar 37 y3], .sc (.int .i64 at1), .ro 113 o_z o_f o], [], k => g54 0 k0_z k0_f k0 k1_z k1_f k1 k2_z k2_f k2 host prev y0 y1 y2 y3 at1 o_z o_f o k
 | _, _, _ => none
def s54 : Sig := { own := [], run := Jtn }
theorem JNr : Jc tau Try.prog 54 s54 := JP Jn JDo Jo JJb JJc JDp [.ro] 0 [] Jtn (JNp 0) fun xs es k res hr => by
 unfold Jtn at hr
 split at hr
 · exact ⟨rfl, 0, (e54 0 _ _ _ _ _ _ _ _ _ _ _ _ _ _ _ _ _ _ _  _).trans hr⟩
 · cases hr

structure PA where
 (l : List PV) (b : List PV)
def kOk (l : List PV) : Bool := Jl .u8 l && decide (l.length <= 1000000000)
theorem Jw0 {z0 f0 z1 f1 z2 f2 : Bool} {k0 k1 k2 : List PV} (h0 : kOk k0 = true) (h1 : kOk k1 = true) (h2 : kOk k2 = true) (d : Int) : kOk (JhA ⟨[.ro 5 z0 f0 k0, .ro 5 z1 f1 k1, .ro 5 z2 f2 k2], d⟩) = true := by
 rw [Jop]
 show kOk (JjD _ d).els = true
 unfold JjD
 cases h : XZ d 2 with
 | false => rfl
 | true =>
  simp only [XZ, Bool.and_eq_true, decide_eq_true_eq] at h
  have : d = 0 ∨ d = 1 ∨ d = 2 := by omega
  rcases this with rfl | rfl | rfl
  · exact h0
  · exact h1
  · exact h2
def kIn : Int -> Bool := hid fun d => XZ d 2
theorem Jfa (d : Int) : kIn d = XZ d 2 := by rw [kIn, hid_eq]
def h32 : List PV -> Bool := hid fun h => Jl .u8 h && decide (h.length = 32)
theorem h32_iff {h : List PV} : h32 h = true ↔ Jl .u8 h = true /\ h.length = 32 := by rw [h32, hid_eq, Bool.and_eq_true, decide_eq_true_eq]
def kO3 : List PV -> Bool := hid fun l => l.all fun p => kOk p.els
theorem Jo9 {z0 f0 z1 f1 z2 f2 : Bool} {k0 k1 k2 : List PV} : kO3 [.ro 5 z0 f0 k0, .ro 5 z1 f1 k1, .ro 5 z2 f2 k2] = true ↔ kOk k0 = true /\ kOk k1 = true /\ kOk k2 = true := by
 rw [kO3, hid_eq]; simp [PV.els]
structure MK where
 (l : List PV) (d : Int) (t : List Int)
def mcK : MK -> List Int := hid fun m => JfP (JD (JhA ⟨m.l, m.d⟩)) m.t
theorem JmM (m : MK) : mcK m = JfP (JD (JhA ⟨m.l, m.d⟩)) m.t := by rw [mcK, hid_eq]
theorem JmN (m : MK) : (mcK m).length = 32 := by rw [JmM]; exact JjU _ _
structure NX where
 (p : List PV) (e : EV)
def nxP : NX -> List Int := hid fun x => JZ (JD x.p ++ J0 x.e)
theorem Jfb (x : NX) : nxP x = JZ (JD x.p ++ J0 x.e) := by rw [nxP, hid_eq]
theorem X7 (x : NX) : (nxP x).length = 32 := by rw [Jfb]; exact Qx _
structure EM where
 (l : List PV) (d : Int) (e : EV) (h : List PV)
def emP : EM -> List Int := hid fun x => mcK ⟨x.l, x.d, J0 x.e ++ JD x.h⟩
theorem JDq (x : EM) : emP x = mcK ⟨x.l, x.d, J0 x.e ++ JD x.h⟩ := by rw [emP, hid_eq]
structure EC where
 (l : List PV) (d : Int) (e : EV) (h m : List PV)
structure SO where
 (l b m : List PV)
theorem Vr {a b : List PV} (h : Jl .u8 a = true) (h' : Jl .u8 b = true) : Jl .u8 (a ++ b) = true := by
 induction a with
 | nil => exact h'
 | cons p ps ih =>
  have e : ∀ l : List PV, Jl .u8 (p :: l) = (p.isInt .u8 && Jl .u8 l) := fun l => rfl
  rw [e, Bool.and_eq_true] at h
  rw [List.cons_append, e, Bool.and_eq_true]; exact ⟨h.1, ih h.2⟩
theorem Jgz (a b : List PV) : JD (a ++ b) = JD a ++ JD b := by simp [JD]
theorem Jto {z0 f0 z1 f1 z2 f2 : Bool} {k0 k1 k2 : List PV} (h : kO3 [.ro 5 z0 f0 k0, .ro 5 z1 f1 k1, .ro 5 z2 f2 k2] = true) {d : Int} (hd : XZ d 2 = true) :
  PV.isRo 5 (Jr (PV.st 31 [.ro 5 z0 f0 k0, .ro 5 z1 f1 k1, .ro 5 z2 f2 k2]) [d.toNat]) = true /\ (Jr (PV.st 31 [.ro 5 z0 f0 k0, .ro 5 z1 f1 k1, .ro 5 z2 f2 k2]) [d.toNat]).els = JhA ⟨[.ro 5 z0 f0 k0, .ro 5 z1 f1 k1, .ro 5 z2 f2 k2], d⟩ := by
 rw [Jop, JjD, hd]
 simp only [XZ, Bool.and_eq_true, decide_eq_true_eq] at hd
 have : d = 0 ∨ d = 1 ∨ d = 2 := by omega
 rcases this with rfl | rfl | rfl <;> exact ⟨rfl, rfl⟩
theorem Jtp {z0 f0 z1 f1 z2 f2 : Bool} {k0 k1 k2 : List PV} (h : kO3 [.ro 5 z0 f0 k0, .ro 5 z1 f1 k1, .ro 5 z2 f2 k2] = true) (d : Int) : Jl .u8 (JhA ⟨[.ro 5 z0 f0 k0, .ro 5 z1 f1 k1, .ro 5 z2 f2 k2], d⟩) = true /\ (JhA ⟨[.ro 5 z0 f0 k0, .ro 5 z1 f1 k1, .ro 5 z2 f2 k2], d⟩).length <= 1000000000 := by
 obtain ⟨a, b, c⟩ := Jo9.1 h
 have := Jw0 (z0 := z0) (f0 := f0) (z1 := z1) (f1 := f1) (z2 := z2) (f2 := f2) a b c d
 rw [kOk, Bool.and_eq_true, decide_eq_true_eq] at this; exact this
theorem Jqq {d : DV} (h : dOk d = true) : (dlB d).length <= 65618 := by rw [GF h]; have := (Zh.1 h).2.2.2; omega
theorem Jc8 {e : EV} (h : eOk e = true) : (J0 e).length <= 131114 := by rw [XD h]; have := WH.1 h; omega
/-! sign.Delta, ref9.Delta -/
def JmO : JA
 | [.st 31 [.ro 5 z0 f0 k0, .ro 5 z1 f1 k1, .ro 5 z2 f2 k2], .st 53 [.st 42 [.sc (.int .i64 ad), .sc (.int .i64 au)], .sc (.int .i64 id1), .sc (.int .i64 ve), .ar 37 h, .sc (.int .i64 kd), .ro 113 oz of o, .st 42 [.sc (.int .i64 wd), .sc (.int .i64 wu)]]], [], k =>
  bif dOk ⟨ad, au, id1, ve, h, kd, o, wd, wu⟩ && (kO3 [.ro 5 z0 f0 k0, .ro 5 z1 f1 k1, .ro 5 z2 f2 k2] && kIn ad) then
   k ⟨.st 47 [.ro 5 false false (pu .u8 (dlB ⟨ad, au, id1, ve, h, kd, o, wd, wu⟩)), .ar 37 (pu .u8 (mcK ⟨[.ro 5 z0 f0 k0, .ro 5 z1 f1 k1, .ro 5 z2 f2 k2], ad, dlB ⟨ad, au, id1, ve, h, kd, o, wd, wu⟩⟩))], [], []⟩ else none
 | _, _, _ => none
def JJd : Sig := { own := [], run := JmO }
theorem JJe : Jc tau Try.prog 55 JJd := JNn.of fun xs es k res hr => by
 change JmO xs es k = some res at hr
 unfold JmO at hr
 split at hr
 · rename_i z0 f0 k0 z1 f1 k1 z2 f2 k2 ad au id1 ve h kd oz of o wd wu
   obtain ⟨hc, hr⟩ := Jw hr
   simp only [Bool.and_eq_true] at hc
   have hK := Jtp hc.2.1 ad
   have hs := Jqq hc.1
   have hin := hc.2.2
   rw [Jfa] at hin
   obtain ⟨q1, q2⟩ := Jto hc.2.1 hin
   have htp : ∀ l : List Int, List.take l.length (pu .u8 l) = pu .u8 l := fun l => List.take_of_length_le (by simp)
   simp only [XZ, Bool.and_eq_true, decide_eq_true_eq] at hin
   refine Eq.trans ?_ hr
   show g55 0 z0 f0 k0 z1 f1 k1 z2 f2 k2 ad au id1 ve h kd oz of o wd wu k = _
   unfold g55 Je9
   simp only [q2, htp, JO, We, JG]
   refine (Ja hc.1).trans ((Ja (by simp [zi]; omega)).trans ((Ja (by rw [q1]; rfl)).trans ((Ja (by rw [hK.1]; simp; omega)).trans ?_)))
   rw [JmM]
 · cases hr
/-! sign.Open, ref9.Open -/
/-! entries -/
def JmP : JA
 | [.st 31 [.ro 5 z0 f0 k0, .ro 5 z1 f1 k1, .ro 5 z2 f2 k2], .sc (.int .i64 ho), .ar 37 pr, .st 47 [.ro 5 z f b, .ar 37 m], .sc (.int .i64 at1), .ro 113 oz of o], [], k =>
  bif (kIn ho && eOk ⟨b, m, at1, o⟩) && (h32 pr && kO3 [.ro 5 z0 f0 k0, .ro 5 z1 f1 k1, .ro 5 z2 f2 k2]) then
   k ⟨.st 51 [.st 47 [.ro 5 false false b, .ar 37 m], .sc (.int .i64 at1), .ro 113 false false o, .ar 37 (pu .u8 (nxP ⟨pr, ⟨b, m, at1, o⟩⟩)), .ar 37 (pu .u8 (emP ⟨[.ro 5 z0 f0 k0, .ro 5 z1 f1 k1, .ro 5 z2 f2 k2], ho, ⟨b, m, at1, o⟩, pu .u8 (nxP ⟨pr, ⟨b, m, at1, o⟩⟩)⟩))], [], []⟩ else none
 | _, _, _ => none
def JJf : Sig := { own := [], run := JmP }
theorem JJg : Jc tau Try.prog 54 JJf := JNr.of fun xs es k res hr => by
 change JmP xs es k = some res at hr
 unfold JmP at hr
 split at hr
 · rename_i z0 f0 k0 z1 f1 k1 z2 f2 k2 ho pr z f b m at1 oz of o
   obtain ⟨hc, hr⟩ := Jw hr
   simp only [Bool.and_eq_true] at hc
   have hK := Jtp hc.2.2 ho
   have hin := hc.1.1
   rw [Jfa] at hin
   obtain ⟨q1, q2⟩ := Jto hc.2.2 hin
   simp only [XZ, Bool.and_eq_true, decide_eq_true_eq] at hin
   obtain ⟨p1, p2⟩ := h32_iff.1 hc.2.1
   have hcl := Jc8 hc.1.2
   have heo := WH.1 hc.1.2
   have hbl : b.length <= 65535 := heo.2.1
   have hol : o.length <= 1000 := (Jdu.1 heo.2.2.2.2.1).2.2
   have hnl := X7 ⟨pr, ⟨b, m, at1, o⟩⟩
   have htp : List.take 32 pr = pr := List.take_of_length_le (by omega)
   have htc : List.take (J0 ⟨b, m, at1, o⟩).length (pu .u8 (J0 ⟨b, m, at1, o⟩)) = pu .u8 (J0 ⟨b, m, at1, o⟩) := List.take_of_length_le (by simp)
   have htn : List.take (pr.length + (J0 ⟨b, m, at1, o⟩).length) (pr ++ pu .u8 (J0 ⟨b, m, at1, o⟩)) = pr ++ pu .u8 (J0 ⟨b, m, at1, o⟩) := List.take_of_length_le (by simp)
   have hth : List.take 32 (pu .u8 (nxP ⟨pr, ⟨b, m, at1, o⟩⟩)) = pu .u8 (nxP ⟨pr, ⟨b, m, at1, o⟩⟩) := List.take_of_length_le (by rw [JG]; omega)
   have hte : List.take ((J0 ⟨b, m, at1, o⟩).length + (nxP ⟨pr, ⟨b, m, at1, o⟩⟩).length) (pu .u8 (J0 ⟨b, m, at1, o⟩) ++ pu .u8 (nxP ⟨pr, ⟨b, m, at1, o⟩⟩)) = pu .u8 (J0 ⟨b, m, at1, o⟩) ++ pu .u8 (nxP ⟨pr, ⟨b, m, at1, o⟩⟩) := List.take_of_length_le (by simp)
   have hnx : JZ (JD pr ++ J0 ⟨b, m, at1, o⟩) = nxP ⟨pr, ⟨b, m, at1, o⟩⟩ := by rw [Jfb]
   have hem : JfP (JD (JhA ⟨[.ro 5 z0 f0 k0, .ro 5 z1 f1 k1, .ro 5 z2 f2 k2], ho⟩)) (J0 ⟨b, m, at1, o⟩ ++ nxP ⟨pr, ⟨b, m, at1, o⟩⟩) = emP ⟨[.ro 5 z0 f0 k0, .ro 5 z1 f1 k1, .ro 5 z2 f2 k2], ho, ⟨b, m, at1, o⟩, pu .u8 (nxP ⟨pr, ⟨b, m, at1, o⟩⟩)⟩ := by rw [JDq, JmM, We]
   refine Eq.trans ?_ hr
   show g54 0 z0 f0 k0 z1 f1 k1 z2 f2 k2 ho pr z f b m at1 oz of o k = _
   unfold g54 Jid GT X6
   simp only [List.take_length, Nat.zero_add, htp, htc, JG, htn, Jgz, We, hnx, hth, hte, q2, hem]
   refine (Ja (by simp [Je]; omega)).trans ((Ja (by simp [Je]; omega)).trans ((Ja (by simp [Je]; omega)).trans ((Ja hc.1.2).trans ((Ja (by simp [Je]; omega)).trans ((Ja (by rw [Vr p1 (JO _ _)]; simp; omega)).trans ((Ja (by simp [zi]; omega)).trans ((Ja (by rw [q1]; rfl)).trans ((Ja hc.1.2).trans ((Ja (by simp [Je]; omega)).trans ((Ja (by rw [hK.1, Vr (JO _ _) (JO _ _)]; simp; omega)).trans ?_))))))))))
   rfl
 · cases hr
def JmQ : JA
 | [.ar 37 pr, .st 51 [.st 47 [.ro 5 z f b, .ar 37 m], .sc (.int .i64 at1), .ro 113 oz of o, .ar 37 h, .ar 37 mc]], [], k =>
  bif h32 pr && eOk ⟨b, m, at1, o⟩ then k ⟨.ar 37 (pu .u8 (nxP ⟨pr, ⟨b, m, at1, o⟩⟩)), [], []⟩ else none
 | _, _, _ => none
def JDr : Sig := { own := [], run := JmQ }
theorem JzB : Jc tau Try.prog 16 JDr := JI8.of fun xs es k res hr => by
 change JmQ xs es k = some res at hr
 unfold JmQ at hr
 split at hr
 · rename_i pr z f b m at1 oz of o h mc
   obtain ⟨hc, hr⟩ := Jw hr
   rw [Bool.and_eq_true] at hc
   obtain ⟨p1, p2⟩ := h32_iff.1 hc.1
   have hcl := Jc8 hc.2
   have htp : List.take 32 pr = pr := List.take_of_length_le (by omega)
   have htc : List.take (J0 ⟨b, m, at1, o⟩).length (pu .u8 (J0 ⟨b, m, at1, o⟩)) = pu .u8 (J0 ⟨b, m, at1, o⟩) := List.take_of_length_le (by simp)
   have htn : List.take (pr.length + (J0 ⟨b, m, at1, o⟩).length) (pr ++ pu .u8 (J0 ⟨b, m, at1, o⟩)) = pr ++ pu .u8 (J0 ⟨b, m, at1, o⟩) := List.take_of_length_le (by simp)
   refine Eq.trans ?_ hr
   show g16 0 pr z f b m at1 oz of o h mc k = _
   unfold g16 Jic
   simp only [List.take_length, Nat.zero_add, htp, htc, JG, htn, Jgz, We]
   refine (Ja (by simp [Je]; omega)).trans ((Ja hc.2).trans ((Ja (by simp [Je]; omega)).trans ((Ja (by rw [Vr p1 (JO _ _)]; simp; omega)).trans ?_)))
   rw [Jfb]
 · cases hr
def Jtq : Nat := 25
def JDs : Fns := F0
theorem Jpa : Jq tau Try.prog JDs := Jt
def Jie : Code := Qj (Try.f102.body.get!) [1, 1, 0, 1, 0, 0]
def Jbv : Nm := [(0, .any), (3, .any), (4, .any)]
def Jif : Nm := [(3, .any)]
def JmR : An := (.seq (.seq .leaf (.cond .leaf .leaf)) (.seq (.block none (.seq .leaf (.cond .leaf .leaf))) .leaf))
def Jpb (r0 : Qz) : An := (.seq .leaf (.seq .leaf (.seq (.seq .leaf (.block none (.sum Jbv Jtq r0))) (.seq .leaf .leaf))))
abbrev Jpc := Bool -> Bool -> List PV -> Int -> Int -> OR
abbrev Yr (v2 : List PV) (v4 : Int) := (PV.isSt 113 #[Field.mk "Kind" 3 0 false "" "" 0, Field.mk "N" 3 1 false "" "" 8, Field.mk "S" 9 2 false "" "" 16].size (v2.getD v4.toNat PV.top) && (PV.isInt IntKind.i64 (PV.child 0 (v2.getD v4.toNat PV.top)) && (PV.isInt IntKind.i64 (PV.child (0 + 1) (v2.getD v4.toNat PV.top)) && ((PV.child (0 + 1 + 1) (v2.getD v4.toNat PV.top)).isStr && true))))
def Vs (f : Nat) (rc : Jpc) (k0 : Int -> OR) (v0 v1 : Bool) (v2 : List PV) (v3 v4 : Int) : OR := bif decide (v4 < zi v2.length) then bif decide (0 <= v4) && decide (v4 < zi v2.length) && (Yr v2 v4) && true then bif (PV.child 0 (v2.getD v4.toNat PV.top)).int != 2 then bif decide (0 <= v4) && decide (v4 < zi v2.length) && (Yr v2 v4) && true then rc v0 v1 v2 (IntKind.i64.wrap (v3 + (PV.child (0 + 1) (v2.getD v4.toNat PV.top)).int)) (IntKind.i64.wrap (v4 + 1)) else none else rc v0 v1 v2 v3 (IntKind.i64.wrap (v4 + 1)) else none else k0 v3
def Zv (f : Nat) (k0 : Int -> OR) : Nat -> Jpc
 | 0 => fun _ _ _ _ _ => none
 | n + 1 => Vs f (Zv f k0 n) k0
def VT (k : Kont) := fun x0 => k (Ex.exit 0) (Jj Jif Jtq [.sc (.int .i64 x0)] [])
def Jig (f : Nat) (k : Kont) (n : Nat) (v0 v1 : Bool) (v2 : List PV) (v3 v4 : Int) : OR := Jy tau 0 Jbv (fun s k => ev tau JDs 0 0 Jie (JmR ) s k) n (Jj Jbv Jtq [.ro 113 v0 v1 v2, .sc (.int .i64 v3), .sc (.int .i64 v4)] []) (JI tau 0 Jif k)
theorem Jtr (f : Nat) (k : Kont) (n : Nat) : Jig f k (n + 1) = Vs f (Jig f k n) (VT k) := by kernel_rfl
theorem JjV (f : Nat) (k : Kont) : ∀ n, Jig f k n = Zv f (VT k) n
 | 0 => rfl
 | n + 1 => (Jtr f k n).trans (congrArg (fun r => Vs f r (VT k)) (JjV f k n))
def GU (f : Nat) : List PV -> List (Nat × Ent) -> Kont -> OR
 | [.ro 113 v0 v1 v2, .sc (.int .i64 v3),
 .sc (.int .i64 v4)], [], k => Zv f (VT k) f v0 v1 v2 v3 v4
 | _, _, _ => none
theorem Jw1 (f : Nat) : Jg Jie JmR = [] := by kernel_rfl
theorem Jw2 (f : Nat) : (Item.l Jie Jbv Jtq (GU f)).Ok tau Try.prog 0 := Ju Jn Jpa Jo (x := JmR) (nm2 := Jif) (Jk _ _ (by rw [Jw1 f]; intro q hq; cases hq)) fun vs hp k res hr => by
 unfold GU at hr
 split at hr
 · rw [← JjV f] at hr; exact ⟨f, 0, hr⟩
 · cases hr
def JJh (f : Nat) (o_z o_f : Bool) (o : List PV) (k : KR) : OR := Zv f (fun x0_0 => k (Res.mk (.sc (.int .i64 x0_0)) [] [])) f o_z o_f o (0) (0)
theorem JNs (f : Nat) (o_z o_f : Bool) (o : List PV) (k : KR) : JK tau JDs Try.f102 (Try.f102.body.get!) (Jpb (GU f)) [.ro] 0 [.ro 113 o_z o_f o] [] k = JJh f o_z o_f o k := by kernel_rfl
theorem JJi (f : Nat) : Jg (Try.f102.body.get!) (Jpb (GU f)) = [.l Jie Jbv Jtq (GU f)] := by kernel_rfl
theorem JJj (f : Nat) : ∀ q ∈ Jg (Try.f102.body.get!) (Jpb (GU f)), q.Ok tau Try.prog 0 := by rw [JJi f]; exact JL (Jw2 f) (fun _ h => nomatch h)
theorem JzC : Try.prog.funcs[102]? = some Try.f102 := by kernel_rfl
theorem JzD : Try.f102.body = some (Try.f102.body.get!) := by kernel_rfl
theorem JJk : Enters Try.prog 102 := enters_of JzC (by kernel_rfl) JzD
def Jts : Nat := 33
def JDt : Fns := F0
theorem Jpd : Jq tau Try.prog JDt := Jt
def Jih : Code := Qj (Try.f103.body.get!) [1, 1, 0, 1, 0, 0]
def Jbw : Nm := [(0, .any), (3, .any), (4, .any)]
def Jii : Nm := [(3, .any)]
def JmS : An := (.seq (.seq .leaf (.cond .leaf .leaf)) (.seq (.block none (.seq (.seq .leaf (.cond .leaf .leaf)) .leaf)) .leaf))
def Jpe (r0 : Qz) : An := (.seq .leaf (.seq .leaf (.seq (.seq .leaf (.block none (.sum Jbw Jts r0))) (.seq .leaf .leaf))))
abbrev Jpf := Bool -> Bool -> List PV -> Int -> Int -> OR
abbrev Ws (v2 : List PV) (v4 : Int) := (PV.isSt 113 #[Field.mk "Kind" 3 0 false "" "" 0, Field.mk "N" 3 1 false "" "" 8, Field.mk "S" 9 2 false "" "" 16].size (v2.getD v4.toNat PV.top) && (PV.isInt IntKind.i64 (PV.child 0 (v2.getD v4.toNat PV.top)) && (PV.isInt IntKind.i64 (PV.child (0 + 1) (v2.getD v4.toNat PV.top)) && ((PV.child (0 + 1 + 1) (v2.getD v4.toNat PV.top)).isStr && true))))
def Vt (f : Nat) (rc : Jpf) (k0 : Int -> OR) (v0 v1 : Bool) (v2 : List PV) (v3 v4 : Int) : OR := bif decide (v4 < zi v2.length) then bif decide (0 <= v4) && decide (v4 < zi v2.length) && (Ws v2 v4) && true then bif (PV.child 0 (v2.getD v4.toNat PV.top)).int == 1 then bif decide (0 <= v4) && decide (v4 < zi v2.length) && (Ws v2 v4) && true then bif decide (0 <= v4) && decide (v4 < zi v2.length) && (Ws v2 v4) && true then rc v0 v1 v2 (IntKind.i64.wrap (IntKind.i64.wrap (v3 + (PV.child (0 + 1) (v2.getD v4.toNat PV.top)).int) + zi (PV.child (0 + 1 + 1) (v2.getD v4.toNat PV.top)).str.size)) (IntKind.i64.wrap (v4 + 1)) else none else none else bif decide (0 <= v4) && decide (v4 < zi v2.length) && (Ws v2 v4) && true then rc v0 v1 v2 (IntKind.i64.wrap (v3 + zi (PV.child (0 + 1 + 1) (v2.getD v4.toNat PV.top)).str.size)) (IntKind.i64.wrap (v4 + 1)) else none else none else k0 v3
def Zw (f : Nat) (k0 : Int -> OR) : Nat -> Jpf
 | 0 => fun _ _ _ _ _ => none
 | n + 1 => Vt f (Zw f k0 n) k0
def VU (k : Kont) := fun x0 => k (Ex.exit 0) (Jj Jii Jts [.sc (.int .i64 x0)] [])
def Jij (f : Nat) (k : Kont) (n : Nat) (v0 v1 : Bool) (v2 : List PV) (v3 v4 : Int) : OR := Jy tau 0 Jbw (fun s k => ev tau JDt 0 0 Jih (JmS ) s k) n (Jj Jbw Jts [.ro 113 v0 v1 v2, .sc (.int .i64 v3), .sc (.int .i64 v4)] []) (JI tau 0 Jii k)
theorem Jtt (f : Nat) (k : Kont) (n : Nat) : Jij f k (n + 1) = Vt f (Jij f k n) (VU k) := by kernel_rfl
theorem JjW (f : Nat) (k : Kont) : ∀ n, Jij f k n = Zw f (VU k) n
 | 0 => rfl
 | n + 1 => (Jtt f k n).trans (congrArg (fun r => Vt f r (VU k)) (JjW f k n))
def GV (f : Nat) : List PV -> List (Nat × Ent) -> Kont -> OR
 | [.ro 113 v0 v1 v2, .sc (.int .i64 v3),
 .sc (.int .i64 v4)], [], k => Zw f (VU k) f v0 v1 v2 v3 v4
 | _, _, _ => none
theorem Jw3 (f : Nat) : Jg Jih JmS = [] := by kernel_rfl
theorem Jw4 (f : Nat) : (Item.l Jih Jbw Jts (GV f)).Ok tau Try.prog 0 := Ju Jn Jpd Jo (x := JmS) (nm2 := Jii) (Jk _ _ (by rw [Jw3 f]; intro q hq; cases hq)) fun vs hp k res hr => by
 unfold GV at hr
 split at hr
 · rw [← JjW f] at hr; exact ⟨f, 0, hr⟩
 · cases hr
def JJl (f : Nat) (o_z o_f : Bool) (o : List PV) (k : KR) : OR := Zw f (fun x0_0 => k (Res.mk (.sc (.int .i64 x0_0)) [] [])) f o_z o_f o (0) (0)
theorem JNt (f : Nat) (o_z o_f : Bool) (o : List PV) (k : KR) : JK tau JDt Try.f103 (Try.f103.body.get!) (Jpe (GV f)) [.ro] 0 [.ro 113 o_z o_f o] [] k = JJl f o_z o_f o k := by kernel_rfl
theorem JJm (f : Nat) : Jg (Try.f103.body.get!) (Jpe (GV f)) = [.l Jih Jbw Jts (GV f)] := by kernel_rfl
theorem JJn (f : Nat) : ∀ q ∈ Jg (Try.f103.body.get!) (Jpe (GV f)), q.Ok tau Try.prog 0 := by rw [JJm f]; exact JL (Jw4 f) (fun _ h => nomatch h)
theorem JzE : Try.prog.funcs[103]? = some Try.f103 := by kernel_rfl
theorem JzF : Try.f103.body = some (Try.f103.body.get!) := by kernel_rfl
theorem JJo : Enters Try.prog 103 := enters_of JzE (by kernel_rfl) JzF

def okW : Int -> Bool := hid fun n => decide (0 < n) && decide (n < 1000000000000)
theorem GW (n : Int) : okW n = (decide (0 < n) && decide (n < 1000000000000)) := by rw [okW, hid_eq]
end
end Go.Proofs.Ythpmachmnoljeaa.Rx
