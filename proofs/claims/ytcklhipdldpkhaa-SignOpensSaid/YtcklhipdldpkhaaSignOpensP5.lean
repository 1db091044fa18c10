/- What the functions of this law compute, and their plain laws. Conditions: none. -/
import Derived.KernelRfl
import Derived.Test.YtcklhipdldpkhaaSignOpensP4
namespace Go.Proofs.Ytcklhipdldpkhaa.Rx
open Go
set_option linter.unusedVariables false
set_option linter.unusedSimpArgs false
set_option maxRecDepth 100000
set_option maxHeartbeats 0
-- FN
theorem Jmf {c : CV} (h : ckC c = 0) : 1 ≤ c.kd ∧ c.kd ≤ 3 ∧ 0 ≤ c.n ∧ c.n ≤ 120 ∧ c.s.size ≤ 120 := by
  rw [Jhg] at h
  unfold Jlz at h
  cases h1 : (c.kd == 1 || c.kd == 3) with
  | true =>
    rw [h1, cond_true] at h
    cases h2 : (decide (c.n < 1) || (decide (c.n > 120) || !(c.s.size == 0))) with
    | true => rw [h2, cond_true] at h; exact absurd h (by decide)
    | false =>
      simp only [Bool.or_eq_false_iff, decide_eq_false_iff_not, Bool.not_eq_false', beq_iff_eq] at h2
      simp only [Bool.or_eq_true, beq_iff_eq] at h1
      omega
  | false =>
    rw [h1, cond_false] at h
    cases h3 : (c.kd == 2) with
    | false => rw [h3, cond_false] at h; exact absurd h (by decide)
    | true =>
      rw [h3, cond_true] at h
      cases h2 : (!(c.n == 0) || c.s.size == 0) with
      | true => rw [h2, cond_true] at h; exact absurd h (by decide)
      | false =>
        rw [h2, cond_false] at h
        cases h4 : decide (zi c.s.size > 120) with
        | true => rw [h4, cond_true] at h; exact absurd h (by decide)
        | false =>
          simp only [Bool.or_eq_false_iff, Bool.not_eq_false', beq_iff_eq] at h2
          simp only [zi, decide_eq_false_iff_not] at h4
          simp only [beq_iff_eq] at h3
          omega
theorem JfJ : ∀ {l : List PV}, ckL l = 0 → ∀ p ∈ l, ckC (cv p) = 0
  | [], _, p, hp => by cases hp
  | q :: r, h, p, hp => by
      simp only [ckL] at h
      cases hq : (ckC (cv q) == 0) with
      | false => rw [hq, cond_false] at h; rw [h] at hq; exact absurd hq (by decide)
      | true =>
        rw [hq, cond_true] at h
        rcases List.mem_cons.1 hp with rfl | hp
        · simpa using hq
        · exact JfJ h p hp
theorem Jmg {l : List PV} (h : ckO l = 0) : l.length ≤ 40 ∧ ∀ p ∈ l, ckC (cv p) = 0 := by
  rw [JdZ] at h
  unfold JlE at h
  cases hc : decide (zi l.length > 40) with
  | true => rw [hc, cond_true] at h; exact absurd h (by decide)
  | false =>
    rw [hc, cond_false] at h
    simp only [zi, decide_eq_false_iff_not] at hc
    exact ⟨by omega, JfJ h⟩
theorem Q2 {n : Int} (h : -1000000000000 ≤ n) (h2 : n ≤ 1000000000000) : i64B n = true := by
  unfold i64B; simp only [Bool.and_eq_true, decide_eq_true_eq]; omega
theorem JbR {n : Int} (h : 0 ≤ n) (h2 : n < 256) : IntKind.u8.wrap n = n := by
  have := W2 n; omega
theorem JoW {p : PV} (h : isCp p = true) (hc : ckC (cv p) = 0) (r : List PV) : cpV ⟨pu .u8 (Zu (cv p)) ++ r, 0⟩ = p ∧ cpN ⟨pu .u8 (Zu (cv p)) ++ r, 0⟩ = ⟨r, 0⟩ := by
  obtain ⟨kd, n, s, rfl⟩ := JbD.1 h
  have hz := Jmf hc
  have hcv : cv (.st 99 [.sc (.int .i64 kd), .sc (.int .i64 n), .sc (.string s)]) = ⟨kd, n, s⟩ := rfl
  rw [hcv] at hz ⊢
  simp only at hz
  have e1 : pu .u8 (Zu ⟨kd, n, s⟩) ++ r = pu .u8 [IntKind.u8.wrap kd] ++ (pu .u8 (Qj n) ++ (pu .u8 (Qt s) ++ r)) := by
    simp only [Zu, JZ, List.append_assoc]
  obtain ⟨t1, t2⟩ := JiD (t := s) (by omega) r
  rw [e1]
  unfold cpV cpN
  rw [Jbu, ZI, Yf (Q2 (by omega) (by omega)), QR, t1, t2, JbR (by omega) (by omega)]
  exact ⟨rfl, rfl⟩
theorem JfK : ∀ (l : List PV) (r : List PV), l.all isCp = true → (∀ p ∈ l, ckC (cv p) = 0) → cpL l.length ⟨pu .u8 (QL l) ++ r, 0⟩ = l ∧ cpR l.length ⟨pu .u8 (QL l) ++ r, 0⟩ = ⟨r, 0⟩
  | [], r, _, _ => ⟨rfl, by simp [QL, cpR]⟩
  | p :: l, r, h, hc => by
      rw [List.all_cons, Bool.and_eq_true] at h
      have e : pu .u8 (QL (p :: l)) ++ r = pu .u8 (Zu (cv p)) ++ (pu .u8 (QL l) ++ r) := by
        simp only [QL, List.flatMap_cons, JZ, List.append_assoc]
      obtain ⟨a, b⟩ := JoW h.1 (hc p List.mem_cons_self) (pu .u8 (QL l) ++ r)
      obtain ⟨c, d⟩ := JfK l r h.2 fun q hq => hc q (List.mem_cons_of_mem _ hq)
      rw [e, List.length_cons, cpL, cpR, a, b, c, d]
      exact ⟨rfl, rfl⟩
theorem JoX {l : List PV} (h : l.all isCp = true) (hc : ckO l = 0) : opE (pu .u8 (opB l)) = 0 ∧ opL (pu .u8 (opB l)) = l := by
  obtain ⟨h1, h2⟩ := Jmg hc
  have e : pu .u8 (opB l) = pu .u8 [IntKind.u8.wrap (zi l.length)] ++ (pu .u8 (QL l) ++ []) := by
    rw [Jd2, Jok]; simp only [JZ, List.append_nil]
  have hw : IntKind.u8.wrap (zi l.length) = (l.length : Int) := JbR (by simp only [zi]; omega) (by simp only [zi]; omega)
  have hn : Jt 1 ⟨pu .u8 (opB l), 0⟩ = (l.length : Int) := by rw [e, Jbu, hw]
  have hs : Jb 1 ⟨pu .u8 (opB l), 0⟩ = ⟨pu .u8 (QL l) ++ [], 0⟩ := by rw [e, ZI]
  have hd : decide ((l.length : Int) > 40) = false := by simp; omega
  have hN : opN (pu .u8 (opB l)) = l.length := by unfold opN; rw [hn, hd, cond_false, Int.toNat_natCast]
  have hS : opS (pu .u8 (opB l)) = ⟨pu .u8 (QL l) ++ [], 0⟩ := by unfold opS; rw [hn, hd, cond_false, hs]
  obtain ⟨a, b⟩ := JfK l [] h h2
  have hE : Xz (pu .u8 (opB l)) = 0 := by unfold Xz; rw [hN, hS, a, b, hc]; rfl
  rw [GL, GM, hE, hN, hS, a]
  exact ⟨rfl, rfl⟩
theorem JfL {d : DV} (h : dCk d = 0) : (0 ≤ d.ad ∧ d.ad ≤ 2) ∧ (0 ≤ d.au ∧ d.au ≤ 7) ∧ (0 ≤ d.id ∧ d.id ≤ 1073741824) ∧ (0 ≤ d.ve ∧ d.ve ≤ 1048576) ∧ (1 ≤ d.kd ∧ d.kd ≤ 3) ∧ ckO d.o = 0 ∧ (0 ≤ d.wd ∧ d.wd ≤ 2) ∧ (0 ≤ d.wu ∧ d.wu ≤ 7) := by
  have hnil : ckO [] = 0 := by rw [JdZ]; rfl
  rw [JbJ] at h
  unfold JjW at h
  cases h1 : (inZ d.ad 2 && (inZ d.au 7 && (inZ d.id 1073741824 && inZ d.ve 1048576))) with
  | false => rw [h1, cond_false] at h; exact absurd h (by decide)
  | true =>
    rw [h1, cond_true] at h
    simp only [JaC, Bool.and_eq_true, decide_eq_true_eq] at h1
    cases hk : (d.kd == 1) with
    | true =>
      rw [hk, cond_true] at h
      cases hc : (ckO d.o == 0) with
      | false => rw [hc, cond_false] at h; rw [h] at hc; exact absurd hc (by decide)
      | true =>
        rw [hc, cond_true] at h
        cases hw : (d.wd == 0 && d.wu == 0) with
        | false => rw [hw, cond_false] at h; exact absurd h (by decide)
        | true =>
          simp only [Bool.and_eq_true, beq_iff_eq] at hw hk hc
          refine ⟨by omega, by omega, by omega, by omega, by omega, hc, by omega, by omega⟩
    | false =>
      rw [hk, cond_false] at h
      cases hk2 : (d.kd == 2 || d.kd == 3) with
      | false => rw [hk2, cond_false] at h; exact absurd h (by decide)
      | true =>
        rw [hk2, cond_true] at h
        cases hw : (d.o.isEmpty && (inZ d.wd 2 && inZ d.wu 7)) with
        | false => rw [hw, cond_false] at h; exact absurd h (by decide)
        | true =>
          simp only [Bool.and_eq_true, Bool.or_eq_true, beq_iff_eq, JaC, decide_eq_true_eq, List.isEmpty_iff] at hw hk2
          refine ⟨by omega, by omega, by omega, by omega, by omega, by rw [hw.1]; exact hnil, by omega, by omega⟩
theorem Jmh {d : DV} (ho : dOk d = true) (hb : byB d.h = true) (hc : dCk d = 0) :
    dE (pu .u8 (dlB d)) = 0 ∧ dv (pu .u8 (dlB d)) = d := by
  obtain ⟨o1, o2, o3, o4⟩ := Yw.1 ho
  obtain ⟨c1, c2, c3, c4, c5, c6, c7, c8⟩ := JfL hc
  have hcp : d.o.all isCp = true := (JaA.1 o3).1
  obtain ⟨q1, q2⟩ := JoX hcp c6
  have hbI : ∀ x ∈ Jd d.h, 0 ≤ x ∧ x < 256 := (Qx.1 hb).2
  have hl : (Jd d.h).length = 32 := by rw [Qu]; exact o2
  have e : pu .u8 (dlB d) = pu .u8 (Qj d.ad) ++ (pu .u8 (Qj d.au) ++ (pu .u8 (Qj d.id) ++ (pu .u8 (Qj d.ve) ++ (pu .u8 (Jd d.h) ++ (pu .u8 [IntKind.u8.wrap d.kd] ++ (pu .u8 (Qt (tx (pu .u8 (opB d.o)))) ++ (pu .u8 (Qj d.wd) ++ (pu .u8 (Qj d.wu) ++ [])))))))) := by
    rw [Jd4, JjV]; simp only [JZ, List.append_assoc, List.append_nil]
  generalize hB : pu .u8 (dlB d) = B at *
  have n1 : Jt 8 ⟨B, 0⟩ = d.ad := by rw [e]; exact Yf (Q2 (by omega) (by omega)) _
  have s1 : Jb 8 ⟨B, 0⟩ = ⟨pu .u8 (Qj d.au) ++ (pu .u8 (Qj d.id) ++ (pu .u8 (Qj d.ve) ++ (pu .u8 (Jd d.h) ++ (pu .u8 [IntKind.u8.wrap d.kd] ++ (pu .u8 (Qt (tx (pu .u8 (opB d.o)))) ++ (pu .u8 (Qj d.wd) ++ (pu .u8 (Qj d.wu) ++ []))))))), 0⟩ := by rw [e]; exact QR _ _
  obtain ⟨r1, r2⟩ := Jlo (Jd d.h) (pu .u8 [IntKind.u8.wrap d.kd] ++ (pu .u8 (Qt (tx (pu .u8 (opB d.o)))) ++ (pu .u8 (Qj d.wd) ++ (pu .u8 (Qj d.wu) ++ [])))) hbI
  rw [hl] at r1 r2
  have hd4 : d4 B = ⟨pu .u8 (Jd d.h) ++ (pu .u8 [IntKind.u8.wrap d.kd] ++ (pu .u8 (Qt (tx (pu .u8 (opB d.o)))) ++ (pu .u8 (Qj d.wd) ++ (pu .u8 (Qj d.wu) ++ [])))), 0⟩ := by
    unfold d4; rw [s1, QR, QR, QR]
  have hd5 : d5 B = ⟨pu .u8 [IntKind.u8.wrap d.kd] ++ (pu .u8 (Qt (tx (pu .u8 (opB d.o)))) ++ (pu .u8 (Qj d.wd) ++ (pu .u8 (Qj d.wu) ++ []))), 0⟩ := by
    unfold d5; rw [hd4, hashS_eq]; exact r1
  have hV : hashV (d4 B) = Jd d.h := by rw [hd4, hashV_eq]; exact r2
  obtain ⟨t1, t2⟩ := JiD (t := tx (pu .u8 (opB d.o))) (by rw [Yv, JO]; exact o4) (pu .u8 (Qj d.wd) ++ (pu .u8 (Qj d.wu) ++ []))
  have hd7 : d7 B = ⟨pu .u8 (Qj d.wd) ++ (pu .u8 (Qj d.wu) ++ []), 0⟩ := by unfold d7; rw [hd5, ZI, t2]
  have hd9 : d9 B = ⟨[], 0⟩ := by unfold d9; rw [hd7, QR, QR]
  have hdt : dt B = pu .u8 (opB d.o) := by
    unfold dt; rw [hd5, ZI, t1]
    exact JnP _ (JkA.2 (JsT d.o))
  have hdv : dv B = d := by
    have h0 : dv B = ⟨Jt 8 ⟨B, 0⟩, Jt 8 (Jb 8 ⟨B, 0⟩), Jt 8 (Jb 8 (Jb 8 ⟨B, 0⟩)), Jt 8 (Jb 8 (Jb 8 (Jb 8 ⟨B, 0⟩))), pu .u8 (hashV (d4 B)), Jt 1 (d5 B), opL (dt B), Jt 8 (d7 B), Jt 8 (Jb 8 (d7 B))⟩ := rfl
    rw [h0, n1, s1, Yf (Q2 (by omega) (by omega)), QR, Yf (Q2 (by omega) (by omega)), QR, Yf (Q2 (by omega) (by omega)), hV, hd5, Jbu, hdt, q2, hd7, Yf (Q2 (by omega) (by omega)), QR, Yf (Q2 (by omega) (by omega)), JbR (by omega) (by omega), ← Qb o1]
  refine ⟨?_, hdv⟩
  rw [Jah]
  unfold dE0
  rw [hd9, hdt, q1, hdv, hc]; rfl
theorem JfM {b : List PV} {d : DV} (h : dE b = 0) (hv : dv b = d) (h1 : Jh .u8 d.h = true) :
    dF 0 b = d.ad ∧ dF 1 b = d.au ∧ dF 2 b = d.id ∧ dF 3 b = d.ve ∧ dF 4 b = d.kd ∧ dF 5 b = d.wd ∧ dF 6 b = d.wu ∧ pu .u8 (dH b) = d.h ∧ dO b = d.o := by
  have h0 : dE0 b = 0 := by rw [← Jah]; exact h
  have a : ∀ i, dF i b = dN b i := fun i => by rw [JcZ, h0]; rfl
  have hh : pu .u8 (dH b) = (dv b).h := by rw [Jc0, h0]; rfl
  have ho : dO b = (dv b).o := by rw [Jc1, h0]; rfl
  refine ⟨?_, ?_, ?_, ?_, ?_, ?_, ?_, ?_, ?_⟩
  · rw [a, ← hv]; rfl
  · rw [a, ← hv]; rfl
  · rw [a, ← hv]; rfl
  · rw [a, ← hv]; rfl
  · rw [a, ← hv]; rfl
  · rw [a, ← hv]; rfl
  · rw [a, ← hv]; rfl
  · rw [hh, hv]
  · rw [ho, hv]
def Jtu {α : Type} (n : Nat) (k : Nat → α) : α := Nat.rec (k 0) (fun m _ => k (m + 1)) n
theorem JoY {α : Type} (n : Nat) (k : Nat → α) : Jtu n k = k n := by cases n <;> rfl
def JoZ {α : Type} (x : Int) (k : Int → α) : α := match x with
  | .ofNat n => Jtu n fun n => k (.ofNat n)
  | .negSucc n => Jtu n fun n => k (.negSucc n)
theorem Jjj {α : Type} (x : Int) (k : Int → α) : JoZ x k = k x := by cases x <;> simp only [JoZ, JoY]
def JbS {α : Type} : List Int → (List Int → α) → α
  | [], k => k []
  | x :: r, k => JoZ x fun x => JbS r fun r => k (x :: r)
theorem Gg {α : Type} : ∀ (l : List Int) (k : List Int → α), JbS l k = k l
  | [], k => rfl
  | x :: r, k => by simp only [JbS, Jjj, Gg r]
def Jek : Nat → List Int → List Int
  | 0, R => R
  | n + 1, R => JoZ (Jnh (R.getD 15 0) (R.getD 14 0) (R.getD 6 0) (R.getD 1 0)) fun x => Jek n (x :: R)
theorem JaD (L : List Int) (i j : Nat) (h : i + j + 1 = L.length) : L.reverse.getD i 0 = L.getD j 0 := by
  rw [List.getD_eq_getElem?_getD, List.getD_eq_getElem?_getD, List.getElem?_reverse (by omega)]
  congr 2; omega
theorem Jc3 (bs : List Int) : ∀ (n i : Nat), Jek n (Qo bs i).reverse = (Qo bs (i + n)).reverse
  | 0, i => rfl
  | n + 1, i => by
      have hl := JW bs i
      simp only [Jek, Jjj]
      rw [JaD _ 15 i (by omega), JaD _ 14 (i + 1) (by omega), JaD _ 6 (i + 9) (by omega), JaD _ 1 (i + 14) (by omega)]
      have := Jc3 bs n (i + 1)
      rw [Qo, List.reverse_append] at this
      rw [show i + (n + 1) = i + 1 + n from by omega, ← this]
      rfl
def Jjk : List Int → List Int → List Int → List Int
  | k :: ks, w :: ws, t => JbS (rnd k w t) fun t => Jjk ks ws t
  | _, _, t => t
theorem JfN (W s : List Int) (hW : W.length = 64) : ∀ (d i : Nat), i + d = 64 → Jjk (kks.drop i) (W.drop i) (YZ W s i) = YZ W s 64
  | 0, i, h => by
      obtain rfl : i = 64 := by omega
      rw [List.drop_of_length_le (l := W) (by rw [hW]; exact Nat.le_refl _)]
      cases kks.drop 64 <;> rfl
  | d + 1, i, h => by
      have h1 : i < kks.length := by show i < 64; omega
      have h2 : i < W.length := by omega
      rw [List.drop_eq_getElem_cons h1, List.drop_eq_getElem_cons h2]
      simp only [Jjk, Gg]
      have := JfN W s hW d (i + 1) (by omega)
      rw [← this, YZ]
      simp only [List.getD_eq_getElem?_getD, List.getElem?_eq_getElem h1, List.getElem?_eq_getElem h2, Option.getD_some]
def Jtv (s bs : List Int) : List Int :=
  JbS ((List.range 16).map (Jb1 bs)) fun w => JbS (Jek 48 w.reverse).reverse fun W => JbS (Jjk kks W s) fun t => (List.range 8).map fun i => ww (t.getD i 0 + s.getD i 0)
theorem Jo0 (s bs : List Int) : Jtv s bs = Jfa s bs := by
  simp only [Jtv, Gg]
  have h1 := Jc3 bs 48 0
  rw [Qo, Nat.zero_add] at h1
  rw [h1, List.reverse_reverse]
  have h2 := JfN (Qo bs 48) s (JW bs 48) 64 0 rfl
  rw [List.drop_zero, List.drop_zero, YZ] at h2
  rw [h2]; rfl
def Jjl (b : List Int) : Nat → List Int → List Int → List Int
  | 0, s, _ => s
  | n + 1, s, b' => JbS (Jtv s (b'.take 64)) fun s => Jjl b n s (b'.drop 64)
theorem JfO (b : List Int) : ∀ (n i : Nat) , Jjl b n (Wd iv b i) (b.drop (64 * i)) = Wd iv b (i + n)
  | 0, i => rfl
  | n + 1, i => by
      simp only [Jjl, Gg, Jo0, List.drop_drop]
      have := JfO b n (i + 1)
      rw [Wd, show 64 * (i + 1) = 64 * i + 64 from by omega] at this
      rw [this, show i + 1 + n = i + (n + 1) from by omega]
def JyJ (bs : List Int) (n : Nat) : List Int := JbS (QA bs) fun P => JbS (Jjl P n iv P) fun s => JbS (JjQ s) fun r => r
theorem Jjm (bs : List Int) : JyJ bs ((QA bs).length / 64) = JA bs := by
  rw [Jaw]
  simp only [JyJ, Gg]
  have := JfO (QA bs) ((QA bs).length / 64) 0
  rw [Wd, Nat.mul_zero, List.drop_zero, Nat.zero_add] at this
  rw [this]; rfl
-- FN law9.known
def Jtw : List Int := [222, 87, 173, 32, 103, 237, 148, 204, 175, 52, 179, 142, 217, 35, 16, 25, 63, 14, 57, 74, 190, 160, 150, 87, 13, 59, 41, 224, 246, 97, 92, 43]
def Jmi : List Int := [153, 23, 23, 68, 172, 113, 210, 173, 109, 178, 123, 198, 8, 243, 9, 87, 51, 187, 213, 49, 242, 44, 37, 15, 107, 179, 98, 137, 48, 46, 217, 95]
def k9L : List Int := [0, 0, 0, 0, 0, 0, 0, 0, 0, 0, 0, 0, 0, 0, 0, 0, 0, 0, 0, 0, 0, 0, 0, 0, 0, 0, 0, 0, 0, 0, 0, 0, 0, 0, 0, 0, 0, 0, 0, 0, 0, 0, 1, 0, 0, 0, 0, 0, 0, 0, 0, 0, 0, 0, 0, 0, 0, 0, 0, 0, 0, 0, 0, 0, 0, 0, 0, 0, 0, 0, 0, 0, 0, 0, 0, 0, 0]
theorem JyK : JA ([93, 6, 54, 54, 54, 54, 54, 54, 54, 54, 54, 54, 54, 54, 54, 54, 54, 54, 54, 54, 54, 54, 54, 54, 54, 54, 54, 54, 54, 54, 54, 54, 54, 54, 54, 54, 54, 54, 54, 54, 54, 54, 54, 54, 54, 54, 54, 54, 54, 54, 54, 54, 54, 54, 54, 54, 54, 54, 54, 54, 54, 54, 54, 54] ++ k9L) = Jtw := (Jjm ([93, 6, 54, 54, 54, 54, 54, 54, 54, 54, 54, 54, 54, 54, 54, 54, 54, 54, 54, 54, 54, 54, 54, 54, 54, 54, 54, 54, 54, 54, 54, 54, 54, 54, 54, 54, 54, 54, 54, 54, 54, 54, 54, 54, 54, 54, 54, 54, 54, 54, 54, 54, 54, 54, 54, 54, 54, 54, 54, 54, 54, 54, 54, 54] ++ k9L)).symm.trans (by kernel_rfl)
theorem Jtx : JA ([55, 108, 92, 92, 92, 92, 92, 92, 92, 92, 92, 92, 92, 92, 92, 92, 92, 92, 92, 92, 92, 92, 92, 92, 92, 92, 92, 92, 92, 92, 92, 92, 92, 92, 92, 92, 92, 92, 92, 92, 92, 92, 92, 92, 92, 92, 92, 92, 92, 92, 92, 92, 92, 92, 92, 92, 92, 92, 92, 92, 92, 92, 92, 92] ++ Jtw) = Jmi := (Jjm ([55, 108, 92, 92, 92, 92, 92, 92, 92, 92, 92, 92, 92, 92, 92, 92, 92, 92, 92, 92, 92, 92, 92, 92, 92, 92, 92, 92, 92, 92, 92, 92, 92, 92, 92, 92, 92, 92, 92, 92, 92, 92, 92, 92, 92, 92, 92, 92, 92, 92, 92, 92, 92, 92, 92, 92, 92, 92, 92, 92, 92, 92, 92, 92] ++ Jtw)).symm.trans (by kernel_rfl)
theorem Jty : JU [107, 48] k9L = Jmi := by
  have hk : VY [107, 48] = [107, 48] ++ List.replicate 62 0 := by simp [VY, JjS]
  rw [Jay, Jfn, hk]
  rw [show JT ([107, 48] ++ List.replicate 62 0) 54 = [93, 6, 54, 54, 54, 54, 54, 54, 54, 54, 54, 54, 54, 54, 54, 54, 54, 54, 54, 54, 54, 54, 54, 54, 54, 54, 54, 54, 54, 54, 54, 54, 54, 54, 54, 54, 54, 54, 54, 54, 54, 54, 54, 54, 54, 54, 54, 54, 54, 54, 54, 54, 54, 54, 54, 54, 54, 54, 54, 54, 54, 54, 54, 54] from by decide, show JT ([107, 48] ++ List.replicate 62 0) 92 = [55, 108, 92, 92, 92, 92, 92, 92, 92, 92, 92, 92, 92, 92, 92, 92, 92, 92, 92, 92, 92, 92, 92, 92, 92, 92, 92, 92, 92, 92, 92, 92, 92, 92, 92, 92, 92, 92, 92, 92, 92, 92, 92, 92, 92, 92, 92, 92, 92, 92, 92, 92, 92, 92, 92, 92, 92, 92, 92, 92, 92, 92, 92, 92] from by decide, JyK, Jtx]
noncomputable def z32 : List PV := List.replicate 32 (.sc (.int .u8 0))
noncomputable def k9 : List PV := [.ro 5 false false (kb 0 []), .ro 5 false false (kb 1 []), .ro 5 false false (kb 2 [])]
theorem JhE : kO3 k9 = true := Jej.2 ⟨JiE 0 rfl, JiE 1 rfl, JiE 2 rfl⟩
noncomputable def d9v : DV := ⟨0, 0, 0, 0, z32, 2, [], 0, 0⟩
theorem Jel : opB [] = [0] := by rw [Jd2]; rfl
theorem h32_z32 : h32 z32 = true := h32_iff.2 ⟨rfl, rfl⟩
theorem Jem : dOk d9v = true := Yw.2 ⟨rfl, rfl, JaA.2 ⟨rfl, fun p hp => (by cases hp), by decide⟩, by show (opB []).length ≤ _; rw [Jel]; decide⟩
theorem Jmj : dCk d9v = 0 := by rw [JbJ]; rfl
theorem JyL : eOk ⟨[], z32, 0, []⟩ = true := Ge.2 ⟨rfl, by decide, rfl, rfl, JaA.2 ⟨rfl, fun p hp => (by cases hp), by decide⟩, by show (opB []).length ≤ _; rw [Jel]; decide⟩
theorem JyM : Wz ⟨[], z32, 0, []⟩ ++ Jd z32 = k9L := by
  rw [JbF, JbE]
  show Qt (tx []) ++ (Jd z32 ++ (Qj 0 ++ Qt (tx (pu .u8 (opB []))))) ++ Jd z32 = _
  rw [Jel, W5, W5, Xp]
  unfold Vb
  rw [Jbr, Jbr]
  rfl
theorem Jtz (d : DV) (h : byB d.h = true := by rfl) : byB (pu .u8 (dlB d)) = true := by
  rw [JkA]
  intro x hx
  rw [Jd4] at hx
  simp only [JjV, List.mem_append, List.mem_singleton] at hx
  rcases hx with h1 | h1 | h1 | h1 | h1 | h1 | h1 | h1 | h1
  · exact Ye _ x h1
  · exact Ye _ x h1
  · exact Ye _ x h1
  · exact Ye _ x h1
  · exact (Qx.1 h).2 x h1
  · rw [h1]; exact ZH _
  · exact Jfo _ x h1
  · exact Ye _ x h1
  · exact Ye _ x h1
theorem JyN {l : List PV} {d : DV} (ho : dOk d = true) (hb : byB d.h = true) (hc : dCk d = 0) : WS ⟨l, pu .u8 (dlB d), pu .u8 (mcK ⟨l, d.ad, dlB d⟩)⟩ = 0 := by
  obtain ⟨t1, t2⟩ := Jmh ho hb hc
  obtain ⟨f0, f1, f2, f3, f4, f5, f6, f7, f8⟩ := JfM t1 t2 (Yw.1 ho).1
  have hk : kIn d.ad = true := by rw [Jd6]; have := (JfL hc).1; simp only [QK, Bool.and_eq_true, decide_eq_true_eq]; omega
  unfold WS
  simp only [t1, f0, hk, Wa, beq_self_eq_true, Bool.and_self, cond_true]
theorem JBt : emC ⟨k9, 0, ⟨[], z32, 0, []⟩, z32, z32⟩ = false := by
  rw [Jmb, Jhy, GP]
  simp only [JyM]
  have hk : QG ⟨k9, 0⟩ = pu .u8 [107, 48] := by
    rw [Jax]; show kb 0 [] = _; rw [Jlp]; rfl
  rw [hk, Wa, Jty]
  rw [show (Jmi == Jd z32) = false from by decide, Bool.and_false]
noncomputable def JhF : List PV → List Ent → (Res → Option Res) → Option Res
  | [], [], k => k ⟨.sc (.bool true), [], []⟩
  | _, _, _ => none
noncomputable def JyO : Sig := { own := [], run := JhF }
theorem JyP : Ji tau Try.prog 42 JyO := JBs.of fun xs es k res hr => by
  change JhF xs es k = some res at hr
  unfold JhF at hr
  split at hr
  · refine Eq.trans ?_ hr
    show g42 0 _ = _
    unfold g42
    have hz : [PV.sc (Value.int IntKind.u8 0), PV.sc (Value.int IntKind.u8 0), PV.sc (Value.int IntKind.u8 0), PV.sc (Value.int IntKind.u8 0), PV.sc (Value.int IntKind.u8 0), PV.sc (Value.int IntKind.u8 0), PV.sc (Value.int IntKind.u8 0), PV.sc (Value.int IntKind.u8 0), PV.sc (Value.int IntKind.u8 0), PV.sc (Value.int IntKind.u8 0), PV.sc (Value.int IntKind.u8 0), PV.sc (Value.int IntKind.u8 0), PV.sc (Value.int IntKind.u8 0), PV.sc (Value.int IntKind.u8 0), PV.sc (Value.int IntKind.u8 0), PV.sc (Value.int IntKind.u8 0), PV.sc (Value.int IntKind.u8 0), PV.sc (Value.int IntKind.u8 0), PV.sc (Value.int IntKind.u8 0), PV.sc (Value.int IntKind.u8 0), PV.sc (Value.int IntKind.u8 0), PV.sc (Value.int IntKind.u8 0), PV.sc (Value.int IntKind.u8 0), PV.sc (Value.int IntKind.u8 0), PV.sc (Value.int IntKind.u8 0), PV.sc (Value.int IntKind.u8 0), PV.sc (Value.int IntKind.u8 0), PV.sc (Value.int IntKind.u8 0), PV.sc (Value.int IntKind.u8 0), PV.sc (Value.int IntKind.u8 0), PV.sc (Value.int IntKind.u8 0), PV.sc (Value.int IntKind.u8 0)] = z32 := rfl
    have hk : [PV.ro 5 false false (kb 0 []), .ro 5 false false (kb 1 []), .ro 5 false false (kb 2 [])] = k9 := rfl
    have hd : DV.mk 0 0 0 0 z32 2 [] 0 0 = d9v := rfl
    simp only [hz, hk, hd]
    have hs := JyN (l := k9) Jem rfl Jmj
    have had : d9v.ad = 0 := rfl
    rw [had] at hs
    have hsE : soE ⟨k9, pu .u8 (dlB d9v), pu .u8 (mcK ⟨k9, 0, dlB d9v⟩)⟩ = 0 := by rw [JbM, hs]
    have hsF : soF 4 ⟨k9, pu .u8 (dlB d9v), pu .u8 (mcK ⟨k9, 0, dlB d9v⟩)⟩ = 2 := by
      rw [JbN, hs]
      show dF 4 (pu .u8 (dlB d9v)) = 2
      obtain ⟨t1, t2⟩ := Jmh Jem rfl Jmj
      exact (JfM t1 t2 rfl).2.2.2.2.1
    have hby : byB (pu .u8 (dlB d9v)) = true := Jtz _
    have hsl : slB false (pu .u8 (dlB d9v)) = true := Wp.2 ⟨fun h => (by cases h), by rw [JO]; have := Jc2 Jem; omega⟩
    have hmk : h32 (pu .u8 (mcK ⟨k9, 0, dlB d9v⟩)) = true := h32_iff.2 ⟨J6 _ _, by rw [JO]; exact JbL _⟩
    rw [hsE, hsF, JBt]
    refine (Jc (by rw [Jem, JhE]; rfl)).trans ((Jc (by rw [hsl, hby, hmk, JhE]; rfl)).trans ((Jc rfl).trans ((Jc rfl).trans ((Jc (by rw [JyL, h32_z32, JhE]; rfl)).trans rfl))))
  · cases hr
def Gh : Nat := 26
noncomputable def Jmk : Fns := F0
theorem Jjn : Jz tau Try.prog Jmk := JG
noncomputable def GQ : Code := QB (Try.f104.body.get!) [1, 1, 0, 1, 0, 0]
def WT : Nm := [(0, .any), (1, .any), (5, .any)]
def QW : Nm := [(4, .any)]
def JbT : An := (.seq (.seq .leaf (.cond .leaf .leaf)) (.seq (.block none (.seq .leaf (.cond (.seq .leaf .leaf) .leaf))) .leaf))
def Jjo (r0 : QZ) : An := (.seq .leaf (.seq (.seq .leaf (.cond (.seq .leaf .leaf) .leaf)) (.seq (.seq .leaf (.block none (.sum WT Gh r0))) (.seq .leaf .leaf))))
noncomputable def Zx (f : Nat) (rc : Bool → Bool → List PV → Bool → Bool → List PV → Int → Option Res) (k0 : Bool → Option Res) (k1 : Option Res) (v0 : Bool) (v1 : Bool) (v2 : List PV) (v3 : Bool) (v4 : Bool) (v5 : List PV) (v6 : Int) : Option Res := bif decide (v6 < zi v2.length) then bif decide (0 ≤ v6) && decide (v6 < zi v2.length) && (PV.isSt 99 #[Field.mk "Kind" 3 0 false "" "" 0, Field.mk "N" 3 1 false "" "" 8, Field.mk "S" 9 2 false "" "" 16].size (v2.getD v6.toNat PV.top) && (PV.isInt IntKind.i64 (PV.child 0 (v2.getD v6.toNat PV.top)) && (PV.isInt IntKind.i64 (PV.child (0 + 1) (v2.getD v6.toNat PV.top)) && ((PV.child (0 + 1 + 1) (v2.getD v6.toNat PV.top)).isStr && true)))) && true then bif decide (0 ≤ v6) && decide (v6 < zi v5.length) && (PV.isSt 99 #[Field.mk "Kind" 3 0 false "" "" 0, Field.mk "N" 3 1 false "" "" 8, Field.mk "S" 9 2 false "" "" 16].size (v5.getD v6.toNat PV.top) && (PV.isInt IntKind.i64 (PV.child 0 (v5.getD v6.toNat PV.top)) && (PV.isInt IntKind.i64 (PV.child (0 + 1) (v5.getD v6.toNat PV.top)) && ((PV.child (0 + 1 + 1) (v5.getD v6.toNat PV.top)).isStr && true)))) && true then bif !((PV.child 0 (v2.getD v6.toNat PV.top)).int == (PV.child 0 (v5.getD v6.toNat PV.top)).int && ((PV.child (0 + 1) (v2.getD v6.toNat PV.top)).int == (PV.child (0 + 1) (v5.getD v6.toNat PV.top)).int && (XA (PV.child (0 + 1 + 1) (v2.getD v6.toNat PV.top)).str (PV.child (0 + 1 + 1) (v5.getD v6.toNat PV.top)).str && true))) then k0 false else rc v0 v1 v2 v3 v4 v5 (IntKind.i64.wrap (v6 + 1)) else none else none else k1
noncomputable def Yy (f : Nat) (k0 : Bool → Option Res) (k1 : Option Res) : Nat → Bool → Bool → List PV → Bool → Bool → List PV → Int → Option Res
  | 0, _, _, _, _, _, _, _ => none
  | n + 1, v0, v1, v2, v3, v4, v5, v6 => Zx f (Yy f k0 k1 n) k0 k1 v0 v1 v2 v3 v4 v5 v6
theorem Jml (f : Nat) (k : Kont) (n : Nat) (v0 : Bool) (v1 : Bool) (v2 : List PV) (v3 : Bool) (v4 : Bool) (v5 : List PV) (v6 : Int) : Jo tau 0 WT (fun s k => ev tau Jmk 0 0 GQ (JbT ) s k) (n + 1) (Je WT Gh [.ro 99 v0 v1 v2, .ro 99 v3 v4 v5, .sc (.int .i64 v6)] []) (Jv tau 0 QW k) = Zx f (fun v0 v1 v2 v3 v4 v5 v6 => Jo tau 0 WT (fun s k => ev tau Jmk 0 0 GQ (JbT ) s k) n (Je WT Gh [.ro 99 v0 v1 v2, .ro 99 v3 v4 v5, .sc (.int .i64 v6)] []) (Jv tau 0 QW k)) (fun x0 => k Ex.ret (Je QW Gh [.sc (.bool x0)] [])) (k (Ex.exit 0) (Je QW Gh [PV.top] [])) v0 v1 v2 v3 v4 v5 v6 := by kernel_rfl
theorem JfP (f : Nat) (k : Kont) : ∀ (n : Nat) (v0 : Bool) (v1 : Bool) (v2 : List PV) (v3 : Bool) (v4 : Bool) (v5 : List PV) (v6 : Int), Jo tau 0 WT (fun s k => ev tau Jmk 0 0 GQ (JbT ) s k) n (Je WT Gh [.ro 99 v0 v1 v2, .ro 99 v3 v4 v5, .sc (.int .i64 v6)] []) (Jv tau 0 QW k) = Yy f (fun x0 => k Ex.ret (Je QW Gh [.sc (.bool x0)] [])) (k (Ex.exit 0) (Je QW Gh [PV.top] [])) n v0 v1 v2 v3 v4 v5 v6 | 0, _, _, _, _, _, _, _ => rfl | n + 1, v0, v1, v2, v3, v4, v5, v6 => (Jml f k n v0 v1 v2 v3 v4 v5 v6).trans (congrArg (fun r => Zx f r (fun x0 => k Ex.ret (Je QW Gh [.sc (.bool x0)] [])) (k (Ex.exit 0) (Je QW Gh [PV.top] [])) v0 v1 v2 v3 v4 v5 v6) (by funext v0 v1 v2 v3 v4 v5 v6; exact JfP f k n v0 v1 v2 v3 v4 v5 v6))
noncomputable def Vs (f : Nat) : List PV → List (Nat × Ent) → Kont → Option Res
  | [.ro 99 v0 v1 v2, .ro 99 v3 v4 v5,
  .sc (.int .i64 v6)], [], k => Yy f (fun x0 => k Ex.ret (Je QW Gh [.sc (.bool x0)] [])) (k (Ex.exit 0) (Je QW Gh [PV.top] [])) f v0 v1 v2 v3 v4 v5 v6
  | _, _, _ => none
theorem Jo1 (f : Nat) : Jg GQ JbT = [] := by kernel_rfl
theorem JtA (f : Nat) : (Item.l GQ WT Gh (Vs f)).Ok tau Try.prog 0 := JI Jr Jjn Js (x := JbT) (nm2 := QW) (Jp _ _ (by rw [Jo1 f]; intro q hq; cases hq)) fun vs hp k res hr => by
  unfold Vs at hr
  split at hr
  · exact ⟨f, 0, (JfP f _ f _ _ _ _ _ _ _ ).trans hr⟩
  · cases hr
noncomputable def JtB (f : Nat) (a_z : Bool) (a_f : Bool) (a : List PV) (b_z : Bool) (b_f : Bool) (b : List PV) (k : Res → Option Res) : Option Res := bif zi a.length != zi b.length then k (Res.mk (.sc (.bool false)) [] []) else Yy f (fun x0_0 => k (Res.mk (.sc (.bool x0_0)) [] [])) (k (Res.mk (.sc (.bool true)) [] [])) f a_z a_f a b_z b_f b (0)
theorem JBu (f : Nat) (a_z : Bool) (a_f : Bool) (a : List PV) (b_z : Bool) (b_f : Bool) (b : List PV) (k : Res → Option Res) : JM tau Jmk Try.f104 (Try.f104.body.get!) (Jjo (Vs f)) [.ro] 0 [.ro 99 a_z a_f a, .ro 99 b_z b_f b] [] k = JtB f a_z a_f a b_z b_f b k := by kernel_rfl
theorem JyQ (f : Nat) : Jg (Try.f104.body.get!) (Jjo (Vs f)) = [.l GQ WT Gh (Vs f)] := by kernel_rfl
theorem JyR (f : Nat) : ∀ q ∈ Jg (Try.f104.body.get!) (Jjo (Vs f)), q.Ok tau Try.prog 0 := by
  rw [JyQ f]; simp only [List.forall_mem_cons, List.not_mem_nil, false_implies, implies_true, and_true]; exact JtA f
theorem Jra : Try.prog.funcs[104]? = some Try.f104 := by kernel_rfl
theorem Jrb : Try.f104.body = some (Try.f104.body.get!) := by kernel_rfl
theorem JyS : Enters Try.prog 104 := enters_of Jra (by kernel_rfl) Jrb
-- FN ref4.Same
structure O2 where
  (a b : List PV)
def Jjp (p q : CV) : Bool := p.kd == q.kd && (p.n == q.n && (XA p.s q.s && true))
def Xv : List PV → List PV → Bool
  | [], [] => true
  | p :: ps, q :: qs => Jjp (cv p) (cv q) && Xv ps qs
  | _, _ => false
noncomputable def Gi : O2 → Bool := hid fun x => Xv x.a x.b
theorem JfQ (x : O2) : Gi x = Xv x.a x.b := by rw [Gi, hid_eq]
theorem JbU : ∀ l : List PV, Xv l l = true
  | [] => rfl
  | p :: ps => by
      have hs : XA (cv p).s (cv p).s = true := by rw [Jh3]; exact decide_eq_true rfl
      simp only [Xv, Jjp, JbU ps, hs, beq_self_eq_true, Bool.and_self]
theorem JhG (l : List PV) : Gi ⟨l, l⟩ = true := by rw [JfQ]; exact JbU l
theorem Jc4 : ∀ {a b : List PV}, Xv a b = true → a.length = b.length
  | [], [], _ => rfl
  | p :: ps, q :: qs, h => by
      simp only [Xv, Bool.and_eq_true] at h
      simp [Jc4 h.2]
  | [], _ :: _, h => by simp [Xv] at h
  | _ :: _, [], h => by simp [Xv] at h
theorem Jmm (a b : List PV) (ha : a.all isCp = true) (hb : b.all isCp = true) (hl : a.length = b.length) (h2 : a.length ≤ 9223372036854775807) (f : Nat) (k0 : Bool → Option Res) (k1 : Option Res) (z fl z' fl' : Bool) : ∀ (d i n : Nat), i + d = a.length → d < n →
    Yy f k0 k1 n z fl a z' fl' b (i : Int) = bif Xv (a.drop i) (b.drop i) then k1 else k0 false
  | 0, i, n + 1, hi, hn => by
      rw [List.drop_of_length_le (l := a) (by omega), List.drop_of_length_le (l := b) (by omega)]
      simp only [Yy, Zx]
      exact JK (by simp [zi]; omega)
  | d + 1, i, n + 1, hi, hn => by
      have g1 : ((i : Int)).toNat = i := by omega
      have w1 : IntKind.i64.wrap ((i : Int) + 1) = ((i + 1 : Nat) : Int) := by rw [wrap_i64 (by omega) (by omega)]; omega
      have hro : ∀ l : List PV, l.all isCp = true → l.length = a.length → (decide (0 ≤ (i : Int)) && decide ((i : Int) < zi l.length) && (PV.isSt 99 #[Field.mk "Kind" 3 0 false "" "" 0, Field.mk "N" 3 1 false "" "" 8, Field.mk "S" 9 2 false "" "" 16].size (l.getD i PV.top) && (PV.isInt IntKind.i64 (PV.child 0 (l.getD i PV.top)) && (PV.isInt IntKind.i64 (PV.child (0 + 1) (l.getD i PV.top)) && ((PV.child (0 + 1 + 1) (l.getD i PV.top)).isStr && true)))) && true) = true := by
        intro l h1 h3
        have hq : (PV.isSt 99 #[Field.mk "Kind" 3 0 false "" "" 0, Field.mk "N" 3 1 false "" "" 8, Field.mk "S" 9 2 false "" "" 16].size (l.getD i PV.top) && (PV.isInt IntKind.i64 (PV.child 0 (l.getD i PV.top)) && (PV.isInt IntKind.i64 (PV.child (0 + 1) (l.getD i PV.top)) && ((PV.child (0 + 1 + 1) (l.getD i PV.top)).isStr && true)))) = true := XM (XN h1 (by omega))
        rw [hq]; simp [zi]; omega
      have hs : ((PV.child 0 (a.getD i PV.top)).int == (PV.child 0 (b.getD i PV.top)).int && ((PV.child (0 + 1) (a.getD i PV.top)).int == (PV.child (0 + 1) (b.getD i PV.top)).int && (XA (PV.child (0 + 1 + 1) (a.getD i PV.top)).str (PV.child (0 + 1 + 1) (b.getD i PV.top)).str && true))) = Jjp (cv (a.getD i .top)) (cv (b.getD i .top)) := rfl
      simp only [Yy, Zx, g1, w1, hs]
      refine (Jc (by simp [zi]; omega)).trans ((Jc (hro a ha rfl)).trans ((Jc (hro b hb hl.symm)).trans ?_))
      rw [XO (l := a) (i := i) (by omega), XO (l := b) (i := i) (by omega), Xv]
      cases Jjp (cv (a.getD i .top)) (cv (b.getD i .top)) with
      | false => rfl
      | true =>
        rw [Bool.true_and]
        exact (JK rfl).trans (Jmm a b ha hb hl h2 f k0 k1 z fl z' fl' d (i + 1) n (by omega) (by omega))
noncomputable def Jen : List PV → List Ent → (Res → Option Res) → Option Res
  | [.ro 99 z f a, .ro 99 z' f' b], [], k => bif cOk a && cOk b then k ⟨.sc (.bool (Gi ⟨a, b⟩)), [], []⟩ else none
  | _, _, _ => none
noncomputable def Jrc : Sig := { own := [], run := Jen }
theorem Jo2 (z f z' f' : Bool) (a b : List PV) (ha : cOk a = true) (hb : cOk b = true) (k : Res → Option Res) : JtB (a.length + 2) z f a z' f' b k = k ⟨.sc (.bool (Gi ⟨a, b⟩)), [], []⟩ := by
  obtain ⟨h1, h2⟩ := Yu.1 ha
  obtain ⟨h3, h4⟩ := Yu.1 hb
  unfold JtB
  rw [JfQ]
  by_cases hl : a.length = b.length
  · refine (JK (by simp [zi, hl])).trans ?_
    refine (Jmm a b h1 h3 hl h2 (a.length + 2) _ _ z f z' f' a.length 0 (a.length + 2) (by omega) (by omega)).trans ?_
    rw [List.drop_zero, List.drop_zero]
    cases Xv a b <;> rfl
  · have hs : Xv a b = false := by
      cases h : Xv a b with
      | false => rfl
      | true => exact absurd (Jc4 h) hl
    rw [hs]
    exact Jc (by simp [zi]; omega)
theorem JtC : Ji tau Try.prog 104 Jrc := Ji.mk' fun xs es k res hl hr => by
  change Jen xs es k = some res at hr
  unfold Jen at hr
  split at hr
  · rename_i z f a z' f' b
    obtain ⟨hc, hr⟩ := JL hr
    rw [Bool.and_eq_true] at hc
    exact QQ Jr Jjn Js Jra Jrb (Jjo (Vs (a.length + 2))) [.ro] 0 0 (JyR (a.length + 2)) hl rfl ((JBu (a.length + 2) z f a z' f' b k).trans ((Jo2 z f z' f' a b hc.1 hc.2 k).trans hr))
  · cases hr
noncomputable def F50 : Fns := JD 104 Jrc (F0)
theorem JtD : Jz tau Try.prog F50 := (JG).add JtC JyS
def Jo3 : An := (.seq .leaf (.seq .leaf .leaf))
noncomputable def g50 (f : Nat) (a_Author_D : Int) (a_Author_U : Int) (a_Id : Int) (a_Version : Int) (a_Hash : List
  PV) (a_Kind : Int) (a_Op_z : Bool) (a_Op_f : Bool) (a_Op : List
  PV) (a_Who_D : Int) (a_Who_U : Int) (b_Author_D : Int) (b_Author_U : Int) (b_Id : Int) (b_Version : Int) (b_Hash : List
  PV) (b_Kind : Int) (b_Op_z : Bool) (b_Op_f : Bool) (b_Op : List PV) (b_Who_D : Int) (b_Who_U : Int) (k : Res → Option Res) : Option Res :=
  bif a_Author_D == b_Author_D && (a_Author_U == b_Author_U && true) then
    bif a_Id == b_Id then
      bif a_Version == b_Version then
        bif decide (a_Hash.length = 32) && decide (b_Hash.length = 32) && Jh IntKind.u8 a_Hash && Jh IntKind.u8 b_Hash && true then
          bif Qp a_Hash b_Hash then
            bif a_Kind == b_Kind then
              bif cOk a_Op && cOk b_Op then
                bif Gi (O2.mk a_Op b_Op) then
                  k (Res.mk (PV.sc (Value.bool (a_Who_D == b_Who_D && (a_Who_U == b_Who_U && true)))) [] [])
                else k (Res.mk (PV.sc (Value.bool false)) [] [])
              else none
            else k (Res.mk (PV.sc (Value.bool false)) [] [])
          else k (Res.mk (PV.sc (Value.bool false)) [] [])
        else none
      else k (Res.mk (PV.sc (Value.bool false)) [] [])
    else k (Res.mk (PV.sc (Value.bool false)) [] [])
  else k (Res.mk (PV.sc (Value.bool false)) [] [])
theorem e50 (f : Nat) (a_Author_D : Int) (a_Author_U : Int) (a_Id : Int) (a_Version : Int) (a_Hash : List PV) (a_Kind : Int) (a_Op_z : Bool) (a_Op_f : Bool) (a_Op : List PV) (a_Who_D : Int) (a_Who_U : Int) (b_Author_D : Int) (b_Author_U : Int) (b_Id : Int) (b_Version : Int) (b_Hash : List PV) (b_Kind : Int) (b_Op_z : Bool) (b_Op_f : Bool) (b_Op : List PV) (b_Who_D : Int) (b_Who_U : Int) (k : Res → Option Res) : JM tau F50 Try.f50 (Try.f50.body.get!) Jo3 [.ro] 0 [.st 73 [.st 45 [.sc (.int .i64 a_Author_D), .sc (.int .i64 a_Author_U)], .sc (.int .i64 a_Id), .sc (.int .i64 a_Version), .ar 37 a_Hash, .sc (.int .i64 a_Kind), .ro 99 a_Op_z a_Op_f a_Op, .st 45 [.sc (.int .i64 a_Who_D), .sc (.int .i64 a_Who_U)]], .st 73 [.st 45 [.sc (.int .i64 b_Author_D), .sc (.int .i64 b_Author_U)], .sc (.int .i64 b_Id), .sc (.int .i64 b_Version), .ar 37 b_Hash, .sc (.int .i64 b_Kind), .ro 99 b_Op_z b_Op_f b_Op, .st 45 [.sc (.int .i64 b_Who_D), .sc (.int .i64 b_Who_U)]]] [] k = g50 f a_Author_D a_Author_U a_Id a_Version a_Hash a_Kind a_Op_z a_Op_f a_Op a_Who_D a_Who_U b_Author_D b_Author_U b_Id b_Version b_Hash b_Kind b_Op_z b_Op_f b_Op b_Who_D b_Who_U k := by kernel_rfl
theorem JBv (f : Nat) : Jg (Try.f50.body.get!) Jo3 = [] := by kernel_rfl
theorem JBw (f : Nat) : ∀ q ∈ Jg (Try.f50.body.get!) Jo3, q.Ok tau Try.prog 0 := by
  rw [JBv f]; intro q hq; cases hq
theorem JyT : Try.prog.funcs[50]? = some Try.f50 := by kernel_rfl
theorem JyU : Try.f50.body = some (Try.f50.body.get!) := by kernel_rfl
theorem JBx : Enters Try.prog 50 := enters_of JyT (by kernel_rfl) JyU
noncomputable def Jmn : List PV → List Ent → (Res → Option Res) → Option Res
  | [.st 73 [.st 45 [.sc (.int .i64 a_Author_D), .sc (.int .i64 a_Author_U)], .sc (.int .i64 a_Id), .sc (.int .i64 a_Version), .ar 37 a_Hash, .sc (.int .i64 a_Kind), .ro 99 a_Op_z a_Op_f a_Op, .st 45 [.sc (.int .i64 a_Who_D), .sc (.int .i64 a_Who_U)]], .st 73 [.st 45 [.sc (.int .i64 b_Author_D), .sc (.int .i64 b_Author_U)], .sc (.int .i64 b_Id), .sc (.int .i64 b_Version), .ar 37 b_Hash, .sc (.int .i64 b_Kind), .ro 99 b_Op_z b_Op_f b_Op, .st 45 [.sc (.int .i64 b_Who_D), .sc (.int .i64 b_Who_U)]]], [], k => g50 0 a_Author_D a_Author_U a_Id a_Version a_Hash a_Kind a_Op_z a_Op_f a_Op a_Who_D a_Who_U b_Author_D b_Author_U b_Id b_Version b_Hash b_Kind b_Op_z b_Op_f b_Op b_Who_D b_Who_U k
  | _, _, _ => none
noncomputable def s50 : Sig := { own := [], run := Jmn }
theorem JBy : Ji tau Try.prog 50 s50 := JS Jr JtD Js JyT JyU Jo3 [.ro] 0 [] Jmn (JBw 0) fun xs es k res hr => by
  unfold Jmn at hr
  split at hr
  · exact ⟨rfl, 0, (e50 0 _ _ _ _ _ _ _ _ _ _ _ _ _ _ _ _ _ _ _ _ _ _  _).trans hr⟩
  · cases hr




-- FN slices.EqualFunc[[][]byte,[][]byte,[]byte,[]byte] | ref16.Same
structure MS where
  (c : C13) (b : List PV)
noncomputable def Jmo (T : TypeId) : List TypeId := match tau.und T with | some (.struct fds) => fds.toList.map (·.type) | _ => []
theorem Jmp {τ : Tab} {n : Nat} : ∀ (ts : List TypeId) (ps : List PV), ts.length = ps.length → (∀ (i : Nat) (t : TypeId) (q : PV), ts[i]? = some t → ps[i]? = some q → Ty τ n t q) → TyL τ n ts ps
  | [], [], _, _ => trivial
  | t :: ts, p :: ps, hl, h => ⟨h 0 t p rfl rfl, Jmp ts ps (by simpa using hl) fun i t q h1 h2 => h (i + 1) t q (by simpa using h1) (by simpa using h2)⟩
  | [], _ :: _, hl, _ => by simp at hl
  | _ :: _, [], hl, _ => by simp at hl
theorem JjY {n : Nat} {T : TypeId} {tys : List TypeId} {p : PV} (hc : Jmo T = tys) (hne : tys ≠ []) (h : Ty tau (n + 1) T p) : ∃ fs, p = .st T fs ∧ TyL tau n tys fs := by
  unfold Jmo at hc
  split at hc
  · rename_i fds hu
    obtain ⟨fs, rfl, hl, hf⟩ := JjL hu h
    refine ⟨fs, rfl, Jmp tys fs (by rw [← hc]; simpa using hl.symm) fun i t q h1 h2 => ?_⟩
    rw [← hc, List.getElem?_map] at h1
    rw [Array.getElem?_toList] at h1
    cases hfi : fds[i]? with
    | none => rw [hfi] at h1; cases h1
    | some f =>
      rw [hfi] at h1
      obtain rfl := Option.some.inj h1
      exact hf i f q hfi h2
  · exact absurd hc.symm hne
theorem Jmq {n : Nat} : ∀ (l : List PV), (∀ q ∈ l, Ty tau (n + 1) 5 q) → byB l = true
  | [], _ => rfl
  | p :: ps, h => by
      have u : tau.und 5 = some (.int .u8) := by kernel_rfl
      obtain ⟨x, rfl, hx⟩ := Jrm u (h p List.mem_cons_self)
      have ih := Jmq ps fun q hq => h q (List.mem_cons_of_mem _ hq)
      have e1 : IntKind.u8.min = 0 := rfl
      have e2 : IntKind.u8.max = 255 := rfl
      simp only [Lit.wf, e1, e2, Bool.and_eq_true, decide_eq_true_eq] at hx
      have e : byB (PV.sc (.int .u8 x) :: ps) = (((PV.sc (.int .u8 x)).isInt .u8 && (decide (0 ≤ (PV.sc (.int .u8 x)).int) && decide ((PV.sc (.int .u8 x)).int < 256))) && byB ps) := rfl
      rw [e, ih, Bool.and_true, Bool.and_eq_true, Bool.and_eq_true]
      exact ⟨rfl, decide_eq_true (by show 0 ≤ x; omega), decide_eq_true (by show x < 256; omega)⟩
theorem JfR {n : Nat} {p : PV} (h : Ty tau (n + 2) 29 p) : ∃ z b, p = .ro 5 z false b ∧ (z = true → b = []) ∧ b.length ≤ maxLen ∧ byB b = true := by
  have u : tau.und 29 = some (.slice 5) := by kernel_rfl
  obtain ⟨z, b, rfl, h1, h2, h3⟩ := Jkv u h
  exact ⟨z, b, rfl, h1, h2, Jmq b h3⟩
theorem Jo4 {n : Nat} {p : PV} (h : Ty tau (n + 2) 37 p) : ∃ l, p = .ar 37 l ∧ l.length = 32 ∧ byB l = true := by
  have u : tau.und 37 = some (.array 32 5) := by kernel_rfl
  obtain ⟨l, rfl, h1, h2⟩ := Jkw u h
  exact ⟨l, rfl, h1, Jmq l h2⟩
theorem JjZ {n : Nat} {p : PV} (h : Ty tau (n + 3) 77 p) : ∃ z b m, p = .st 77 [.ro 5 z false b, .ar 37 m] ∧ (z = true → b = []) ∧ b.length ≤ maxLen ∧ byB b = true ∧ m.length = 32 ∧ byB m = true := by
  obtain ⟨fs, rfl, hf⟩ := JjY (n := n + 2) (T := 77) (tys := [29, 37]) (by kernel_rfl) (List.cons_ne_nil _ _) h
  obtain ⟨p, q, rfl, h1, h2⟩ := JAe hf
  obtain ⟨z, b, rfl, r1, r2, r3⟩ := JfR h1
  obtain ⟨m, rfl, r4, r5⟩ := Jo4 h2
  exact ⟨z, b, m, rfl, r1, r2, r3, r4, r5⟩

-- FN law9.within
-- FN
theorem h32_by {l : List PV} (h : byB l = true) (h2 : l.length = 32) : h32 l = true := h32_iff.2 ⟨(Qx.1 h).1, h2⟩
theorem JfS {l : List PV} (h : Jh .u8 l = true) : Qp l l = true := by
  rw [Qb h, WW]; exact beq_self_eq_true _
-- FN ref8.Same | ref9.Same
structure DD where
  (a b : DV)
noncomputable def ZW : DD → Bool := hid fun x => (x.a.ad == x.b.ad && (x.a.au == x.b.au && true)) && (x.a.id == x.b.id && (x.a.ve == x.b.ve && (Qp x.a.h x.b.h && (x.a.kd == x.b.kd && (Gi ⟨x.a.o, x.b.o⟩ && (x.a.wd == x.b.wd && (x.a.wu == x.b.wu && true)))))))
theorem JfT (x : DD) : ZW x = ((x.a.ad == x.b.ad && (x.a.au == x.b.au && true)) && (x.a.id == x.b.id && (x.a.ve == x.b.ve && (Qp x.a.h x.b.h && (x.a.kd == x.b.kd && (Gi ⟨x.a.o, x.b.o⟩ && (x.a.wd == x.b.wd && (x.a.wu == x.b.wu && true)))))))) := by rw [ZW, hid_eq]
noncomputable def dS : DV → Bool := hid fun d => h32 d.h && cOk d.o
theorem JhH {d : DV} : dS d = true ↔ (Jh .u8 d.h = true ∧ d.h.length = 32) ∧ cOk d.o = true := by rw [dS, hid_eq, Bool.and_eq_true, h32_iff]
theorem JhI {d : DV} (h : Jh .u8 d.h = true) : ZW ⟨d, d⟩ = true := by
  rw [JfT]; simp only [beq_self_eq_true, JfS h, JhG, Bool.and_self]
noncomputable def JhJ : List PV → List Ent → (Res → Option Res) → Option Res
  | [.st 73 [.st 45 [.sc (.int .i64 ad), .sc (.int .i64 au)], .sc (.int .i64 id1), .sc (.int .i64 ve), .ar 37 h, .sc (.int .i64 kd), .ro 99 oz of o, .st 45 [.sc (.int .i64 wd), .sc (.int .i64 wu)]], .st 73 [.st 45 [.sc (.int .i64 ad2), .sc (.int .i64 au2)], .sc (.int .i64 id2), .sc (.int .i64 ve2), .ar 37 h2, .sc (.int .i64 kd2), .ro 99 oz2 of2 o2, .st 45 [.sc (.int .i64 wd2), .sc (.int .i64 wu2)]]], [], k =>
    bif dS ⟨ad, au, id1, ve, h, kd, o, wd, wu⟩ && dS ⟨ad2, au2, id2, ve2, h2, kd2, o2, wd2, wu2⟩ then k ⟨.sc (.bool (ZW ⟨⟨ad, au, id1, ve, h, kd, o, wd, wu⟩, ⟨ad2, au2, id2, ve2, h2, kd2, o2, wd2, wu2⟩⟩)), [], []⟩ else none
  | _, _, _ => none
noncomputable def JyV : Sig := { own := [], run := JhJ }
theorem JtE (ad au id1 ve : Int) (h : List PV) (kd : Int) (oz of : Bool) (o : List PV) (wd wu ad2 au2 id2 ve2 : Int) (h2 : List PV) (kd2 : Int) (oz2 of2 : Bool) (o2 : List PV) (wd2 wu2 : Int) (hc : (dS ⟨ad, au, id1, ve, h, kd, o, wd, wu⟩ && dS ⟨ad2, au2, id2, ve2, h2, kd2, o2, wd2, wu2⟩) = true) (k : Res → Option Res) :
    g50 0 ad au id1 ve h kd oz of o wd wu ad2 au2 id2 ve2 h2 kd2 oz2 of2 o2 wd2 wu2 k = k ⟨.sc (.bool (ZW ⟨⟨ad, au, id1, ve, h, kd, o, wd, wu⟩, ⟨ad2, au2, id2, ve2, h2, kd2, o2, wd2, wu2⟩⟩)), [], []⟩ := by
  rw [Bool.and_eq_true, JhH, JhH] at hc
  obtain ⟨⟨⟨a1, a2⟩, a3⟩, ⟨b1, b2⟩, b3⟩ := hc
  rw [JfT]
  unfold g50
  simp only [a1, a2, a3, b1, b2, b3, decide_true, Bool.and_true, Bool.and_self, cond_true]
  cases (ad == ad2 && au == au2) <;> cases (id1 == id2) <;> cases (ve == ve2) <;> cases (Qp h h2) <;> cases (kd == kd2) <;> cases (Gi ⟨o, o2⟩) <;> rfl
theorem JyW : Ji tau Try.prog 50 JyV := JBy.of fun xs es k res hr => by
  change JhJ xs es k = some res at hr
  unfold JhJ at hr
  split at hr
  · rename_i ad au id1 ve h kd oz of o wd wu ad2 au2 id2 ve2 h2 kd2 oz2 of2 o2 wd2 wu2
    obtain ⟨hc, hr⟩ := JL hr
    exact (JtE ad au id1 ve h kd oz of o wd wu ad2 au2 id2 ve2 h2 kd2 oz2 of2 o2 wd2 wu2 hc k).trans hr
  · cases hr
structure EW where
  (b m : List PV) (at1 : Int) (o h mc : List PV)
structure EE where
  (a b : EW)
noncomputable def F14 : Fns := JD 52 Jtl (JD 51 JyD (JD 50 JyV (JD 49 Jts (JD 42 JyO (JD 36 JsD (JD 21 Jsq (F0)))))))
theorem JtF : Jz tau Try.prog F14 := (((((((JG).add Jqb JtU).add Jql JwF).add JyP JBr).add Jq9 Jyw).add JyW JBx).add JyE JBn).add Jq8 Jyr
def Jo5 : An := (.seq .leaf (.seq (.seq .leaf (.cond (.seq .leaf .leaf) .leaf)) (.seq (.seq .leaf (.cond (.seq .leaf .leaf) .leaf)) (.seq .leaf (.seq (.seq .leaf (.seq .leaf (.cond .leaf .leaf))) (.seq .leaf (.seq .leaf (.seq .leaf .leaf))))))))
noncomputable def g14 (f : Nat) (key_z : Bool) (key_f : Bool) (key : List PV) (s_Body_z : Bool) (s_Body_f : Bool) (s_Body : List PV) (s_Mac : List PV) (right : Bool) (k : Res → Option Res) : Option Res :=
  bif decide (zi s_Body.length > 300) then
    k (Res.mk (PV.sc (Value.bool true)) [] [])
  else bif byB s_Body && s_Body.length.ble 1000000000 then
    bif dE s_Body == 0 then
      bif right then
        bif decide (0 ≤ dF 0 s_Body) && decide (dF 0 s_Body < zi 3) && true then
          bif PV.isRo 5 (Jj (PV.st 31 [PV.ro 5 false false (kb 0 key), PV.ro 5 false false (kb 1 key), PV.ro 5 false false (kb 2 key)]) [(dF 0 s_Body).toNat]) && true then
            bif Jh IntKind.u8 (Jj (PV.st 31 [PV.ro 5 false false (kb 0 key), PV.ro 5 false false (kb 1 key), PV.ro 5 false false (kb 2 key)]) [(dF 0 s_Body).toNat]).els &&
                decide ((Jj (PV.st 31 [PV.ro 5 false false (kb 0 key), PV.ro 5 false false (kb 1 key), PV.ro 5 false false (kb 2 key)]) [(dF 0 s_Body).toNat]).els.length ≤ 1000000000) &&
              (Jh IntKind.u8 s_Body && decide (s_Body.length ≤ 1000000000)) then
              bif slB s_Body_z s_Body && byB s_Body &&
                (h32
                    (pu IntKind.u8
                      (JU (Jd (Jj (PV.st 31 [PV.ro 5 false false (kb 0 key), PV.ro 5 false false (kb 1 key), PV.ro 5 false false (kb 2 key)]) [(dF 0 s_Body).toNat]).els) (Jd s_Body))) &&
                  kO3 [PV.ro 5 false false (kb 0 key), PV.ro 5 false false (kb 1 key), PV.ro 5 false false (kb 2 key)]) then
                bif byB s_Body && s_Body.length.ble 1000000000 &&
                  (h32
                      (pu IntKind.u8
                        (JU (Jd (Jj (PV.st 31 [PV.ro 5 false false (kb 0 key), PV.ro 5 false false (kb 1 key), PV.ro 5 false false (kb 2 key)]) [(dF 0 s_Body).toNat]).els) (Jd s_Body))) &&
                    kO3 [PV.ro 5 false false (kb 0 key), PV.ro 5 false false (kb 1 key), PV.ro 5 false false (kb 2 key)]) then
                  bif soE
                      (SO.mk [PV.ro 5 false false (kb 0 key), PV.ro 5 false false (kb 1 key), PV.ro 5 false false (kb 2 key)] s_Body
                        (pu IntKind.u8
                          (JU (Jd (Jj (PV.st 31 [PV.ro 5 false false (kb 0 key), PV.ro 5 false false (kb 1 key), PV.ro 5 false false (kb 2 key)]) [(dF 0 s_Body).toNat]).els) (Jd s_Body)))) ==
                    soE
                      (SO.mk [PV.ro 5 false false (kb 0 key), PV.ro 5 false false (kb 1 key), PV.ro 5 false false (kb 2 key)] s_Body
                        (pu IntKind.u8
                          (JU (Jd (Jj (PV.st 31 [PV.ro 5 false false (kb 0 key), PV.ro 5 false false (kb 1 key), PV.ro 5 false false (kb 2 key)]) [(dF 0 s_Body).toNat]).els)
                            (Jd s_Body)))) then
                    bif dS
                        (DV.mk
                          (soF 0
                            (SO.mk [PV.ro 5 false false (kb 0 key), PV.ro 5 false false (kb 1 key), PV.ro 5 false false (kb 2 key)] s_Body
                              (pu IntKind.u8
                                (JU (Jd (Jj (PV.st 31 [PV.ro 5 false false (kb 0 key), PV.ro 5 false false (kb 1 key), PV.ro 5 false false (kb 2 key)]) [(dF 0 s_Body).toNat]).els)
                                  (Jd s_Body)))))
                          (soF 1
                            (SO.mk [PV.ro 5 false false (kb 0 key), PV.ro 5 false false (kb 1 key), PV.ro 5 false false (kb 2 key)] s_Body
                              (pu IntKind.u8
                                (JU (Jd (Jj (PV.st 31 [PV.ro 5 false false (kb 0 key), PV.ro 5 false false (kb 1 key), PV.ro 5 false false (kb 2 key)]) [(dF 0 s_Body).toNat]).els)
                                  (Jd s_Body)))))
                          (soF 2
                            (SO.mk [PV.ro 5 false false (kb 0 key), PV.ro 5 false false (kb 1 key), PV.ro 5 false false (kb 2 key)] s_Body
                              (pu IntKind.u8
                                (JU (Jd (Jj (PV.st 31 [PV.ro 5 false false (kb 0 key), PV.ro 5 false false (kb 1 key), PV.ro 5 false false (kb 2 key)]) [(dF 0 s_Body).toNat]).els)
                                  (Jd s_Body)))))
                          (soF 3
                            (SO.mk [PV.ro 5 false false (kb 0 key), PV.ro 5 false false (kb 1 key), PV.ro 5 false false (kb 2 key)] s_Body
                              (pu IntKind.u8
                                (JU (Jd (Jj (PV.st 31 [PV.ro 5 false false (kb 0 key), PV.ro 5 false false (kb 1 key), PV.ro 5 false false (kb 2 key)]) [(dF 0 s_Body).toNat]).els)
                                  (Jd s_Body)))))
                          (pu IntKind.u8
                            (soH
                              (SO.mk [PV.ro 5 false false (kb 0 key), PV.ro 5 false false (kb 1 key), PV.ro 5 false false (kb 2 key)] s_Body
                                (pu IntKind.u8
                                  (JU (Jd (Jj (PV.st 31 [PV.ro 5 false false (kb 0 key), PV.ro 5 false false (kb 1 key), PV.ro 5 false false (kb 2 key)]) [(dF 0 s_Body).toNat]).els)
                                    (Jd s_Body))))))
                          (soF 4
                            (SO.mk [PV.ro 5 false false (kb 0 key), PV.ro 5 false false (kb 1 key), PV.ro 5 false false (kb 2 key)] s_Body
                              (pu IntKind.u8
                                (JU (Jd (Jj (PV.st 31 [PV.ro 5 false false (kb 0 key), PV.ro 5 false false (kb 1 key), PV.ro 5 false false (kb 2 key)]) [(dF 0 s_Body).toNat]).els)
                                  (Jd s_Body)))))
                          (soO
                            (SO.mk [PV.ro 5 false false (kb 0 key), PV.ro 5 false false (kb 1 key), PV.ro 5 false false (kb 2 key)] s_Body
                              (pu IntKind.u8
                                (JU (Jd (Jj (PV.st 31 [PV.ro 5 false false (kb 0 key), PV.ro 5 false false (kb 1 key), PV.ro 5 false false (kb 2 key)]) [(dF 0 s_Body).toNat]).els)
                                  (Jd s_Body)))))
                          (soF 5
                            (SO.mk [PV.ro 5 false false (kb 0 key), PV.ro 5 false false (kb 1 key), PV.ro 5 false false (kb 2 key)] s_Body
                              (pu IntKind.u8
                                (JU (Jd (Jj (PV.st 31 [PV.ro 5 false false (kb 0 key), PV.ro 5 false false (kb 1 key), PV.ro 5 false false (kb 2 key)]) [(dF 0 s_Body).toNat]).els)
                                  (Jd s_Body)))))
                          (soF 6
                            (SO.mk [PV.ro 5 false false (kb 0 key), PV.ro 5 false false (kb 1 key), PV.ro 5 false false (kb 2 key)] s_Body
                              (pu IntKind.u8
                                (JU (Jd (Jj (PV.st 31 [PV.ro 5 false false (kb 0 key), PV.ro 5 false false (kb 1 key), PV.ro 5 false false (kb 2 key)]) [(dF 0 s_Body).toNat]).els)
                                  (Jd s_Body)))))) &&
                      dS
                        (DV.mk
                          (soF 0
                            (SO.mk [PV.ro 5 false false (kb 0 key), PV.ro 5 false false (kb 1 key), PV.ro 5 false false (kb 2 key)] s_Body
                              (pu IntKind.u8
                                (JU (Jd (Jj (PV.st 31 [PV.ro 5 false false (kb 0 key), PV.ro 5 false false (kb 1 key), PV.ro 5 false false (kb 2 key)]) [(dF 0 s_Body).toNat]).els)
                                  (Jd s_Body)))))
                          (soF 1
                            (SO.mk [PV.ro 5 false false (kb 0 key), PV.ro 5 false false (kb 1 key), PV.ro 5 false false (kb 2 key)] s_Body
                              (pu IntKind.u8
                                (JU (Jd (Jj (PV.st 31 [PV.ro 5 false false (kb 0 key), PV.ro 5 false false (kb 1 key), PV.ro 5 false false (kb 2 key)]) [(dF 0 s_Body).toNat]).els)
                                  (Jd s_Body)))))
                          (soF 2
                            (SO.mk [PV.ro 5 false false (kb 0 key), PV.ro 5 false false (kb 1 key), PV.ro 5 false false (kb 2 key)] s_Body
                              (pu IntKind.u8
                                (JU (Jd (Jj (PV.st 31 [PV.ro 5 false false (kb 0 key), PV.ro 5 false false (kb 1 key), PV.ro 5 false false (kb 2 key)]) [(dF 0 s_Body).toNat]).els)
                                  (Jd s_Body)))))
                          (soF 3
                            (SO.mk [PV.ro 5 false false (kb 0 key), PV.ro 5 false false (kb 1 key), PV.ro 5 false false (kb 2 key)] s_Body
                              (pu IntKind.u8
                                (JU (Jd (Jj (PV.st 31 [PV.ro 5 false false (kb 0 key), PV.ro 5 false false (kb 1 key), PV.ro 5 false false (kb 2 key)]) [(dF 0 s_Body).toNat]).els)
                                  (Jd s_Body)))))
                          (pu IntKind.u8
                            (soH
                              (SO.mk [PV.ro 5 false false (kb 0 key), PV.ro 5 false false (kb 1 key), PV.ro 5 false false (kb 2 key)] s_Body
                                (pu IntKind.u8
                                  (JU (Jd (Jj (PV.st 31 [PV.ro 5 false false (kb 0 key), PV.ro 5 false false (kb 1 key), PV.ro 5 false false (kb 2 key)]) [(dF 0 s_Body).toNat]).els)
                                    (Jd s_Body))))))
                          (soF 4
                            (SO.mk [PV.ro 5 false false (kb 0 key), PV.ro 5 false false (kb 1 key), PV.ro 5 false false (kb 2 key)] s_Body
                              (pu IntKind.u8
                                (JU (Jd (Jj (PV.st 31 [PV.ro 5 false false (kb 0 key), PV.ro 5 false false (kb 1 key), PV.ro 5 false false (kb 2 key)]) [(dF 0 s_Body).toNat]).els)
                                  (Jd s_Body)))))
                          (soO
                            (SO.mk [PV.ro 5 false false (kb 0 key), PV.ro 5 false false (kb 1 key), PV.ro 5 false false (kb 2 key)] s_Body
                              (pu IntKind.u8
                                (JU (Jd (Jj (PV.st 31 [PV.ro 5 false false (kb 0 key), PV.ro 5 false false (kb 1 key), PV.ro 5 false false (kb 2 key)]) [(dF 0 s_Body).toNat]).els)
                                  (Jd s_Body)))))
                          (soF 5
                            (SO.mk [PV.ro 5 false false (kb 0 key), PV.ro 5 false false (kb 1 key), PV.ro 5 false false (kb 2 key)] s_Body
                              (pu IntKind.u8
                                (JU (Jd (Jj (PV.st 31 [PV.ro 5 false false (kb 0 key), PV.ro 5 false false (kb 1 key), PV.ro 5 false false (kb 2 key)]) [(dF 0 s_Body).toNat]).els)
                                  (Jd s_Body)))))
                          (soF 6
                            (SO.mk [PV.ro 5 false false (kb 0 key), PV.ro 5 false false (kb 1 key), PV.ro 5 false false (kb 2 key)] s_Body
                              (pu IntKind.u8
                                (JU (Jd (Jj (PV.st 31 [PV.ro 5 false false (kb 0 key), PV.ro 5 false false (kb 1 key), PV.ro 5 false false (kb 2 key)]) [(dF 0 s_Body).toNat]).els)
                                  (Jd s_Body)))))) then
                      k (Res.mk
                        (PV.sc
                          (Value.bool
                            (ZW
                              (DD.mk
                                (DV.mk
                                  (soF 0
                                    (SO.mk [PV.ro 5 false false (kb 0 key), PV.ro 5 false false (kb 1 key), PV.ro 5 false false (kb 2 key)] s_Body
                                      (pu IntKind.u8
                                        (JU (Jd (Jj (PV.st 31 [PV.ro 5 false false (kb 0 key), PV.ro 5 false false (kb 1 key), PV.ro 5 false false (kb 2 key)]) [(dF 0 s_Body).toNat]).els)
                                          (Jd s_Body)))))
                                  (soF 1
                                    (SO.mk [PV.ro 5 false false (kb 0 key), PV.ro 5 false false (kb 1 key), PV.ro 5 false false (kb 2 key)] s_Body
                                      (pu IntKind.u8
                                        (JU (Jd (Jj (PV.st 31 [PV.ro 5 false false (kb 0 key), PV.ro 5 false false (kb 1 key), PV.ro 5 false false (kb 2 key)]) [(dF 0 s_Body).toNat]).els)
                                          (Jd s_Body)))))
                                  (soF 2
                                    (SO.mk [PV.ro 5 false false (kb 0 key), PV.ro 5 false false (kb 1 key), PV.ro 5 false false (kb 2 key)] s_Body
                                      (pu IntKind.u8
                                        (JU (Jd (Jj (PV.st 31 [PV.ro 5 false false (kb 0 key), PV.ro 5 false false (kb 1 key), PV.ro 5 false false (kb 2 key)]) [(dF 0 s_Body).toNat]).els)
                                          (Jd s_Body)))))
                                  (soF 3
                                    (SO.mk [PV.ro 5 false false (kb 0 key), PV.ro 5 false false (kb 1 key), PV.ro 5 false false (kb 2 key)] s_Body
                                      (pu IntKind.u8
                                        (JU (Jd (Jj (PV.st 31 [PV.ro 5 false false (kb 0 key), PV.ro 5 false false (kb 1 key), PV.ro 5 false false (kb 2 key)]) [(dF 0 s_Body).toNat]).els)
                                          (Jd s_Body)))))
                                  (pu IntKind.u8
                                    (soH
                                      (SO.mk [PV.ro 5 false false (kb 0 key), PV.ro 5 false false (kb 1 key), PV.ro 5 false false (kb 2 key)] s_Body
                                        (pu IntKind.u8
                                          (JU (Jd (Jj (PV.st 31 [PV.ro 5 false false (kb 0 key), PV.ro 5 false false (kb 1 key), PV.ro 5 false false (kb 2 key)]) [(dF 0 s_Body).toNat]).els)
                                            (Jd s_Body))))))
                                  (soF 4
                                    (SO.mk [PV.ro 5 false false (kb 0 key), PV.ro 5 false false (kb 1 key), PV.ro 5 false false (kb 2 key)] s_Body
                                      (pu IntKind.u8
                                        (JU (Jd (Jj (PV.st 31 [PV.ro 5 false false (kb 0 key), PV.ro 5 false false (kb 1 key), PV.ro 5 false false (kb 2 key)]) [(dF 0 s_Body).toNat]).els)
                                          (Jd s_Body)))))
                                  (soO
                                    (SO.mk [PV.ro 5 false false (kb 0 key), PV.ro 5 false false (kb 1 key), PV.ro 5 false false (kb 2 key)] s_Body
                                      (pu IntKind.u8
                                        (JU (Jd (Jj (PV.st 31 [PV.ro 5 false false (kb 0 key), PV.ro 5 false false (kb 1 key), PV.ro 5 false false (kb 2 key)]) [(dF 0 s_Body).toNat]).els)
                                          (Jd s_Body)))))
                                  (soF 5
                                    (SO.mk [PV.ro 5 false false (kb 0 key), PV.ro 5 false false (kb 1 key), PV.ro 5 false false (kb 2 key)] s_Body
                                      (pu IntKind.u8
                                        (JU (Jd (Jj (PV.st 31 [PV.ro 5 false false (kb 0 key), PV.ro 5 false false (kb 1 key), PV.ro 5 false false (kb 2 key)]) [(dF 0 s_Body).toNat]).els)
                                          (Jd s_Body)))))
                                  (soF 6
                                    (SO.mk [PV.ro 5 false false (kb 0 key), PV.ro 5 false false (kb 1 key), PV.ro 5 false false (kb 2 key)] s_Body
                                      (pu IntKind.u8
                                        (JU (Jd (Jj (PV.st 31 [PV.ro 5 false false (kb 0 key), PV.ro 5 false false (kb 1 key), PV.ro 5 false false (kb 2 key)]) [(dF 0 s_Body).toNat]).els)
                                          (Jd s_Body))))))
                                (DV.mk
                                  (soF 0
                                    (SO.mk [PV.ro 5 false false (kb 0 key), PV.ro 5 false false (kb 1 key), PV.ro 5 false false (kb 2 key)] s_Body
                                      (pu IntKind.u8
                                        (JU (Jd (Jj (PV.st 31 [PV.ro 5 false false (kb 0 key), PV.ro 5 false false (kb 1 key), PV.ro 5 false false (kb 2 key)]) [(dF 0 s_Body).toNat]).els)
                                          (Jd s_Body)))))
                                  (soF 1
                                    (SO.mk [PV.ro 5 false false (kb 0 key), PV.ro 5 false false (kb 1 key), PV.ro 5 false false (kb 2 key)] s_Body
                                      (pu IntKind.u8
                                        (JU (Jd (Jj (PV.st 31 [PV.ro 5 false false (kb 0 key), PV.ro 5 false false (kb 1 key), PV.ro 5 false false (kb 2 key)]) [(dF 0 s_Body).toNat]).els)
                                          (Jd s_Body)))))
                                  (soF 2
                                    (SO.mk [PV.ro 5 false false (kb 0 key), PV.ro 5 false false (kb 1 key), PV.ro 5 false false (kb 2 key)] s_Body
                                      (pu IntKind.u8
                                        (JU (Jd (Jj (PV.st 31 [PV.ro 5 false false (kb 0 key), PV.ro 5 false false (kb 1 key), PV.ro 5 false false (kb 2 key)]) [(dF 0 s_Body).toNat]).els)
                                          (Jd s_Body)))))
                                  (soF 3
                                    (SO.mk [PV.ro 5 false false (kb 0 key), PV.ro 5 false false (kb 1 key), PV.ro 5 false false (kb 2 key)] s_Body
                                      (pu IntKind.u8
                                        (JU (Jd (Jj (PV.st 31 [PV.ro 5 false false (kb 0 key), PV.ro 5 false false (kb 1 key), PV.ro 5 false false (kb 2 key)]) [(dF 0 s_Body).toNat]).els)
                                          (Jd s_Body)))))
                                  (pu IntKind.u8
                                    (soH
                                      (SO.mk [PV.ro 5 false false (kb 0 key), PV.ro 5 false false (kb 1 key), PV.ro 5 false false (kb 2 key)] s_Body
                                        (pu IntKind.u8
                                          (JU (Jd (Jj (PV.st 31 [PV.ro 5 false false (kb 0 key), PV.ro 5 false false (kb 1 key), PV.ro 5 false false (kb 2 key)]) [(dF 0 s_Body).toNat]).els)
                                            (Jd s_Body))))))
                                  (soF 4
                                    (SO.mk [PV.ro 5 false false (kb 0 key), PV.ro 5 false false (kb 1 key), PV.ro 5 false false (kb 2 key)] s_Body
                                      (pu IntKind.u8
                                        (JU (Jd (Jj (PV.st 31 [PV.ro 5 false false (kb 0 key), PV.ro 5 false false (kb 1 key), PV.ro 5 false false (kb 2 key)]) [(dF 0 s_Body).toNat]).els)
                                          (Jd s_Body)))))
                                  (soO
                                    (SO.mk [PV.ro 5 false false (kb 0 key), PV.ro 5 false false (kb 1 key), PV.ro 5 false false (kb 2 key)] s_Body
                                      (pu IntKind.u8
                                        (JU (Jd (Jj (PV.st 31 [PV.ro 5 false false (kb 0 key), PV.ro 5 false false (kb 1 key), PV.ro 5 false false (kb 2 key)]) [(dF 0 s_Body).toNat]).els)
                                          (Jd s_Body)))))
                                  (soF 5
                                    (SO.mk [PV.ro 5 false false (kb 0 key), PV.ro 5 false false (kb 1 key), PV.ro 5 false false (kb 2 key)] s_Body
                                      (pu IntKind.u8
                                        (JU (Jd (Jj (PV.st 31 [PV.ro 5 false false (kb 0 key), PV.ro 5 false false (kb 1 key), PV.ro 5 false false (kb 2 key)]) [(dF 0 s_Body).toNat]).els)
                                          (Jd s_Body)))))
                                  (soF 6
                                    (SO.mk [PV.ro 5 false false (kb 0 key), PV.ro 5 false false (kb 1 key), PV.ro 5 false false (kb 2 key)] s_Body
                                      (pu IntKind.u8
                                        (JU (Jd (Jj (PV.st 31 [PV.ro 5 false false (kb 0 key), PV.ro 5 false false (kb 1 key), PV.ro 5 false false (kb 2 key)]) [(dF 0 s_Body).toNat]).els)
                                          (Jd s_Body))))))))))
                        [] [])
                    else none
                  else k (Res.mk (PV.sc (Value.bool false)) [] [])
                else none
              else none
            else none
          else none
        else none
      else bif slB s_Body_z s_Body && byB s_Body && (h32 s_Mac && kO3 [PV.ro 5 false false (kb 0 key), PV.ro 5 false false (kb 1 key), PV.ro 5 false false (kb 2 key)]) then
        bif byB s_Body && s_Body.length.ble 1000000000 && (h32 s_Mac && kO3 [PV.ro 5 false false (kb 0 key), PV.ro 5 false false (kb 1 key), PV.ro 5 false false (kb 2 key)]) then
          bif soE (SO.mk [PV.ro 5 false false (kb 0 key), PV.ro 5 false false (kb 1 key), PV.ro 5 false false (kb 2 key)] s_Body s_Mac) ==
            soE (SO.mk [PV.ro 5 false false (kb 0 key), PV.ro 5 false false (kb 1 key), PV.ro 5 false false (kb 2 key)] s_Body s_Mac) then
            bif dS
                (DV.mk (soF 0 (SO.mk [PV.ro 5 false false (kb 0 key), PV.ro 5 false false (kb 1 key), PV.ro 5 false false (kb 2 key)] s_Body s_Mac))
                  (soF 1 (SO.mk [PV.ro 5 false false (kb 0 key), PV.ro 5 false false (kb 1 key), PV.ro 5 false false (kb 2 key)] s_Body s_Mac))
                  (soF 2 (SO.mk [PV.ro 5 false false (kb 0 key), PV.ro 5 false false (kb 1 key), PV.ro 5 false false (kb 2 key)] s_Body s_Mac))
                  (soF 3 (SO.mk [PV.ro 5 false false (kb 0 key), PV.ro 5 false false (kb 1 key), PV.ro 5 false false (kb 2 key)] s_Body s_Mac))
                  (pu IntKind.u8 (soH (SO.mk [PV.ro 5 false false (kb 0 key), PV.ro 5 false false (kb 1 key), PV.ro 5 false false (kb 2 key)] s_Body s_Mac)))
                  (soF 4 (SO.mk [PV.ro 5 false false (kb 0 key), PV.ro 5 false false (kb 1 key), PV.ro 5 false false (kb 2 key)] s_Body s_Mac))
                  (soO (SO.mk [PV.ro 5 false false (kb 0 key), PV.ro 5 false false (kb 1 key), PV.ro 5 false false (kb 2 key)] s_Body s_Mac))
                  (soF 5 (SO.mk [PV.ro 5 false false (kb 0 key), PV.ro 5 false false (kb 1 key), PV.ro 5 false false (kb 2 key)] s_Body s_Mac))
                  (soF 6 (SO.mk [PV.ro 5 false false (kb 0 key), PV.ro 5 false false (kb 1 key), PV.ro 5 false false (kb 2 key)] s_Body s_Mac))) &&
              dS
                (DV.mk (soF 0 (SO.mk [PV.ro 5 false false (kb 0 key), PV.ro 5 false false (kb 1 key), PV.ro 5 false false (kb 2 key)] s_Body s_Mac))
                  (soF 1 (SO.mk [PV.ro 5 false false (kb 0 key), PV.ro 5 false false (kb 1 key), PV.ro 5 false false (kb 2 key)] s_Body s_Mac))
                  (soF 2 (SO.mk [PV.ro 5 false false (kb 0 key), PV.ro 5 false false (kb 1 key), PV.ro 5 false false (kb 2 key)] s_Body s_Mac))
                  (soF 3 (SO.mk [PV.ro 5 false false (kb 0 key), PV.ro 5 false false (kb 1 key), PV.ro 5 false false (kb 2 key)] s_Body s_Mac))
                  (pu IntKind.u8 (soH (SO.mk [PV.ro 5 false false (kb 0 key), PV.ro 5 false false (kb 1 key), PV.ro 5 false false (kb 2 key)] s_Body s_Mac)))
                  (soF 4 (SO.mk [PV.ro 5 false false (kb 0 key), PV.ro 5 false false (kb 1 key), PV.ro 5 false false (kb 2 key)] s_Body s_Mac))
                  (soO (SO.mk [PV.ro 5 false false (kb 0 key), PV.ro 5 false false (kb 1 key), PV.ro 5 false false (kb 2 key)] s_Body s_Mac))
                  (soF 5 (SO.mk [PV.ro 5 false false (kb 0 key), PV.ro 5 false false (kb 1 key), PV.ro 5 false false (kb 2 key)] s_Body s_Mac))
                  (soF 6 (SO.mk [PV.ro 5 false false (kb 0 key), PV.ro 5 false false (kb 1 key), PV.ro 5 false false (kb 2 key)] s_Body s_Mac))) then
              k (Res.mk
                (PV.sc
                  (Value.bool
                    (ZW
                      (DD.mk
                        (DV.mk (soF 0 (SO.mk [PV.ro 5 false false (kb 0 key), PV.ro 5 false false (kb 1 key), PV.ro 5 false false (kb 2 key)] s_Body s_Mac))
                          (soF 1 (SO.mk [PV.ro 5 false false (kb 0 key), PV.ro 5 false false (kb 1 key), PV.ro 5 false false (kb 2 key)] s_Body s_Mac))
                          (soF 2 (SO.mk [PV.ro 5 false false (kb 0 key), PV.ro 5 false false (kb 1 key), PV.ro 5 false false (kb 2 key)] s_Body s_Mac))
                          (soF 3 (SO.mk [PV.ro 5 false false (kb 0 key), PV.ro 5 false false (kb 1 key), PV.ro 5 false false (kb 2 key)] s_Body s_Mac))
                          (pu IntKind.u8 (soH (SO.mk [PV.ro 5 false false (kb 0 key), PV.ro 5 false false (kb 1 key), PV.ro 5 false false (kb 2 key)] s_Body s_Mac)))
                          (soF 4 (SO.mk [PV.ro 5 false false (kb 0 key), PV.ro 5 false false (kb 1 key), PV.ro 5 false false (kb 2 key)] s_Body s_Mac))
                          (soO (SO.mk [PV.ro 5 false false (kb 0 key), PV.ro 5 false false (kb 1 key), PV.ro 5 false false (kb 2 key)] s_Body s_Mac))
                          (soF 5 (SO.mk [PV.ro 5 false false (kb 0 key), PV.ro 5 false false (kb 1 key), PV.ro 5 false false (kb 2 key)] s_Body s_Mac))
                          (soF 6 (SO.mk [PV.ro 5 false false (kb 0 key), PV.ro 5 false false (kb 1 key), PV.ro 5 false false (kb 2 key)] s_Body s_Mac)))
                        (DV.mk (soF 0 (SO.mk [PV.ro 5 false false (kb 0 key), PV.ro 5 false false (kb 1 key), PV.ro 5 false false (kb 2 key)] s_Body s_Mac))
                          (soF 1 (SO.mk [PV.ro 5 false false (kb 0 key), PV.ro 5 false false (kb 1 key), PV.ro 5 false false (kb 2 key)] s_Body s_Mac))
                          (soF 2 (SO.mk [PV.ro 5 false false (kb 0 key), PV.ro 5 false false (kb 1 key), PV.ro 5 false false (kb 2 key)] s_Body s_Mac))
                          (soF 3 (SO.mk [PV.ro 5 false false (kb 0 key), PV.ro 5 false false (kb 1 key), PV.ro 5 false false (kb 2 key)] s_Body s_Mac))
                          (pu IntKind.u8 (soH (SO.mk [PV.ro 5 false false (kb 0 key), PV.ro 5 false false (kb 1 key), PV.ro 5 false false (kb 2 key)] s_Body s_Mac)))
                          (soF 4 (SO.mk [PV.ro 5 false false (kb 0 key), PV.ro 5 false false (kb 1 key), PV.ro 5 false false (kb 2 key)] s_Body s_Mac))
                          (soO (SO.mk [PV.ro 5 false false (kb 0 key), PV.ro 5 false false (kb 1 key), PV.ro 5 false false (kb 2 key)] s_Body s_Mac))
                          (soF 5 (SO.mk [PV.ro 5 false false (kb 0 key), PV.ro 5 false false (kb 1 key), PV.ro 5 false false (kb 2 key)] s_Body s_Mac))
                          (soF 6 (SO.mk [PV.ro 5 false false (kb 0 key), PV.ro 5 false false (kb 1 key), PV.ro 5 false false (kb 2 key)] s_Body s_Mac)))))))
                [] [])
            else none
          else k (Res.mk (PV.sc (Value.bool false)) [] [])
        else none
      else none
    else bif slB s_Body_z s_Body && byB s_Body && (h32 s_Mac && kO3 [PV.ro 5 false false (kb 0 key), PV.ro 5 false false (kb 1 key), PV.ro 5 false false (kb 2 key)]) then
      bif byB s_Body && s_Body.length.ble 1000000000 && (h32 s_Mac && kO3 [PV.ro 5 false false (kb 0 key), PV.ro 5 false false (kb 1 key), PV.ro 5 false false (kb 2 key)]) then
        bif soE (SO.mk [PV.ro 5 false false (kb 0 key), PV.ro 5 false false (kb 1 key), PV.ro 5 false false (kb 2 key)] s_Body s_Mac) ==
          soE (SO.mk [PV.ro 5 false false (kb 0 key), PV.ro 5 false false (kb 1 key), PV.ro 5 false false (kb 2 key)] s_Body s_Mac) then
          bif dS
              (DV.mk (soF 0 (SO.mk [PV.ro 5 false false (kb 0 key), PV.ro 5 false false (kb 1 key), PV.ro 5 false false (kb 2 key)] s_Body s_Mac))
                (soF 1 (SO.mk [PV.ro 5 false false (kb 0 key), PV.ro 5 false false (kb 1 key), PV.ro 5 false false (kb 2 key)] s_Body s_Mac))
                (soF 2 (SO.mk [PV.ro 5 false false (kb 0 key), PV.ro 5 false false (kb 1 key), PV.ro 5 false false (kb 2 key)] s_Body s_Mac))
                (soF 3 (SO.mk [PV.ro 5 false false (kb 0 key), PV.ro 5 false false (kb 1 key), PV.ro 5 false false (kb 2 key)] s_Body s_Mac))
                (pu IntKind.u8 (soH (SO.mk [PV.ro 5 false false (kb 0 key), PV.ro 5 false false (kb 1 key), PV.ro 5 false false (kb 2 key)] s_Body s_Mac)))
                (soF 4 (SO.mk [PV.ro 5 false false (kb 0 key), PV.ro 5 false false (kb 1 key), PV.ro 5 false false (kb 2 key)] s_Body s_Mac))
                (soO (SO.mk [PV.ro 5 false false (kb 0 key), PV.ro 5 false false (kb 1 key), PV.ro 5 false false (kb 2 key)] s_Body s_Mac))
                (soF 5 (SO.mk [PV.ro 5 false false (kb 0 key), PV.ro 5 false false (kb 1 key), PV.ro 5 false false (kb 2 key)] s_Body s_Mac))
                (soF 6 (SO.mk [PV.ro 5 false false (kb 0 key), PV.ro 5 false false (kb 1 key), PV.ro 5 false false (kb 2 key)] s_Body s_Mac))) &&
            dS
              (DV.mk (soF 0 (SO.mk [PV.ro 5 false false (kb 0 key), PV.ro 5 false false (kb 1 key), PV.ro 5 false false (kb 2 key)] s_Body s_Mac))
                (soF 1 (SO.mk [PV.ro 5 false false (kb 0 key), PV.ro 5 false false (kb 1 key), PV.ro 5 false false (kb 2 key)] s_Body s_Mac))
                (soF 2 (SO.mk [PV.ro 5 false false (kb 0 key), PV.ro 5 false false (kb 1 key), PV.ro 5 false false (kb 2 key)] s_Body s_Mac))
                (soF 3 (SO.mk [PV.ro 5 false false (kb 0 key), PV.ro 5 false false (kb 1 key), PV.ro 5 false false (kb 2 key)] s_Body s_Mac))
                (pu IntKind.u8 (soH (SO.mk [PV.ro 5 false false (kb 0 key), PV.ro 5 false false (kb 1 key), PV.ro 5 false false (kb 2 key)] s_Body s_Mac)))
                (soF 4 (SO.mk [PV.ro 5 false false (kb 0 key), PV.ro 5 false false (kb 1 key), PV.ro 5 false false (kb 2 key)] s_Body s_Mac))
                (soO (SO.mk [PV.ro 5 false false (kb 0 key), PV.ro 5 false false (kb 1 key), PV.ro 5 false false (kb 2 key)] s_Body s_Mac))
                (soF 5 (SO.mk [PV.ro 5 false false (kb 0 key), PV.ro 5 false false (kb 1 key), PV.ro 5 false false (kb 2 key)] s_Body s_Mac))
                (soF 6 (SO.mk [PV.ro 5 false false (kb 0 key), PV.ro 5 false false (kb 1 key), PV.ro 5 false false (kb 2 key)] s_Body s_Mac))) then
            k (Res.mk
              (PV.sc
                (Value.bool
                  (ZW
                    (DD.mk
                      (DV.mk (soF 0 (SO.mk [PV.ro 5 false false (kb 0 key), PV.ro 5 false false (kb 1 key), PV.ro 5 false false (kb 2 key)] s_Body s_Mac))
                        (soF 1 (SO.mk [PV.ro 5 false false (kb 0 key), PV.ro 5 false false (kb 1 key), PV.ro 5 false false (kb 2 key)] s_Body s_Mac))
                        (soF 2 (SO.mk [PV.ro 5 false false (kb 0 key), PV.ro 5 false false (kb 1 key), PV.ro 5 false false (kb 2 key)] s_Body s_Mac))
                        (soF 3 (SO.mk [PV.ro 5 false false (kb 0 key), PV.ro 5 false false (kb 1 key), PV.ro 5 false false (kb 2 key)] s_Body s_Mac))
                        (pu IntKind.u8 (soH (SO.mk [PV.ro 5 false false (kb 0 key), PV.ro 5 false false (kb 1 key), PV.ro 5 false false (kb 2 key)] s_Body s_Mac)))
                        (soF 4 (SO.mk [PV.ro 5 false false (kb 0 key), PV.ro 5 false false (kb 1 key), PV.ro 5 false false (kb 2 key)] s_Body s_Mac))
                        (soO (SO.mk [PV.ro 5 false false (kb 0 key), PV.ro 5 false false (kb 1 key), PV.ro 5 false false (kb 2 key)] s_Body s_Mac))
                        (soF 5 (SO.mk [PV.ro 5 false false (kb 0 key), PV.ro 5 false false (kb 1 key), PV.ro 5 false false (kb 2 key)] s_Body s_Mac))
                        (soF 6 (SO.mk [PV.ro 5 false false (kb 0 key), PV.ro 5 false false (kb 1 key), PV.ro 5 false false (kb 2 key)] s_Body s_Mac)))
                      (DV.mk (soF 0 (SO.mk [PV.ro 5 false false (kb 0 key), PV.ro 5 false false (kb 1 key), PV.ro 5 false false (kb 2 key)] s_Body s_Mac))
                        (soF 1 (SO.mk [PV.ro 5 false false (kb 0 key), PV.ro 5 false false (kb 1 key), PV.ro 5 false false (kb 2 key)] s_Body s_Mac))
                        (soF 2 (SO.mk [PV.ro 5 false false (kb 0 key), PV.ro 5 false false (kb 1 key), PV.ro 5 false false (kb 2 key)] s_Body s_Mac))
                        (soF 3 (SO.mk [PV.ro 5 false false (kb 0 key), PV.ro 5 false false (kb 1 key), PV.ro 5 false false (kb 2 key)] s_Body s_Mac))
                        (pu IntKind.u8 (soH (SO.mk [PV.ro 5 false false (kb 0 key), PV.ro 5 false false (kb 1 key), PV.ro 5 false false (kb 2 key)] s_Body s_Mac)))
                        (soF 4 (SO.mk [PV.ro 5 false false (kb 0 key), PV.ro 5 false false (kb 1 key), PV.ro 5 false false (kb 2 key)] s_Body s_Mac))
                        (soO (SO.mk [PV.ro 5 false false (kb 0 key), PV.ro 5 false false (kb 1 key), PV.ro 5 false false (kb 2 key)] s_Body s_Mac))
                        (soF 5 (SO.mk [PV.ro 5 false false (kb 0 key), PV.ro 5 false false (kb 1 key), PV.ro 5 false false (kb 2 key)] s_Body s_Mac))
                        (soF 6 (SO.mk [PV.ro 5 false false (kb 0 key), PV.ro 5 false false (kb 1 key), PV.ro 5 false false (kb 2 key)] s_Body s_Mac)))))))
              [] [])
          else none
        else k (Res.mk (PV.sc (Value.bool false)) [] [])
      else none
    else none
  else none
theorem e14 (f : Nat) (key_z : Bool) (key_f : Bool) (key : List PV) (s_Body_z : Bool) (s_Body_f : Bool) (s_Body : List PV) (s_Mac : List PV) (right : Bool) (k : Res → Option Res) : JM tau F14 Try.f14 (Try.f14.body.get!) Jo5 [.ro] 0 [.ro 5 key_z key_f key, .st 77 [.ro 5 s_Body_z s_Body_f s_Body, .ar 37 s_Mac], .sc (.bool right)] [] k = g14 f key_z key_f key s_Body_z s_Body_f s_Body s_Mac right k := by kernel_rfl
theorem JBz (f : Nat) : Jg (Try.f14.body.get!) Jo5 = [] := by kernel_rfl
theorem JBA (f : Nat) : ∀ q ∈ Jg (Try.f14.body.get!) Jo5, q.Ok tau Try.prog 0 := by
  rw [JBz f]; intro q hq; cases hq
theorem JtG : Try.prog.funcs[14]? = some Try.f14 := by kernel_rfl
theorem JBB : Try.f14.body = some (Try.f14.body.get!) := by kernel_rfl
noncomputable def Jmr : List PV → List Ent → (Res → Option Res) → Option Res
  | [.ro 5 key_z key_f key, .st 77 [.ro 5 s_Body_z s_Body_f s_Body, .ar 37 s_Mac], .sc (.bool right)], [], k => g14 0 key_z key_f key s_Body_z s_Body_f s_Body s_Mac right k
  | _, _, _ => none
noncomputable def s14 : Sig := { own := [], run := Jmr }
theorem JBC : Ji tau Try.prog 14 s14 := JS Jr JtF Js JtG JBB Jo5 [.ro] 0 [] Jmr (JBA 0) fun xs es k res hr => by
  unfold Jmr at hr
  split at hr
  · exact ⟨rfl, 0, (e14 0 _ _ _ _ _ _ _ _  _).trans hr⟩
  · cases hr

-- FN law4.within
noncomputable def Jo6 : List PV → List Ent → (Res → Option Res) → Option Res
  | [.sc (.int .i64 a), .sc (.int .i64 n)], [], k => bif okW n then k ⟨.sc (.int .i64 (a % n)), [], []⟩ else none
  | _, _, _ => none
noncomputable def JyX : Sig := { own := [], run := Jo6 }
def N54 : Nat := 114
noncomputable def F54 : Fns := JD 112 JyX (F0)
def JtH : Nm := [(0, .any), (1, .any), (5, .own), (6, .any), (7, .any)]
def JtI : Nm := [(0, .any), (1, .any), (5, .any), (6, .any)]
def JBD (r0 : QZ) : An := (.seq .leaf (.seq .leaf (.seq .leaf (.seq (.seq .leaf (.block none (.sum JtH N54 r0))) (.seq (.seq .leaf (.cond .leaf .leaf)) (.seq (.seq .leaf (.cond .leaf .leaf)) (.seq .leaf .leaf)))))))
noncomputable def Jo7 (f : Nat) (rc : Int → Bool → Bool → List
  PV → Nat → Int → Int → Bool → List
  PV → Option Res) (k0 : Int → Bool → Bool → List
  PV → Nat → Int → Bool → List PV → Option Res) (v0 : Int) (v1 : Bool) (v2 : Bool) (v3 : List PV) (v4 : Nat) (v5 : Int) (v6 : Int) (v7 : Bool) (v8 : List PV) : Option Res :=
  bif decide (v6 < zi v3.length) then
    bif decide (v6 < 12) then
      bif decide (v0 > 0) then
        bif decide (0 ≤ v6) && decide (v6 < zi v3.length) && PV.isInt IntKind.i64 (v3.getD v6.toNat PV.top) && true then
          bif okW (Qc v0 9) then
            bif decide (0 ≤ v6) && decide (v6 < zi v3.length) && PV.isInt IntKind.i64 (v3.getD v6.toNat PV.top) && true then
              bif okW 4 then
                bif (v3.getD v6.toNat PV.top).int % 4 == 0 then
                  bif (v3.getD v6.toNat PV.top).int % 4 == 0 then
                    bif Jn (v4 + 1) 32 && true then
                      rc (IntKind.i64.wrap
                        (v0 -
                          IntKind.i64.wrap
                            (1 +
                              IntKind.i64.wrap ((v3.getD v6.toNat PV.top).int.tdiv 7) %
                                Qc v0
                                  9))) v1 v2 v3 (v4 +
                        1) v5 (IntKind.i64.wrap
                        (v6 +
                          1)) (v7 &&
                        false) (List.take v4 v8 ++
                        [PV.st 99
                            [PV.sc (Value.int IntKind.i64 1), PV.sc (Value.int IntKind.i64 (IntKind.i64.wrap (1 + IntKind.i64.wrap ((v3.getD v6.toNat PV.top).int.tdiv 7) % Qc v0 9))),
                              PV.sc (Value.string (ByteArray.mk #[]))]])
                    else none
                  else bif (v3.getD v6.toNat PV.top).int % 4 == 2 then
                    bif Jn (v4 + 1) 32 && true then
                      rc (IntKind.i64.wrap
                        (v0 -
                          IntKind.i64.wrap
                            (1 +
                              IntKind.i64.wrap ((v3.getD v6.toNat PV.top).int.tdiv 7) %
                                Qc v0
                                  9))) v1 v2 v3 (v4 +
                        1) (IntKind.i64.wrap
                        (v5 -
                          IntKind.i64.wrap
                            (1 +
                              IntKind.i64.wrap ((v3.getD v6.toNat PV.top).int.tdiv 7) %
                                Qc v0
                                  9))) (IntKind.i64.wrap
                        (v6 +
                          1)) (v7 &&
                        false) (List.take v4 v8 ++
                        [PV.st 99
                            [PV.sc (Value.int IntKind.i64 3), PV.sc (Value.int IntKind.i64 (IntKind.i64.wrap (1 + IntKind.i64.wrap ((v3.getD v6.toNat PV.top).int.tdiv 7) % Qc v0 9))),
                              PV.sc (Value.string (ByteArray.mk #[]))]])
                    else none
                  else bif (v3.getD v6.toNat PV.top).int % 4 == 3 then
                    bif decide (0 ≤ v6) && decide (v6 < zi v3.length) && PV.isInt IntKind.i64 (v3.getD v6.toNat PV.top) && true then
                      bif okW 5 then
                        bif decide (0 ≤ IntKind.i64.wrap (1 + IntKind.i64.wrap ((v3.getD v6.toNat PV.top).int.tdiv 7) % 5)) && true &&
                            decide ((IntKind.i64.wrap (1 + IntKind.i64.wrap ((v3.getD v6.toNat PV.top).int.tdiv 7) % 5)).toNat ≤ 10) &&
                          true then
                          bif decide
                            (IntKind.i64.wrap
                                (v5 +
                                  zi
                                    ((ByteArray.mk (Array.mk (u8l [97, 98, 99, 100, 101, 102, 103, 104, 105, 106]))).extract 0
                                        (IntKind.i64.wrap (1 + IntKind.i64.wrap ((v3.getD v6.toNat PV.top).int.tdiv 7) % 5)).toNat).size) ≤
                              120) then
                            bif Jn (v4 + 1) 32 && true then
                              rc v0 v1 v2 v3 (v4 +
                                1) (IntKind.i64.wrap
                                (v5 +
                                  zi
                                    ((ByteArray.mk (Array.mk (u8l [97, 98, 99, 100, 101, 102, 103, 104, 105, 106]))).extract 0
                                        (IntKind.i64.wrap
                                            (1 +
                                              IntKind.i64.wrap ((v3.getD v6.toNat PV.top).int.tdiv 7) %
                                                5)).toNat).size)) (IntKind.i64.wrap
                                (v6 +
                                  1)) (v7 &&
                                false) (List.take v4 v8 ++
                                [PV.st 99
                                    [PV.sc (Value.int IntKind.i64 2), PV.sc (Value.int IntKind.i64 0),
                                      PV.sc
                                        (Value.string
                                          ((ByteArray.mk (Array.mk (u8l [97, 98, 99, 100, 101, 102, 103, 104, 105, 106]))).extract 0
                                            (IntKind.i64.wrap (1 + IntKind.i64.wrap ((v3.getD v6.toNat PV.top).int.tdiv 7) % 5)).toNat))]])
                            else none
                          else rc v0 v1 v2 v3 v4 v5 (IntKind.i64.wrap (v6 + 1)) v7 v8
                        else none
                      else none
                    else none
                  else rc v0 v1 v2 v3 v4 v5 (IntKind.i64.wrap (v6 + 1)) v7 v8
                else bif (v3.getD v6.toNat PV.top).int % 4 == 1 then
                  bif Jn (v4 + 1) 32 && true then
                    rc (IntKind.i64.wrap
                      (v0 -
                        IntKind.i64.wrap
                          (1 +
                            IntKind.i64.wrap ((v3.getD v6.toNat PV.top).int.tdiv 7) %
                              Qc v0
                                9))) v1 v2 v3 (v4 +
                      1) v5 (IntKind.i64.wrap
                      (v6 +
                        1)) (v7 &&
                      false) (List.take v4 v8 ++
                      [PV.st 99
                          [PV.sc (Value.int IntKind.i64 1), PV.sc (Value.int IntKind.i64 (IntKind.i64.wrap (1 + IntKind.i64.wrap ((v3.getD v6.toNat PV.top).int.tdiv 7) % Qc v0 9))),
                            PV.sc (Value.string (ByteArray.mk #[]))]])
                  else none
                else bif (v3.getD v6.toNat PV.top).int % 4 == 2 then
                  bif Jn (v4 + 1) 32 && true then
                    rc (IntKind.i64.wrap
                      (v0 -
                        IntKind.i64.wrap
                          (1 +
                            IntKind.i64.wrap ((v3.getD v6.toNat PV.top).int.tdiv 7) %
                              Qc v0
                                9))) v1 v2 v3 (v4 +
                      1) (IntKind.i64.wrap
                      (v5 -
                        IntKind.i64.wrap
                          (1 +
                            IntKind.i64.wrap ((v3.getD v6.toNat PV.top).int.tdiv 7) %
                              Qc v0
                                9))) (IntKind.i64.wrap
                      (v6 +
                        1)) (v7 &&
                      false) (List.take v4 v8 ++
                      [PV.st 99
                          [PV.sc (Value.int IntKind.i64 3), PV.sc (Value.int IntKind.i64 (IntKind.i64.wrap (1 + IntKind.i64.wrap ((v3.getD v6.toNat PV.top).int.tdiv 7) % Qc v0 9))),
                            PV.sc (Value.string (ByteArray.mk #[]))]])
                  else none
                else bif (v3.getD v6.toNat PV.top).int % 4 == 3 then
                  bif decide (0 ≤ v6) && decide (v6 < zi v3.length) && PV.isInt IntKind.i64 (v3.getD v6.toNat PV.top) && true then
                    bif okW 5 then
                      bif decide (0 ≤ IntKind.i64.wrap (1 + IntKind.i64.wrap ((v3.getD v6.toNat PV.top).int.tdiv 7) % 5)) && true &&
                          decide ((IntKind.i64.wrap (1 + IntKind.i64.wrap ((v3.getD v6.toNat PV.top).int.tdiv 7) % 5)).toNat ≤ 10) &&
                        true then
                        bif decide
                          (IntKind.i64.wrap
                              (v5 +
                                zi
                                  ((ByteArray.mk (Array.mk (u8l [97, 98, 99, 100, 101, 102, 103, 104, 105, 106]))).extract 0
                                      (IntKind.i64.wrap (1 + IntKind.i64.wrap ((v3.getD v6.toNat PV.top).int.tdiv 7) % 5)).toNat).size) ≤
                            120) then
                          bif Jn (v4 + 1) 32 && true then
                            rc v0 v1 v2 v3 (v4 +
                              1) (IntKind.i64.wrap
                              (v5 +
                                zi
                                  ((ByteArray.mk (Array.mk (u8l [97, 98, 99, 100, 101, 102, 103, 104, 105, 106]))).extract 0
                                      (IntKind.i64.wrap
                                          (1 +
                                            IntKind.i64.wrap ((v3.getD v6.toNat PV.top).int.tdiv 7) %
                                              5)).toNat).size)) (IntKind.i64.wrap
                              (v6 +
                                1)) (v7 &&
                              false) (List.take v4 v8 ++
                              [PV.st 99
                                  [PV.sc (Value.int IntKind.i64 2), PV.sc (Value.int IntKind.i64 0),
                                    PV.sc
                                      (Value.string
                                        ((ByteArray.mk (Array.mk (u8l [97, 98, 99, 100, 101, 102, 103, 104, 105, 106]))).extract 0
                                          (IntKind.i64.wrap (1 + IntKind.i64.wrap ((v3.getD v6.toNat PV.top).int.tdiv 7) % 5)).toNat))]])
                          else none
                        else rc v0 v1 v2 v3 v4 v5 (IntKind.i64.wrap (v6 + 1)) v7 v8
                      else none
                    else none
                  else none
                else rc v0 v1 v2 v3 v4 v5 (IntKind.i64.wrap (v6 + 1)) v7 v8
              else none
            else none
          else none
        else none
      else k0 v0 v1 v2 v3 v4 v5 v7 v8
    else k0 v0 v1 v2 v3 v4 v5 v7 v8
  else k0 v0 v1 v2 v3 v4 v5 v7 v8
noncomputable def JhK (f : Nat) (k0 : Int → Bool → Bool → List PV → Nat → Int → Bool → List PV → Option Res) : Nat → Int → Bool → Bool → List PV → Nat → Int → Int → Bool → List PV → Option Res
  | 0, _, _, _, _, _, _, _, _, _ => none
  | n + 1, v0, v1, v2, v3, v4, v5, v6, v7, v8 => Jo7 f (JhK f k0 n) k0 v0 v1 v2 v3 v4 v5 v6 v7 v8
noncomputable def JyY (f : Nat) : List PV → List (Nat × Ent) → Kont → Option Res
  | [PV.sc (Value.int IntKind.i64 v0), PV.ro 3 v1 v2 v3, PV.ow 99 1840 [] 0 v4 none, PV.sc (Value.int IntKind.i64 v5),
  PV.sc
    (Value.int IntKind.i64
      v6)], [(1840,
    Ent.vec false 99 v7
      v8)], k => JhK f (fun x0 x1 x2 x3 x4 x5 x6 x7 => k (Ex.exit
  0) (Je JtI N54 [PV.sc (Value.int IntKind.i64 x0), PV.ro 3 x1 x2 x3, PV.ow 99 1840 [] 0 x4 none,
  PV.sc (Value.int IntKind.i64 x5)] [(1840, Ent.vec false 99 x6 x7)])) f v0 v1 v2 v3 v4 v5 v6 v7 v8
  | _, _, _ => none
noncomputable def g54 (f : Nat) (n : Int) (ns_z : Bool) (ns_f : Bool) (ns : List PV) (k : Res → Option Res) : Option Res :=
  JhK f (fun x0_0 x1_0 x2_0 x3_0 x4_0 x5_0 x6_0 x7_0 =>
    bif decide (x0_0 > 0) then
      bif Jn (x4_0 + 1) 32 && true then
        bif decide (zi x3_0.length > 0) then
          bif decide (0 < zi x3_0.length) && PV.isInt IntKind.i64 (x3_0.getD 0 PV.top) && true then
            bif okW 3 then
              bif IntKind.i64.wrap ((x3_0.getD 0 PV.top).int.tdiv 3) % 3 == 0 then
                bif decide (x5_0 ≤ 115) then
                  bif Jn (x4_0 + 1 + 1) 32 && true then
                    k (Res.mk
                      (PV.ro 99
                        (Ent.vec false 99 (x6_0 && false && false)
                            (List.take (x4_0 + 1) (List.take x4_0 x7_0 ++ [PV.st 99 [PV.sc (Value.int IntKind.i64 1), PV.sc (Value.int IntKind.i64 x0_0), PV.sc (Value.string (ByteArray.mk #[]))]]) ++
                              [PV.st 99 [PV.sc (Value.int IntKind.i64 2), PV.sc (Value.int IntKind.i64 0), PV.sc (Value.string (ByteArray.mk (Array.mk (u8l [122]))))]])).nil
                        false
                        (List.take (x4_0 + 1 + 1)
                          (List.take (x4_0 + 1) (List.take x4_0 x7_0 ++ [PV.st 99 [PV.sc (Value.int IntKind.i64 1), PV.sc (Value.int IntKind.i64 x0_0), PV.sc (Value.string (ByteArray.mk #[]))]]) ++
                            [PV.st 99 [PV.sc (Value.int IntKind.i64 2), PV.sc (Value.int IntKind.i64 0), PV.sc (Value.string (ByteArray.mk (Array.mk (u8l [122]))))]])))
                      [] [])
                  else none
                else k (Res.mk
                  (PV.ro 99
                    (Ent.vec false 99 (x6_0 && false)
                        (List.take x4_0 x7_0 ++ [PV.st 99 [PV.sc (Value.int IntKind.i64 1), PV.sc (Value.int IntKind.i64 x0_0), PV.sc (Value.string (ByteArray.mk #[]))]])).nil
                    false (List.take (x4_0 + 1) (List.take x4_0 x7_0 ++ [PV.st 99 [PV.sc (Value.int IntKind.i64 1), PV.sc (Value.int IntKind.i64 x0_0), PV.sc (Value.string (ByteArray.mk #[]))]])))
                  [] [])
              else k (Res.mk
                (PV.ro 99
                  (Ent.vec false 99 (x6_0 && false)
                      (List.take x4_0 x7_0 ++ [PV.st 99 [PV.sc (Value.int IntKind.i64 1), PV.sc (Value.int IntKind.i64 x0_0), PV.sc (Value.string (ByteArray.mk #[]))]])).nil
                  false (List.take (x4_0 + 1) (List.take x4_0 x7_0 ++ [PV.st 99 [PV.sc (Value.int IntKind.i64 1), PV.sc (Value.int IntKind.i64 x0_0), PV.sc (Value.string (ByteArray.mk #[]))]])))
                [] [])
            else none
          else none
        else k (Res.mk
          (PV.ro 99
            (Ent.vec false 99 (x6_0 && false) (List.take x4_0 x7_0 ++ [PV.st 99 [PV.sc (Value.int IntKind.i64 1), PV.sc (Value.int IntKind.i64 x0_0), PV.sc (Value.string (ByteArray.mk #[]))]])).nil
            false (List.take (x4_0 + 1) (List.take x4_0 x7_0 ++ [PV.st 99 [PV.sc (Value.int IntKind.i64 1), PV.sc (Value.int IntKind.i64 x0_0), PV.sc (Value.string (ByteArray.mk #[]))]])))
          [] [])
      else none
    else bif decide (zi x3_0.length > 0) then
      bif decide (0 < zi x3_0.length) && PV.isInt IntKind.i64 (x3_0.getD 0 PV.top) && true then
        bif okW 3 then
          bif IntKind.i64.wrap ((x3_0.getD 0 PV.top).int.tdiv 3) % 3 == 0 then
            bif decide (x5_0 ≤ 115) then
              bif Jn (x4_0 + 1) 32 && true then
                k (Res.mk
                  (PV.ro 99
                    (Ent.vec false 99 (x6_0 && false)
                        (List.take x4_0 x7_0 ++ [PV.st 99 [PV.sc (Value.int IntKind.i64 2), PV.sc (Value.int IntKind.i64 0), PV.sc (Value.string (ByteArray.mk (Array.mk (u8l [122]))))]])).nil
                    false
                    (List.take (x4_0 + 1)
                      (List.take x4_0 x7_0 ++ [PV.st 99 [PV.sc (Value.int IntKind.i64 2), PV.sc (Value.int IntKind.i64 0), PV.sc (Value.string (ByteArray.mk (Array.mk (u8l [122]))))]])))
                  [] [])
              else none
            else k (Res.mk (PV.ro 99 (Ent.vec false 99 x6_0 x7_0).nil false (List.take x4_0 x7_0)) [] [])
          else k (Res.mk (PV.ro 99 (Ent.vec false 99 x6_0 x7_0).nil false (List.take x4_0 x7_0)) [] [])
        else none
      else none
    else k (Res.mk (PV.ro 99 (Ent.vec false 99 x6_0 x7_0).nil false (List.take x4_0 x7_0)) [] [])) f n ns_z ns_f ns (0) n (0) true ([])
theorem e54 (f : Nat) (n : Int) (ns_z : Bool) (ns_f : Bool) (ns : List PV) (k : Res → Option Res) : JM tau F54 Try.f54 (Try.f54.body.get!) (JBD (JyY f)) [.ro] 0 [.sc (.int .i64 n), .ro 3 ns_z ns_f ns] [] k = g54 f n ns_z ns_f ns k := by kernel_rfl
-- FN
structure MN where
  (n : Int) (ns : List PV)
def inC (c : CV) : Int := bif c.kd == 2 then 0 else c.n
def JBE (c : CV) : Int := bif c.kd == 1 then c.n else c.s.size
def inL : List PV → Int
  | [] => 0
  | p :: ps => inC (cv p) + inL ps
def outL : List PV → Int
  | [] => 0
  | p :: ps => JBE (cv p) + outL ps
structure MkOk (n done b : Int) (l : List PV) : Prop where
  cp : ∀ p ∈ l, isCp p = true
  ck : ∀ p ∈ l, ckC (cv p) = 0
  sz : ∀ p ∈ l, (cv p).s.size ≤ 10
  len : (l.length : Int) ≤ b
  inn : inL l = n
  out : done + outL l ≤ 120
  out0 : 0 ≤ outL l
-- FN law4.Make

-- FN law8.within

-- FN law8.Good
structure GO where
  (kd n : Int) (ns : List PV)

-- FN wire.Bytes
structure WM where
  (l : List PV) (c : C13) (b : List PV)

-- FN
noncomputable def soV (x : SO) : DV := ⟨soF 0 x, soF 1 x, soF 2 x, soF 3 x, pu .u8 (soH x), soF 4 x, soO x, soF 5 x, soF 6 x⟩
theorem Jjq : cOk [] = true := Yu.2 ⟨rfl, Nat.zero_le _⟩
theorem JtJ (b : List PV) : cOk (dO b) = true := by
  rw [Jc1]
  cases dE0 b == 0 with
  | true => exact Jeh (Jhv _)
  | false => exact Jjq
theorem Jj0 (b : List PV) : (dH b).length = 32 := by
  rw [Jc0]
  cases dE0 b == 0 with
  | true => exact hashV_length _
  | false => exact List.length_replicate
theorem JhL (x : SO) : (soH x).length = 32 := by
  rw [JbO]
  cases WS x == 0 with
  | true => exact Jj0 _
  | false => exact List.length_replicate
theorem JtK (x : SO) : dS (soV x) = true := by
  refine JhH.2 ⟨⟨J6 _ _, by show (pu .u8 (soH x)).length = 32; rw [JO, JhL]⟩, ?_⟩
  show cOk (soO x) = true
  rw [JbP]
  cases WS x == 0 with
  | true => exact JtJ _
  | false => exact Jjq
theorem Jj1 (x : SO) : ZW ⟨soV x, soV x⟩ = true := JhI (J6 _ _)
noncomputable def kk (key : List PV) : List PV := [.ro 5 false false (kb 0 key), .ro 5 false false (kb 1 key), .ro 5 false false (kb 2 key)]
theorem Jms {key : List PV} (h : byB key = true) : kO3 (kk key) = true := by
  have hkk : ∀ i, kOk (kb i key) = true := fun i => JiE i (Qx.1 h).1
  exact Jej.2 ⟨hkk 0, hkk 1, hkk 2⟩
theorem JyZ {key : List PV} (h : byB key = true) {d : Int} (h0 : 0 ≤ d) (h3 : d < 3) :
    PV.isRo 5 (Jj (PV.st 31 (kk key)) [d.toNat]) = true ∧ (Jj (PV.st 31 (kk key)) [d.toNat]).els = QG ⟨kk key, d⟩ ∧ Jh .u8 (QG ⟨kk key, d⟩) = true ∧ (QG ⟨kk key, d⟩).length ≤ 1000000000 := by
  have hin : QK d 2 = true := by simp only [QK, Bool.and_eq_true, decide_eq_true_eq]; omega
  have hK := Jms h
  obtain ⟨q1, q2⟩ := Jmc hK hin
  obtain ⟨q3, q4⟩ := JbQ hK d
  exact ⟨q1, q2, q3, q4⟩
theorem Jy0 {b : List PV} (h : dE b = 0) : 0 ≤ dF 0 b ∧ dF 0 b < 3 := by
  have := Jmd h
  simp only [QK, Bool.and_eq_true, decide_eq_true_eq] at this; omega
-- FN law9.SignOpens
theorem Jmt (kz kf : Bool) (key : List PV) (z f : Bool) (b m : List PV) (right : Bool) (hk : byB key = true) (hz : z = true → b = []) (hb : byB b = true) (hm : byB m = true) (hm2 : m.length = 32) (k : Res → Option Res) :
    g14 0 kz kf key z f b m right k = k ⟨.sc (.bool true), [], []⟩ := by
  unfold g14
  by_cases hl : b.length > 300
  · exact Jc (by simp only [zi, decide_eq_true_eq]; omega)
  have hK := Jms hk
  have hkk : [PV.ro 5 false false (kb 0 key), .ro 5 false false (kb 1 key), .ro 5 false false (kb 2 key)] = kk key := rfl
  have hsl : slB z b = true := Wp.2 ⟨hz, by omega⟩
  have hbl : Nat.ble b.length 1000000000 = true := by rw [Nat.ble_eq]; omega
  have fin : ∀ x : SO, DV.mk (soF 0 x) (soF 1 x) (soF 2 x) (soF 3 x) (pu .u8 (soH x)) (soF 4 x) (soO x) (soF 5 x) (soF 6 x) = soV x := fun _ => rfl
  simp only [hkk, fin]
  have A : ∀ (m' : List PV), h32 m' = true → (bif slB z b && byB b && (h32 m' && kO3 (kk key)) then bif byB b && Nat.ble b.length 1000000000 && (h32 m' && kO3 (kk key)) then bif soE ⟨kk key, b, m'⟩ == soE ⟨kk key, b, m'⟩ then bif dS (soV ⟨kk key, b, m'⟩) && dS (soV ⟨kk key, b, m'⟩) then k ⟨.sc (.bool (ZW ⟨soV ⟨kk key, b, m'⟩, soV ⟨kk key, b, m'⟩⟩)), [], []⟩ else none else k ⟨.sc (.bool false), [], []⟩ else none else none) = k ⟨.sc (.bool true), [], []⟩ := fun m' h => by
    refine (Jc (by rw [hsl, hb, h, hK]; rfl)).trans ((Jc (by rw [hbl, hb, h, hK]; rfl)).trans ((Jc (beq_self_eq_true _)).trans ((Jc (by rw [JtK]; rfl)).trans ?_)))
    rw [Jj1]
  refine (JK (by simp only [zi, decide_eq_false_iff_not]; omega)).trans ((Jc (by rw [hb, hbl]; rfl)).trans ?_)
  cases he : (dE b == 0) with
  | false => exact (JK rfl).trans (A m (h32_by hm hm2))
  | true =>
    refine (Jc rfl).trans ?_
    cases right with
    | false => exact (JK rfl).trans (A m (h32_by hm hm2))
    | true =>
      obtain ⟨a1, a2⟩ := Jy0 (b := b) (by simpa using he)
      obtain ⟨q1, q2, q3, q4⟩ := JyZ hk a1 a2
      rw [q1, q2]
      refine (Jc rfl).trans ((Jc (by simp [zi]; omega)).trans ((Jc rfl).trans ((Jc (by rw [q3, (Qx.1 hb).1]; simp; omega)).trans ?_)))
      exact A _ (h32_iff.2 ⟨J6 _ _, by rw [JO]; exact Xn _ _⟩)
noncomputable def JhM : List PV → List Ent → (Res → Option Res) → Option Res
  | [.ro 5 kz kf key, .st 77 [.ro 5 z f b, .ar 37 m], .sc (.bool right)], [], k => bif byB key && (((!z || b.isEmpty) && byB b) && (byB m && decide (m.length = 32))) then k ⟨.sc (.bool true), [], []⟩ else none
  | _, _, _ => none
noncomputable def Jy1 : Sig := { own := [], run := JhM }
theorem Jy2 : Ji tau Try.prog 14 Jy1 := JBC.of fun xs es k res hr => by
  change JhM xs es k = some res at hr
  unfold JhM at hr
  split at hr
  · rename_i kz kf key z f b m right
    obtain ⟨hc, hr⟩ := JL hr
    simp only [Bool.and_eq_true, decide_eq_true_eq, Bool.or_eq_true, Bool.not_eq_true', List.isEmpty_iff] at hc
    obtain ⟨c1, ⟨c4, c5⟩, c6, c7⟩ := hc
    exact (Jmt kz kf key z f b m right c1 (fun h => c4.resolve_left (by rw [h]; decide)) c5 c6 c7 k).trans hr
  · cases hr
theorem JhN : ∀ pvs, TyL tau 4 [29, 77, 4] pvs → Jy1.run pvs [] some = some ⟨.sc (.bool true), [], []⟩ := by
  intro pvs h
  obtain ⟨p1, p3, p4, rfl, h1, h3, h4⟩ := JAf h
  obtain ⟨kz, key, rfl, _, _, a1⟩ := JfR (n := 2) h1
  obtain ⟨z, b, m, rfl, a4, _, a5, a6, a7⟩ := JjZ (n := 1) h3
  obtain ⟨r, rfl⟩ := JmJ (n := 3) (by kernel_rfl) h4
  refine Jc ?_
  simp only [a1, a5, a6, a7, Bool.and_eq_true, decide_eq_true_eq, Bool.or_eq_true, Bool.not_eq_true', List.isEmpty_iff]
  refine ⟨trivial, ⟨?_, trivial⟩, trivial, trivial⟩
  cases z with
  | true => exact .inr (a4 rfl)
  | false => exact .inl rfl
end Go.Proofs.Ytcklhipdldpkhaa.Rx
