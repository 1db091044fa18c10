/- What the functions of this law compute, and their plain laws. Conditions: none. -/
import Derived.KernelRfl
import Derived.Test.YtcklhipdldpkhaaSignDeltasP4
namespace Go.Proofs.Ytcklhipdldpkhaa.Rx
noncomputable section
open Go
set_option linter.unusedVariables false
set_option linter.unusedSimpArgs false
set_option maxRecDepth 100000
set_option maxHeartbeats 0
-- FN
theorem Jn8 {c : CV} (h : ckC c = 0) : 1 <= c.kd /\ c.kd <= 3 /\ 0 <= c.n /\ c.n <= 120 /\ c.s.size <= 120 := by
 rw [Jaq] at h
 unfold JgA at h
 cases h1 : (c.kd == 1 || c.kd == 3) with
 | true =>
  rw [h1, cond_true] at h
  cases h2 : (decide (c.n < 1) || (decide (c.n > 120) || !(c.s.size == 0))) with
  | true => rw [h2, cond_true] at h; exact absurd h (by decide)
  | false =>
   simp only [Bool.or_eq_false_iff, decide_eq_false_iff_not, Bool.not_eq_false', beq_iff_eq] at h2
   simp only [Bool.or_eq_true, beq_iff_eq] at h1
   omega
 | false =>
  rw [h1, cond_false] at h
  cases h3 : (c.kd == 2) with
  | false => rw [h3, cond_false] at h; exact absurd h (by decide)
  | true =>
   rw [h3, cond_true] at h
   cases h2 : (!(c.n == 0) || c.s.size == 0) with
   | true => rw [h2, cond_true] at h; exact absurd h (by decide)
   | false =>
    rw [h2, cond_false] at h
    cases h4 : decide (zi c.s.size > 120) with
    | true => rw [h4, cond_true] at h; exact absurd h (by decide)
    | false =>
     simp only [Bool.or_eq_false_iff, Bool.not_eq_false', beq_iff_eq] at h2
     simp only [zi, decide_eq_false_iff_not] at h4
     simp only [beq_iff_eq] at h3
     omega
theorem JgW : ∀ {l : List PV}, ckL l = 0 -> ∀ p ∈ l, ckC (cv p) = 0
 | [], _, p, hp => by cases hp
 | q :: r, h, p, hp => by
  simp only [ckL] at h
  cases hq : (ckC (cv q) == 0) with
  | false => rw [hq, cond_false] at h; rw [h] at hq; exact absurd hq (by decide)
  | true =>
   rw [hq, cond_true] at h
   rcases List.mem_cons.1 hp with rfl | hp
   · simpa using hq
   · exact JgW h p hp
theorem Jn9 {l : List PV} (h : ckO l = 0) : l.length <= 40 /\ ∀ p ∈ l, ckC (cv p) = 0 := by
 rw [Jcn] at h
 unfold Jlw at h
 cases hc : decide (zi l.length > 40) with
 | true => rw [hc, cond_true] at h; exact absurd h (by decide)
 | false =>
  rw [hc, cond_false] at h
  simp only [zi, decide_eq_false_iff_not] at hc
  exact ⟨by omega, JgW h⟩
theorem Q4 {n : Int} (h : -1000000000000 <= n) (h2 : n <= 1000000000000) : i64B n = true := by
 unfold i64B; simp only [Bool.and_eq_true, decide_eq_true_eq]; omega
theorem JcA {n : Int} (h : 0 <= n) (h2 : n < 256) : IntKind.u8.wrap n = n := by
 have := Xk n; omega
theorem Jrf {p : PV} (h : isCp p = true) (hc : ckC (cv p) = 0) (r : List PV) : cpV ⟨pu .u8 (ZK (cv p)) ++ r, 0⟩ = p /\ cpN ⟨pu .u8 (ZK (cv p)) ++ r, 0⟩ = ⟨r, 0⟩ := by
 obtain ⟨kd, n, s, rfl⟩ := GK.1 h
 have hz := Jn8 hc
 have hcv : cv (.st 99 [.sc (.int .i64 kd), .sc (.int .i64 n), .sc (.string s)]) = ⟨kd, n, s⟩ := rfl
 rw [hcv] at hz ⊢
 simp only at hz
 have e1 : pu .u8 (ZK ⟨kd, n, s⟩) ++ r = pu .u8 [IntKind.u8.wrap kd] ++ (pu .u8 (Qb n) ++ (pu .u8 (Qp s) ++ r)) := by
  simp only [ZK, JU, List.append_assoc]
 obtain ⟨t1, t2⟩ := Jj6 (t := s) (by omega) r
 rw [e1]
 unfold cpV cpN
 rw [Jci, Vb, Yy (Q4 (by omega) (by omega)), QT, t1, t2, JcA (by omega) (by omega)]
 exact ⟨rfl, rfl⟩
theorem JgX : ∀ (l : List PV) (r : List PV), l.all isCp = true -> (∀ p ∈ l, ckC (cv p) = 0) -> cpL l.length ⟨pu .u8 (Qi l) ++ r, 0⟩ = l /\ cpR l.length ⟨pu .u8 (Qi l) ++ r, 0⟩ = ⟨r, 0⟩
 | [], r, _, _ => ⟨rfl, by simp [Qi, cpR]⟩
 | p :: l, r, h, hc => by
  rw [List.all_cons, Bool.and_eq_true] at h
  have e : pu .u8 (Qi (p :: l)) ++ r = pu .u8 (ZK (cv p)) ++ (pu .u8 (Qi l) ++ r) := by
   simp only [Qi, List.flatMap_cons, JU, List.append_assoc]
  obtain ⟨a, b⟩ := Jrf h.1 (hc p List.mem_cons_self) (pu .u8 (Qi l) ++ r)
  obtain ⟨c, d⟩ := JgX l r h.2 fun q hq => hc q (List.mem_cons_of_mem _ hq)
  rw [e, List.length_cons, cpL, cpR, a, b, c, d]
  exact ⟨rfl, rfl⟩
theorem Jrg {l : List PV} (h : l.all isCp = true) (hc : ckO l = 0) : opE (pu .u8 (opB l)) = 0 /\ opL (pu .u8 (opB l)) = l := by
 obtain ⟨h1, h2⟩ := Jn9 hc
 have e : pu .u8 (opB l) = pu .u8 [IntKind.u8.wrap (zi l.length)] ++ (pu .u8 (Qi l) ++ []) := by
  rw [Jat, Jlx]; simp only [JU, List.append_nil]
 have hw : IntKind.u8.wrap (zi l.length) = (l.length : Int) := JcA (by simp only [zi]; omega) (by simp only [zi]; omega)
 have hn : Jw 1 ⟨pu .u8 (opB l), 0⟩ = (l.length : Int) := by rw [e, Jci, hw]
 have hs : Jc 1 ⟨pu .u8 (opB l), 0⟩ = ⟨pu .u8 (Qi l) ++ [], 0⟩ := by rw [e, Vb]
 have hd : decide ((l.length : Int) > 40) = false := by simp; omega
 have hN : opN (pu .u8 (opB l)) = l.length := by unfold opN; rw [hn, hd, cond_false, Int.toNat_natCast]
 have hS : opS (pu .u8 (opB l)) = ⟨pu .u8 (Qi l) ++ [], 0⟩ := by unfold opS; rw [hn, hd, cond_false, hs]
 obtain ⟨a, b⟩ := JgX l [] h h2
 have hE : XR (pu .u8 (opB l)) = 0 := by unfold XR; rw [hN, hS, a, b, hc]; rfl
 rw [Jax, Jay, hE, hN, hS, a]
 exact ⟨rfl, rfl⟩
theorem JgY {d : DV} (h : dCk d = 0) : (0 <= d.ad /\ d.ad <= 2) /\ (0 <= d.au /\ d.au <= 7) /\ (0 <= d.id /\ d.id <= 1073741824) /\ (0 <= d.ve /\ d.ve <= 1048576) /\ (1 <= d.kd /\ d.kd <= 3) /\ ckO d.o = 0 /\ (0 <= d.wd /\ d.wd <= 2) /\ (0 <= d.wu /\ d.wu <= 7) := by
 have hnil : ckO [] = 0 := by rw [Jcn]; rfl
 rw [Jaz] at h
 unfold JiH at h
 cases h1 : (inZ d.ad 2 && (inZ d.au 7 && (inZ d.id 1073741824 && inZ d.ve 1048576))) with
 | false => rw [h1, cond_false] at h; exact absurd h (by decide)
 | true =>
  rw [h1, cond_true] at h
  simp only [Ve, Bool.and_eq_true, decide_eq_true_eq] at h1
  cases hk : (d.kd == 1) with
  | true =>
   rw [hk, cond_true] at h
   cases hc : (ckO d.o == 0) with
   | false => rw [hc, cond_false] at h; rw [h] at hc; exact absurd hc (by decide)
   | true =>
    rw [hc, cond_true] at h
    cases hw : (d.wd == 0 && d.wu == 0) with
    | false => rw [hw, cond_false] at h; exact absurd h (by decide)
    | true =>
     simp only [Bool.and_eq_true, beq_iff_eq] at hw hk hc
     refine ⟨by omega, by omega, by omega, by omega, by omega, hc, by omega, by omega⟩
  | false =>
   rw [hk, cond_false] at h
   cases hk2 : (d.kd == 2 || d.kd == 3) with
   | false => rw [hk2, cond_false] at h; exact absurd h (by decide)
   | true =>
    rw [hk2, cond_true] at h
    cases hw : (d.o.isEmpty && (inZ d.wd 2 && inZ d.wu 7)) with
    | false => rw [hw, cond_false] at h; exact absurd h (by decide)
    | true =>
     simp only [Bool.and_eq_true, Bool.or_eq_true, beq_iff_eq, Ve, decide_eq_true_eq, List.isEmpty_iff] at hw hk2
     refine ⟨by omega, by omega, by omega, by omega, by omega, by rw [hw.1]; exact hnil, by omega, by omega⟩
theorem JiW {d : DV} (ho : dOk d = true) (hb : byB d.h = true) (hc : dCk d = 0) :
  dE (pu .u8 (dlB d)) = 0 /\ dv (pu .u8 (dlB d)) = d := by
 obtain ⟨o1, o2, o3, o4⟩ := W5.1 ho
 obtain ⟨c1, c2, c3, c4, c5, c6, c7, c8⟩ := JgY hc
 have hcp : d.o.all isCp = true := (Vc.1 o3).1
 obtain ⟨q1, q2⟩ := Jrg hcp c6
 have hbI : ∀ x ∈ Ji d.h, 0 <= x /\ x < 256 := (Qo.1 hb).2
 have hl : (Ji d.h).length = 32 := by rw [Qx]; exact o2
 have e : pu .u8 (dlB d) = pu .u8 (Qb d.ad) ++ (pu .u8 (Qb d.au) ++ (pu .u8 (Qb d.id) ++ (pu .u8 (Qb d.ve) ++ (pu .u8 (Ji d.h) ++ (pu .u8 [IntKind.u8.wrap d.kd] ++ (pu .u8 (Qp (tx (pu .u8 (opB d.o)))) ++ (pu .u8 (Qb d.wd) ++ (pu .u8 (Qb d.wu) ++ [])))))))) := by
  rw [Je8, Jly]; simp only [JU, List.append_assoc, List.append_nil]
 generalize hB : pu .u8 (dlB d) = B at *
 have n1 : Jw 8 ⟨B, 0⟩ = d.ad := by rw [e]; exact Yy (Q4 (by omega) (by omega)) _
 have s1 : Jc 8 ⟨B, 0⟩ = ⟨pu .u8 (Qb d.au) ++ (pu .u8 (Qb d.id) ++ (pu .u8 (Qb d.ve) ++ (pu .u8 (Ji d.h) ++ (pu .u8 [IntKind.u8.wrap d.kd] ++ (pu .u8 (Qp (tx (pu .u8 (opB d.o)))) ++ (pu .u8 (Qb d.wd) ++ (pu .u8 (Qb d.wu) ++ []))))))), 0⟩ := by rw [e]; exact QT _ _
 obtain ⟨r1, r2⟩ := Jnd (Ji d.h) (pu .u8 [IntKind.u8.wrap d.kd] ++ (pu .u8 (Qp (tx (pu .u8 (opB d.o)))) ++ (pu .u8 (Qb d.wd) ++ (pu .u8 (Qb d.wu) ++ [])))) hbI
 rw [hl] at r1 r2
 have hd4 : d4 B = ⟨pu .u8 (Ji d.h) ++ (pu .u8 [IntKind.u8.wrap d.kd] ++ (pu .u8 (Qp (tx (pu .u8 (opB d.o)))) ++ (pu .u8 (Qb d.wd) ++ (pu .u8 (Qb d.wu) ++ [])))), 0⟩ := by
  unfold d4; rw [s1, QT, QT, QT]
 have hd5 : d5 B = ⟨pu .u8 [IntKind.u8.wrap d.kd] ++ (pu .u8 (Qp (tx (pu .u8 (opB d.o)))) ++ (pu .u8 (Qb d.wd) ++ (pu .u8 (Qb d.wu) ++ []))), 0⟩ := by
  unfold d5; rw [hd4, hashS_eq]; exact r1
 have hV : hashV (d4 B) = Ji d.h := by rw [hd4, hashV_eq]; exact r2
 obtain ⟨t1, t2⟩ := Jj6 (t := tx (pu .u8 (opB d.o))) (by rw [W4, JJ]; exact o4) (pu .u8 (Qb d.wd) ++ (pu .u8 (Qb d.wu) ++ []))
 have hd7 : d7 B = ⟨pu .u8 (Qb d.wd) ++ (pu .u8 (Qb d.wu) ++ []), 0⟩ := by unfold d7; rw [hd5, Vb, t2]
 have hd9 : d9 B = ⟨[], 0⟩ := by unfold d9; rw [hd7, QT, QT]
 have hdt : dt B = pu .u8 (opB d.o) := by
  unfold dt; rw [hd5, Vb, t1]
  exact Jp1 _ (Jmd.2 (Jv1 d.o))
 have hdv : dv B = d := by
  have h0 : dv B = ⟨Jw 8 ⟨B, 0⟩, Jw 8 (Jc 8 ⟨B, 0⟩), Jw 8 (Jc 8 (Jc 8 ⟨B, 0⟩)), Jw 8 (Jc 8 (Jc 8 (Jc 8 ⟨B, 0⟩))), pu .u8 (hashV (d4 B)), Jw 1 (d5 B), opL (dt B), Jw 8 (d7 B), Jw 8 (Jc 8 (d7 B))⟩ := rfl
  rw [h0, n1, s1, Yy (Q4 (by omega) (by omega)), QT, Yy (Q4 (by omega) (by omega)), QT, Yy (Q4 (by omega) (by omega)), hV, hd5, Jci, hdt, q2, hd7, Yy (Q4 (by omega) (by omega)), QT, Yy (Q4 (by omega) (by omega)), JcA (by omega) (by omega), ← Qc o1]
 refine ⟨?_, hdv⟩
 rw [Ja3]
 unfold dE0
 rw [hd9, hdt, q1, hdv, hc]; rfl
theorem JcB {b : List PV} {d : DV} (h : dE b = 0) (hv : dv b = d) (h1 : Jh .u8 d.h = true) :
   dF 0 b = d.ad /\ dF 1 b = d.au /\ dF 2 b = d.id /\ dF 3 b = d.ve /\ dF 4 b = d.kd /\ dF 5 b = d.wd /\ dF 6 b = d.wu /\ pu .u8 (dH b) = d.h /\ dO b = d.o := by
 have h0 : dE0 b = 0 := by rw [← Ja3]; exact h
 have a : ∀ i, dF i b = dN b i := fun i => by rw [JdH, h0]; rfl
 have hh : pu .u8 (dH b) = (dv b).h := by rw [JdI, h0]; rfl
 have ho : dO b = (dv b).o := by rw [JdJ, h0]; rfl
 refine ⟨?_, ?_, ?_, ?_, ?_, ?_, ?_, ?_, ?_⟩
 · rw [a, ← hv]; rfl
 · rw [a, ← hv]; rfl
 · rw [a, ← hv]; rfl
 · rw [a, ← hv]; rfl
 · rw [a, ← hv]; rfl
 · rw [a, ← hv]; rfl
 · rw [a, ← hv]; rfl
 · rw [hh, hv]
 · rw [ho, hv]
def JwT {α : Type} (n : Nat) (k : Nat -> α) : α := Nat.rec (k 0) (fun m _ => k (m + 1)) n
theorem Jrh {α : Type} (n : Nat) (k : Nat -> α) : JwT n k = k n := by cases n <;> rfl
def Jri {α : Type} (x : Int) (k : Int -> α) : α := match x with
 | .ofNat n => JwT n fun n => k (.ofNat n)
 | .negSucc n => JwT n fun n => k (.negSucc n)
theorem JkP {α : Type} (x : Int) (k : Int -> α) : Jri x k = k x := by cases x <;> simp only [Jri, Jrh]
def JcC {α : Type} : List Int -> (List Int -> α) -> α
 | [], k => k []
 | x :: r, k => Jri x fun x => JcC r fun r => k (x :: r)
theorem GX {α : Type} : ∀ (l : List Int) (k : List Int -> α), JcC l k = k l
 | [], k => rfl
 | x :: r, k => by simp only [JcC, JkP, GX r]
def Jfo : Nat -> List Int -> List Int
 | 0, R => R
 | n + 1, R => Jri (Jpp (R.getD 15 0) (R.getD 14 0) (R.getD 6 0) (R.getD 1 0)) fun x => Jfo n (x :: R)
theorem Jbt (L : List Int) (i j : Nat) (h : i + j + 1 = L.length) : L.reverse.getD i 0 = L.getD j 0 := by
 rw [List.getD_eq_getElem?_getD, List.getD_eq_getElem?_getD, List.getElem?_reverse (by omega)]
 congr 2; omega
theorem JdU (bs : List Int) : ∀ (n i : Nat), Jfo n (Qs bs i).reverse = (Qs bs (i + n)).reverse
 | 0, i => rfl
 | n + 1, i => by
  have hl := JX bs i
  simp only [Jfo, JkP]
  rw [Jbt _ 15 i (by omega), Jbt _ 14 (i + 1) (by omega), Jbt _ 6 (i + 9) (by omega), Jbt _ 1 (i + 14) (by omega)]
  have := JdU bs n (i + 1)
  rw [Qs, List.reverse_append] at this
  rw [show i + (n + 1) = i + 1 + n from by omega, ← this]
  rfl
def JkQ : List Int -> List Int -> List Int -> List Int
 | k :: ks, w :: ws, t => JcC (rnd k w t) fun t => JkQ ks ws t
 | _, _, t => t
theorem JgZ (W s : List Int) (hW : W.length = 64) : ∀ (d i : Nat), i + d = 64 -> JkQ (kks.drop i) (W.drop i) (Zl W s i) = Zl W s 64
 | 0, i, h => by
  obtain rfl : i = 64 := by omega
  rw [List.drop_of_length_le (l := W) (by rw [hW]; exact Nat.le_refl _)]
  cases kks.drop 64 <;> rfl
 | d + 1, i, h => by
  have h1 : i < kks.length := by show i < 64; omega
  have h2 : i < W.length := by omega
  rw [List.drop_eq_getElem_cons h1, List.drop_eq_getElem_cons h2]
  simp only [JkQ, GX]
  have := JgZ W s hW d (i + 1) (by omega)
  rw [← this, Zl]
  simp only [List.getD_eq_getElem?_getD, List.getElem?_eq_getElem h1, List.getElem?_eq_getElem h2, Option.getD_some]
def JwU (s bs : List Int) : List Int :=
 JcC ((List.range 16).map (JcQ bs)) fun w => JcC (Jfo 48 w.reverse).reverse fun W => JcC (JkQ kks W s) fun t => (List.range 8).map fun i => ww (t.getD i 0 + s.getD i 0)
theorem Jrj (s bs : List Int) : JwU s bs = Jgh s bs := by
 simp only [JwU, GX]
 have h1 := JdU bs 48 0
 rw [Qs, Nat.zero_add] at h1
 rw [h1, List.reverse_reverse]
 have h2 := JgZ (Qs bs 48) s (JX bs 48) 64 0 rfl
 rw [List.drop_zero, List.drop_zero, Zl] at h2
 rw [h2]; rfl
def JkR (b : List Int) : Nat -> List Int -> List Int -> List Int
 | 0, s, _ => s
 | n + 1, s, b' => JcC (JwU s (b'.take 64)) fun s => JkR b n s (b'.drop 64)
theorem Jg0 (b : List Int) : ∀ (n i : Nat) , JkR b n (Wg iv b i) (b.drop (64 * i)) = Wg iv b (i + n)
 | 0, i => rfl
 | n + 1, i => by
  simp only [JkR, GX, Jrj, List.drop_drop]
  have := Jg0 b n (i + 1)
  rw [Wg, show 64 * (i + 1) = 64 * i + 64 from by omega] at this
  rw [this, show i + 1 + n = i + (n + 1) from by omega]
def JCT (bs : List Int) (n : Nat) : List Int := JcC (QC bs) fun P => JcC (JkR P n iv P) fun s => JcC (Jls s) fun r => r
theorem JkS (bs : List Int) : JCT bs ((QC bs).length / 64) = JE bs := by
 rw [Jbp]
 simp only [JCT, GX]
 have := Jg0 (QC bs) ((QC bs).length / 64) 0
 rw [Wg, Nat.mul_zero, List.drop_zero, Nat.zero_add] at this
 rw [this]; rfl
-- FN law9.known
def JwV : List Int := [222, 87, 173, 32, 103, 237, 148, 204, 175, 52, 179, 142, 217, 35, 16, 25, 63, 14, 57, 74, 190, 160, 150, 87, 13, 59, 41, 224, 246, 97, 92, 43]
def Joa : List Int := [153, 23, 23, 68, 172, 113, 210, 173, 109, 178, 123, 198, 8, 243, 9, 87, 51, 187, 213, 49, 242, 44, 37, 15, 107, 179, 98, 137, 48, 46, 217, 95]
def k9L : List Int := [0, 0, 0, 0, 0, 0, 0, 0, 0, 0, 0, 0, 0, 0, 0, 0, 0, 0, 0, 0, 0, 0, 0, 0, 0, 0, 0, 0, 0, 0, 0, 0, 0, 0, 0, 0, 0, 0, 0, 0, 0, 0, 1, 0, 0, 0, 0, 0, 0, 0, 0, 0, 0, 0, 0, 0, 0, 0, 0, 0, 0, 0, 0, 0, 0, 0, 0, 0, 0, 0, 0, 0, 0, 0, 0, 0, 0]
theorem JCU : JE ([93, 6, 54, 54, 54, 54, 54, 54, 54, 54, 54, 54, 54, 54, 54, 54, 54, 54, 54, 54, 54, 54, 54, 54, 54, 54, 54, 54, 54, 54, 54, 54, 54, 54, 54, 54, 54, 54, 54, 54, 54, 54, 54, 54, 54, 54, 54, 54, 54, 54, 54, 54, 54, 54, 54, 54, 54, 54, 54, 54, 54, 54, 54, 54] ++ k9L) = JwV := (JkS ([93, 6, 54, 54, 54, 54, 54, 54, 54, 54, 54, 54, 54, 54, 54, 54, 54, 54, 54, 54, 54, 54, 54, 54, 54, 54, 54, 54, 54, 54, 54, 54, 54, 54, 54, 54, 54, 54, 54, 54, 54, 54, 54, 54, 54, 54, 54, 54, 54, 54, 54, 54, 54, 54, 54, 54, 54, 54, 54, 54, 54, 54, 54, 54] ++ k9L)).symm.trans (by kernel_rfl)
theorem JwW : JE ([55, 108, 92, 92, 92, 92, 92, 92, 92, 92, 92, 92, 92, 92, 92, 92, 92, 92, 92, 92, 92, 92, 92, 92, 92, 92, 92, 92, 92, 92, 92, 92, 92, 92, 92, 92, 92, 92, 92, 92, 92, 92, 92, 92, 92, 92, 92, 92, 92, 92, 92, 92, 92, 92, 92, 92, 92, 92, 92, 92, 92, 92, 92, 92] ++ JwV) = Joa := (JkS ([55, 108, 92, 92, 92, 92, 92, 92, 92, 92, 92, 92, 92, 92, 92, 92, 92, 92, 92, 92, 92, 92, 92, 92, 92, 92, 92, 92, 92, 92, 92, 92, 92, 92, 92, 92, 92, 92, 92, 92, 92, 92, 92, 92, 92, 92, 92, 92, 92, 92, 92, 92, 92, 92, 92, 92, 92, 92, 92, 92, 92, 92, 92, 92] ++ JwV)).symm.trans (by kernel_rfl)
theorem JwX : Q9 [107, 48] k9L = Joa := by
 have hk : GA [107, 48] = [107, 48] ++ List.replicate 62 0 := by simp [GA, Jlu]
 rw [Jbr, Jgv, hk]
 rw [show JV ([107, 48] ++ List.replicate 62 0) 54 = [93, 6, 54, 54, 54, 54, 54, 54, 54, 54, 54, 54, 54, 54, 54, 54, 54, 54, 54, 54, 54, 54, 54, 54, 54, 54, 54, 54, 54, 54, 54, 54, 54, 54, 54, 54, 54, 54, 54, 54, 54, 54, 54, 54, 54, 54, 54, 54, 54, 54, 54, 54, 54, 54, 54, 54, 54, 54, 54, 54, 54, 54, 54, 54] from by decide, show JV ([107, 48] ++ List.replicate 62 0) 92 = [55, 108, 92, 92, 92, 92, 92, 92, 92, 92, 92, 92, 92, 92, 92, 92, 92, 92, 92, 92, 92, 92, 92, 92, 92, 92, 92, 92, 92, 92, 92, 92, 92, 92, 92, 92, 92, 92, 92, 92, 92, 92, 92, 92, 92, 92, 92, 92, 92, 92, 92, 92, 92, 92, 92, 92, 92, 92, 92, 92, 92, 92, 92, 92] from by decide, JCU, JwW]
def z32 : List PV := List.replicate 32 (.sc (.int .u8 0))
def k9 : List PV := [.ro 5 false false (kb 0 []), .ro 5 false false (kb 1 []), .ro 5 false false (kb 2 [])]
theorem JiX : kO3 k9 = true := Jfn.2 ⟨Jj7 0 rfl, Jj7 1 rfl, Jj7 2 rfl⟩
def d9v : DV := ⟨0, 0, 0, 0, z32, 2, [], 0, 0⟩
theorem Jfp : opB [] = [0] := by rw [Jat]; rfl
theorem h32_z32 : h32 z32 = true := h32_iff.2 ⟨rfl, rfl⟩
theorem Jfq : dOk d9v = true := W5.2 ⟨rfl, rfl, Vc.2 ⟨rfl, fun p hp => (by cases hp), by decide⟩, by show (opB []).length <= _; rw [Jfp]; decide⟩
theorem Job : dCk d9v = 0 := by rw [Jaz]; rfl
theorem JCV : eOk ⟨[], z32, 0, []⟩ = true := GL.2 ⟨rfl, by decide, rfl, rfl, Vc.2 ⟨rfl, fun p hp => (by cases hp), by decide⟩, by show (opB []).length <= _; rw [Jfp]; decide⟩
theorem JCW : WL ⟨[], z32, 0, []⟩ ++ Ji z32 = k9L := by
 rw [Jcq, Jcp]
 show Qp (tx []) ++ (Ji z32 ++ (Qb 0 ++ Qp (tx (pu .u8 (opB []))))) ++ Ji z32 = _
 rw [Jfp, Wh, Wh, Wy]
 unfold Yv
 rw [Jch, Jch]
 rfl
theorem Joc (d : DV) (h : byB d.h = true := by rfl) : byB (pu .u8 (dlB d)) = true := by
 rw [Jmd]
 intro x hx
 rw [Je8] at hx
 simp only [Jly, List.mem_append, List.mem_singleton] at hx
 rcases hx with h1 | h1 | h1 | h1 | h1 | h1 | h1 | h1 | h1
 · exact Yx _ x h1
 · exact Yx _ x h1
 · exact Yx _ x h1
 · exact Yx _ x h1
 · exact (Qo.1 h).2 x h1
 · rw [h1]; exact Yw _
 · exact Jgw _ x h1
 · exact Yx _ x h1
 · exact Yx _ x h1
theorem Jt1 {l : List PV} {d : DV} (ho : dOk d = true) (hb : byB d.h = true) (hc : dCk d = 0) : W9 ⟨l, pu .u8 (dlB d), pu .u8 (mcK ⟨l, d.ad, dlB d⟩)⟩ = 0 := by
 obtain ⟨t1, t2⟩ := JiW ho hb hc
 obtain ⟨f0, f1, f2, f3, f4, f5, f6, f7, f8⟩ := JcB t1 t2 (W5.1 ho).1
 have hk : kIn d.ad = true := by rw [Jau]; have := (JgY hc).1; simp only [QR, Bool.and_eq_true, decide_eq_true_eq]; omega
 unfold W9
 simp only [t1, f0, hk, QW, beq_self_eq_true, Bool.and_self, cond_true]
theorem JGf : emC ⟨k9, 0, ⟨[], z32, 0, []⟩, z32, z32⟩ = false := by
 rw [Jn5, JiP, V1]
 simp only [JCW]
 have hk : QS ⟨k9, 0⟩ = pu .u8 [107, 48] := by
  rw [Jbq]; show kb 0 [] = _; rw [Jne]; rfl
 rw [hk, QW, JwX]
 rw [show (Joa == Ji z32) = false from by decide, Bool.and_false]
def JiY : List PV -> List Ent -> (Res -> Option Res) -> Option Res
 | [], [], k => k ⟨.sc (.bool true), [], []⟩
 | _, _, _ => none
def JCX : Sig := { own := [], run := JiY }
theorem JCY : Jf tau Try.prog 42 JCX := JGe.of fun xs es k res hr => by
 change JiY xs es k = some res at hr
 unfold JiY at hr
 split at hr
 · refine Eq.trans ?_ hr
   show g42 0 _ = _
   unfold g42
   have hz : [PV.sc (Value.int IntKind.u8 0), PV.sc (Value.int IntKind.u8 0), PV.sc (Value.int IntKind.u8 0), PV.sc (Value.int IntKind.u8 0), PV.sc (Value.int IntKind.u8 0), PV.sc (Value.int IntKind.u8 0), PV.sc (Value.int IntKind.u8 0), PV.sc (Value.int IntKind.u8 0), PV.sc (Value.int IntKind.u8 0), PV.sc (Value.int IntKind.u8 0), PV.sc (Value.int IntKind.u8 0), PV.sc (Value.int IntKind.u8 0), PV.sc (Value.int IntKind.u8 0), PV.sc (Value.int IntKind.u8 0), PV.sc (Value.int IntKind.u8 0), PV.sc (Value.int IntKind.u8 0), PV.sc (Value.int IntKind.u8 0), PV.sc (Value.int IntKind.u8 0), PV.sc (Value.int IntKind.u8 0), PV.sc (Value.int IntKind.u8 0), PV.sc (Value.int IntKind.u8 0), PV.sc (Value.int IntKind.u8 0), PV.sc (Value.int IntKind.u8 0), PV.sc (Value.int IntKind.u8 0), PV.sc (Value.int IntKind.u8 0), PV.sc (Value.int IntKind.u8 0), PV.sc (Value.int IntKind.u8 0), PV.sc (Value.int IntKind.u8 0), PV.sc (Value.int IntKind.u8 0), PV.sc (Value.int IntKind.u8 0), PV.sc (Value.int IntKind.u8 0), PV.sc (Value.int IntKind.u8 0)] = z32 := rfl
   have hk : [PV.ro 5 false false (kb 0 []), .ro 5 false false (kb 1 []), .ro 5 false false (kb 2 [])] = k9 := rfl
   have hd : DV.mk 0 0 0 0 z32 2 [] 0 0 = d9v := rfl
   simp only [hz, hk, hd]
   have hs := Jt1 (l := k9) Jfq rfl Job
   have had : d9v.ad = 0 := rfl
   rw [had] at hs
   have hsE : soE ⟨k9, pu .u8 (dlB d9v), pu .u8 (mcK ⟨k9, 0, dlB d9v⟩)⟩ = 0 := by rw [JaB, hs]
   have hsF : soF 4 ⟨k9, pu .u8 (dlB d9v), pu .u8 (mcK ⟨k9, 0, dlB d9v⟩)⟩ = 2 := by
    rw [JaC, hs]
    show dF 4 (pu .u8 (dlB d9v)) = 2
    obtain ⟨t1, t2⟩ := JiW Jfq rfl Job
    exact (JcB t1 t2 rfl).2.2.2.2.1
   have hby : byB (pu .u8 (dlB d9v)) = true := Joc _
   have hsl : slB false (pu .u8 (dlB d9v)) = true := Wd.2 ⟨fun h => (by cases h), by rw [JJ]; have := Vh Jfq; omega⟩
   have hmk : h32 (pu .u8 (mcK ⟨k9, 0, dlB d9v⟩)) = true := h32_iff.2 ⟨JO _ _, by rw [JJ]; exact V2 _⟩
   rw [hsE, hsF, JGf]
   refine (Jb (by rw [Jfq, JiX]; rfl)).trans ((Jb (by rw [hsl, hby, hmk, JiX]; rfl)).trans ((Jb rfl).trans ((Jb rfl).trans ((Jb (by rw [JCV, h32_z32, JiX]; rfl)).trans rfl))))
 · cases hr
def F43 : Fns := JC 99 JAT (F0)
theorem JwY : Ju tau Try.prog F43 := (JB).add JAU JE6
def Jrk : An := (.seq .leaf (.seq .leaf .leaf))
def g43 (f : Nat) (y0 y1 d_Id y2 : Int) (y3 : List PV) (y4 : Int) (y5 y6 : Bool) (d_Op : List PV) (y7 y8 : Int) (k : Res -> Option Res) : Option Res := bif cOk d_Op then k (Res.mk (.sc (.bool (Jir d_Op))) [] []) else none
theorem e43 (f : Nat) (y0 y1 d_Id y2 : Int) (y3 : List PV) (y4 : Int) (y5 y6 : Bool) (d_Op : List PV) (y7 y8 : Int) (k : Res -> Option Res) : JN tau F43 Try.f43 (Try.f43.body.get!) Jrk [.ro] 0 [.st 73 [.st 45 [.sc (.int .i64 y0), .sc (.int .i64 y1)], .sc (.int .i64 d_Id), .sc (.int .i64 y2), .ar 37 y3, .sc (.int .i64 y4), .ro 99 y5 y6 d_Op, .st 45 [.sc (.int .i64 y7), .sc (.int .i64 y8)]]] [] k = g43 f y0 y1 d_Id y2 y3 y4 y5 y6 d_Op y7 y8 k := by kernel_rfl
theorem JGg (f : Nat) : Je (Try.f43.body.get!) Jrk = [] := by kernel_rfl
theorem JGh (f : Nat) : ∀ q ∈ Je (Try.f43.body.get!) Jrk, q.Ok tau Try.prog 0 := by
 rw [JGg f]; intro q hq; cases hq
theorem JCZ : Try.prog.funcs[43]? = some Try.f43 := by kernel_rfl
theorem JC0 : Try.f43.body = some (Try.f43.body.get!) := by kernel_rfl
theorem JGi : Enters Try.prog 43 := enters_of JCZ (by kernel_rfl) JC0
def Jod : List PV -> List Ent -> (Res -> Option Res) -> Option Res
 | [.st 73 [.st 45 [.sc (.int .i64 y0), .sc (.int .i64 y1)], .sc (.int .i64 d_Id), .sc (.int .i64 y2), .ar 37 y3, .sc (.int .i64 y4), .ro 99 y5 y6 d_Op, .st 45 [.sc (.int .i64 y7), .sc (.int .i64 y8)]]], [], k => g43 0 y0 y1 d_Id y2 y3 y4 y5 y6 d_Op y7 y8 k
 | _, _, _ => none
def s43 : Sig := { own := [], run := Jod }
theorem JGj : Jf tau Try.prog 43 s43 := JP Jq JwY Jr JCZ JC0 Jrk [.ro] 0 [] Jod (JGh 0) fun xs es k res hr => by
 unfold Jod at hr
 split at hr
 · exact ⟨rfl, 0, (e43 0 _ _ _ _ _ _ _ _ _ _ _  _).trans hr⟩
 · cases hr
def JC1 : Fns := F0
theorem Jrl : Ju tau Try.prog JC1 := JB
def JkT : An := (.seq .leaf (.seq .leaf (.seq (.seq .leaf (.cond .leaf .leaf)) (.seq .leaf .leaf))))
def Jrm (f : Nat) (at1 n : Int) (k : Res -> Option Res) : Option Res := bif !decide (n = 0) && true then bif decide (at1.tmod n < 0) then k (Res.mk (.sc (.int .i64 (IntKind.i64.wrap (at1.tmod n + n)))) [] []) else k (Res.mk (.sc (.int .i64 (at1.tmod n))) [] []) else none
theorem JGk (f : Nat) (at1 n : Int) (k : Res -> Option Res) : JN tau JC1 Try.f112 (Try.f112.body.get!) JkT [.ro] 0 [.sc (.int .i64 at1), .sc (.int .i64 n)] [] k = Jrm f at1 n k := by kernel_rfl
theorem JC2 (f : Nat) : Je (Try.f112.body.get!) JkT = [] := by kernel_rfl
theorem JC3 (f : Nat) : ∀ q ∈ Je (Try.f112.body.get!) JkT, q.Ok tau Try.prog 0 := by
 rw [JC2 f]; intro q hq; cases hq
theorem Jt2 : Try.prog.funcs[112]? = some Try.f112 := by kernel_rfl
theorem Jt3 : Try.f112.body = some (Try.f112.body.get!) := by kernel_rfl
theorem JC4 : Enters Try.prog 112 := enters_of Jt2 (by kernel_rfl) Jt3
def JiZ : List PV -> List Ent -> (Res -> Option Res) -> Option Res
 | [.sc (.int .i64 at1), .sc (.int .i64 n)], [], k => Jrm 0 at1 n k
 | _, _, _ => none
def JGl : Sig := { own := [], run := JiZ }
theorem JC5 : Jf tau Try.prog 112 JGl := JP Jq Jrl Jr Jt2 Jt3 JkT [.ro] 0 [] JiZ (JC3 0) fun xs es k res hr => by
 unfold JiZ at hr
 split at hr
 · exact ⟨rfl, 0, (JGk 0 _ _  _).trans hr⟩
 · cases hr
-- FN law4.within
def Jfr : List PV -> List Ent -> (Res -> Option Res) -> Option Res
 | [.sc (.int .i64 a), .sc (.int .i64 n)], [], k => bif okW n then k ⟨.sc (.int .i64 (a % n)), [], []⟩ else none
 | _, _, _ => none
def Jt4 : Sig := { own := [], run := Jfr }
theorem Jrn (a n : Int) (h : 0 < n) (h2 : n < 1000000000000) (k : Res -> Option Res) : Jrm 0 a n k = k ⟨.sc (.int .i64 (a % n)), [], []⟩ := by
 have hn : (n == 0) = false := by simp; omega
 have e := Int.tmod_eq_emod (a := a) (b := n)
 have e0 := Int.emod_nonneg a (show n ≠ 0 by omega)
 have e1 := Int.emod_lt_of_pos a h
 have hna : (n.natAbs : Int) = n := by omega
 unfold Jrm
 refine (Jb (by simp; omega)).trans ?_
 by_cases hc : a.tmod n < 0
 · refine (Jb (by simpa using hc)).trans ?_
   have : IntKind.i64.wrap (a.tmod n + n) = a % n := by
    split at e <;> (rw [wrap_i64 (by omega) (by omega)]; omega)
   rw [this]
 · refine (Jv (by simpa using hc)).trans ?_
   have : a.tmod n = a % n := by split at e <;> omega
   rw [this]
theorem JwZ : Jf tau Try.prog 112 Jt4 := JC5.of fun xs es k res hr => by
 change Jfr xs es k = some res at hr
 unfold Jfr at hr
 split at hr
 · obtain ⟨hc, hr⟩ := JG hr
   simp only [Ze, Bool.and_eq_true, decide_eq_true_eq] at hc
   exact (Jrn _ _ hc.1 hc.2 _).trans hr
 · cases hr
def N54 : Nat := 114
def F54 : Fns := JC 112 Jt4 (F0)
theorem Joe : Ju tau Try.prog F54 := (JB).add JwZ JC4
def JdV : Code := Qu (Try.f54.body.get!) [1, 1, 1, 0, 1, 0, 0]
def YQ : Nm := [(0, .any), (1, .any), (5, .own), (6, .any), (7, .any)]
def ZW : Nm := [(0, .any), (1, .any), (5, .any), (6, .any)]
def Jg1 : An := (.seq (.seq .leaf (.cond .leaf .leaf)) (.seq (.block none (.seq .leaf (.seq .leaf (.block none (.seq (.seq .leaf (.cond .leaf .leaf)) (.cond (.seq .leaf .leaf) (.seq .leaf (.cond (.seq .leaf .leaf) (.seq .leaf (.cond (.seq .leaf (.seq .leaf (.cond (.seq .leaf .leaf) .leaf))) .leaf)))))))))) .leaf))
def Jro (r0 : QJ) : An := (.seq .leaf (.seq .leaf (.seq .leaf (.seq (.seq .leaf (.block none (.sum YQ N54 r0))) (.seq (.seq .leaf (.cond .leaf .leaf)) (.seq (.seq .leaf (.cond .leaf .leaf)) (.seq .leaf .leaf)))))))
def Vi (f : Nat) (rc : Int -> Bool -> Bool -> List PV -> Nat -> Int -> Int -> Bool -> List PV -> Option Res) (k0 : Int -> Bool -> Bool -> List PV -> Nat -> Int -> Bool -> List PV -> Option Res) (v0 : Int) (v1 v2 : Bool) (v3 : List PV) (v4 : Nat) (v5 v6 : Int) (v7 : Bool) (v8 : List PV) : Option Res := bif decide (v6 < zi v3.length) then bif decide (v6 < 12) then bif decide (v0 > 0) then bif decide (0 <= v6) && decide (v6 < zi v3.length) && PV.isInt IntKind.i64 (v3.getD v6.toNat PV.top) && true then bif okW (J6 v0 9) then bif decide (0 <= v6) && decide (v6 < zi v3.length) && PV.isInt IntKind.i64 (v3.getD v6.toNat PV.top) && true then bif okW 4 then bif (v3.getD v6.toNat PV.top).int % 4 == 0 then bif (v3.getD v6.toNat PV.top).int % 4 == 0 then bif Jl (v4 + 1) 32 && true then rc (IntKind.i64.wrap (v0 - IntKind.i64.wrap (1 + IntKind.i64.wrap ((v3.getD v6.toNat PV.top).int.tdiv 7) % J6 v0 9))) v1 v2 v3 (v4 + 1) v5 (IntKind.i64.wrap (v6 + 1)) (v7 && false) (List.take v4 v8 ++ [.st 99 [.sc (.int .i64 1), .sc (.int .i64 (IntKind.i64.wrap (1 + IntKind.i64.wrap ((v3.getD v6.toNat PV.top).int.tdiv 7) % J6 v0 9))), .sc (.string (ByteArray.mk #[]))]]) else none else bif (v3.getD v6.toNat PV.top).int % 4 == 2 then bif Jl (v4 + 1) 32 && true then rc (IntKind.i64.wrap (v0 - IntKind.i64.wrap (1 + IntKind.i64.wrap ((v3.getD v6.toNat PV.top).int.tdiv 7) % J6 v0 9))) v1 v2 v3 (v4 + 1) (IntKind.i64.wrap (v5 - IntKind.i64.wrap (1 + IntKind.i64.wrap ((v3.getD v6.toNat PV.top).int.tdiv 7) % J6 v0 9))) (IntKind.i64.wrap (v6 + 1)) (v7 && false) (List.take v4 v8 ++ [.st 99 [.sc (.int .i64 3), .sc (.int .i64 (IntKind.i64.wrap (1 + IntKind.i64.wrap ((v3.getD v6.toNat PV.top).int.tdiv 7) % J6 v0 9))), .sc (.string (ByteArray.mk #[]))]]) else none else bif (v3.getD v6.toNat PV.top).int % 4 == 3 then bif decide (0 <= v6) && decide (v6 < zi v3.length) && PV.isInt IntKind.i64 (v3.getD v6.toNat PV.top) && true then bif okW 5 then bif decide (0 <= IntKind.i64.wrap (1 + IntKind.i64.wrap ((v3.getD v6.toNat PV.top).int.tdiv 7) % 5)) && true && decide ((IntKind.i64.wrap (1 + IntKind.i64.wrap ((v3.getD v6.toNat PV.top).int.tdiv 7) % 5)).toNat <= 10) && true then bif decide (IntKind.i64.wrap (v5 + zi ((ByteArray.mk (Array.mk (u8l [97, 98, 99, 100, 101, 102, 103, 104, 105, 106]))).extract 0 (IntKind.i64.wrap (1 + IntKind.i64.wrap ((v3.getD v6.toNat PV.top).int.tdiv 7) % 5)).toNat).size) <= 120) then bif Jl (v4 + 1) 32 && true then rc v0 v1 v2 v3 (v4 + 1) (IntKind.i64.wrap (v5 + zi ((ByteArray.mk (Array.mk (u8l [97, 98, 99, 100, 101, 102, 103, 104, 105, 106]))).extract 0 (IntKind.i64.wrap (1 + IntKind.i64.wrap ((v3.getD v6.toNat PV.top).int.tdiv 7) % 5)).toNat).size)) (IntKind.i64.wrap (v6 + 1)) (v7 && false) (List.take v4 v8 ++ [.st 99 [.sc (.int .i64 2), .sc (.int .i64 0), .sc (.string ((ByteArray.mk (Array.mk (u8l [97, 98, 99, 100, 101, 102, 103, 104, 105, 106]))).extract 0 (IntKind.i64.wrap (1 + IntKind.i64.wrap ((v3.getD v6.toNat PV.top).int.tdiv 7) % 5)).toNat))]]) else none else rc v0 v1 v2 v3 v4 v5 (IntKind.i64.wrap (v6 + 1)) v7 v8 else none else none else none else rc v0 v1 v2 v3 v4 v5 (IntKind.i64.wrap (v6 + 1)) v7 v8 else bif (v3.getD v6.toNat PV.top).int % 4 == 1 then bif Jl (v4 + 1) 32 && true then rc (IntKind.i64.wrap (v0 - IntKind.i64.wrap (1 + IntKind.i64.wrap ((v3.getD v6.toNat PV.top).int.tdiv 7) % J6 v0 9))) v1 v2 v3 (v4 + 1) v5 (IntKind.i64.wrap (v6 + 1)) (v7 && false) (List.take v4 v8 ++ [.st 99 [.sc (.int .i64 1), .sc (.int .i64 (IntKind.i64.wrap (1 + IntKind.i64.wrap ((v3.getD v6.toNat PV.top).int.tdiv 7) % J6 v0 9))), .sc (.string (ByteArray.mk #[]))]]) else none else bif (v3.getD v6.toNat PV.top).int % 4 == 2 then bif Jl (v4 + 1) 32 && true then rc (IntKind.i64.wrap (v0 - IntKind.i64.wrap (1 + IntKind.i64.wrap ((v3.getD v6.toNat PV.top).int.tdiv 7) % J6 v0 9))) v1 v2 v3 (v4 + 1) (IntKind.i64.wrap (v5 - IntKind.i64.wrap (1 + IntKind.i64.wrap ((v3.getD v6.toNat PV.top).int.tdiv 7) % J6 v0 9))) (IntKind.i64.wrap (v6 + 1)) (v7 && false) (List.take v4 v8 ++ [.st 99 [.sc (.int .i64 3), .sc (.int .i64 (IntKind.i64.wrap (1 + IntKind.i64.wrap ((v3.getD v6.toNat PV.top).int.tdiv 7) % J6 v0 9))), .sc (.string (ByteArray.mk #[]))]]) else none else bif (v3.getD v6.toNat PV.top).int % 4 == 3 then bif decide (0 <= v6) && decide (v6 < zi v3.length) && PV.isInt IntKind.i64 (v3.getD v6.toNat PV.top) && true then bif okW 5 then bif decide (0 <= IntKind.i64.wrap (1 + IntKind.i64.wrap ((v3.getD v6.toNat PV.top).int.tdiv 7) % 5)) && true && decide ((IntKind.i64.wrap (1 + IntKind.i64.wrap ((v3.getD v6.toNat PV.top).int.tdiv 7) % 5)).toNat <= 10) && true then bif decide (IntKind.i64.wrap (v5 + zi ((ByteArray.mk (Array.mk (u8l [97, 98, 99, 100, 101, 102, 103, 104, 105, 106]))).extract 0 (IntKind.i64.wrap (1 + IntKind.i64.wrap ((v3.getD v6.toNat PV.top).int.tdiv 7) % 5)).toNat).size) <= 120) then bif Jl (v4 + 1) 32 && true then rc v0 v1 v2 v3 (v4 + 1) (IntKind.i64.wrap (v5 + zi ((ByteArray.mk (Array.mk (u8l [97, 98, 99, 100, 101, 102, 103, 104, 105, 106]))).extract 0 (IntKind.i64.wrap (1 + IntKind.i64.wrap ((v3.getD v6.toNat PV.top).int.tdiv 7) % 5)).toNat).size)) (IntKind.i64.wrap (v6 + 1)) (v7 && false) (List.take v4 v8 ++ [.st 99 [.sc (.int .i64 2), .sc (.int .i64 0), .sc (.string ((ByteArray.mk (Array.mk (u8l [97, 98, 99, 100, 101, 102, 103, 104, 105, 106]))).extract 0 (IntKind.i64.wrap (1 + IntKind.i64.wrap ((v3.getD v6.toNat PV.top).int.tdiv 7) % 5)).toNat))]]) else none else rc v0 v1 v2 v3 v4 v5 (IntKind.i64.wrap (v6 + 1)) v7 v8 else none else none else none else rc v0 v1 v2 v3 v4 v5 (IntKind.i64.wrap (v6 + 1)) v7 v8 else none else none else none else none else k0 v0 v1 v2 v3 v4 v5 v7 v8 else k0 v0 v1 v2 v3 v4 v5 v7 v8 else k0 v0 v1 v2 v3 v4 v5 v7 v8
def XS (f : Nat) (k0 : Int -> Bool -> Bool -> List PV -> Nat -> Int -> Bool -> List PV -> Option Res) : Nat -> Int -> Bool -> Bool -> List PV -> Nat -> Int -> Int -> Bool -> List PV -> Option Res
 | 0, _, _, _, _, _, _, _, _, _ => none
 | n + 1, v0, v1, v2, v3, v4, v5, v6, v7, v8 => Vi f (XS f k0 n) k0 v0 v1 v2 v3 v4 v5 v6 v7 v8
theorem Jrp (f : Nat) (k : Kont) (n : Nat) (v0 : Int) (v1 v2 : Bool) (v3 : List PV) (v4 : Nat) (v5 v6 : Int) (v7 : Bool) (v8 : List PV) : Jn tau 0 YQ (fun s k => ev tau F54 0 0 JdV (Jg1 ) s k) (n + 1) (Jd YQ N54 [.sc (.int .i64 v0), .ro 3 v1 v2 v3, .ow 99 1840 [] 0 v4 none, .sc (.int .i64 v5), .sc (.int .i64 v6)] [(1840, .vec false 99 v7 v8)]) (Jt tau 0 ZW k) = Vi f (fun v0 v1 v2 v3 v4 v5 v6 v7 v8 => Jn tau 0 YQ (fun s k => ev tau F54 0 0 JdV (Jg1 ) s k) n (Jd YQ N54 [.sc (.int .i64 v0), .ro 3 v1 v2 v3, .ow 99 1840 [] 0 v4 none, .sc (.int .i64 v5), .sc (.int .i64 v6)] [(1840, .vec false 99 v7 v8)]) (Jt tau 0 ZW k)) (fun x0 x1 x2 x3 x4 x5 x6 x7 => k (Ex.exit 0) (Jd ZW N54 [.sc (.int .i64 x0), .ro 3 x1 x2 x3, .ow 99 1840 [] 0 x4 none, .sc (.int .i64 x5)] [(1840, .vec false 99 x6 x7)])) v0 v1 v2 v3 v4 v5 v6 v7 v8 := by kernel_rfl
theorem JkU (f : Nat) (k : Kont) : ∀ (n : Nat) (v0 : Int) (v1 v2 : Bool) (v3 : List PV) (v4 : Nat) (v5 v6 : Int) (v7 : Bool) (v8 : List PV), Jn tau 0 YQ (fun s k => ev tau F54 0 0 JdV (Jg1 ) s k) n (Jd YQ N54 [.sc (.int .i64 v0), .ro 3 v1 v2 v3, .ow 99 1840 [] 0 v4 none, .sc (.int .i64 v5), .sc (.int .i64 v6)] [(1840, .vec false 99 v7 v8)]) (Jt tau 0 ZW k) = XS f (fun x0 x1 x2 x3 x4 x5 x6 x7 => k (Ex.exit 0) (Jd ZW N54 [.sc (.int .i64 x0), .ro 3 x1 x2 x3, .ow 99 1840 [] 0 x4 none, .sc (.int .i64 x5)] [(1840, .vec false 99 x6 x7)])) n v0 v1 v2 v3 v4 v5 v6 v7 v8 | 0, _, _, _, _, _, _, _, _, _ => rfl | n + 1, v0, v1, v2, v3, v4, v5, v6, v7, v8 => (Jrp f k n v0 v1 v2 v3 v4 v5 v6 v7 v8).trans (congrArg (fun r => Vi f r (fun x0 x1 x2 x3 x4 x5 x6 x7 => k (Ex.exit 0) (Jd ZW N54 [.sc (.int .i64 x0), .ro 3 x1 x2 x3, .ow 99 1840 [] 0 x4 none, .sc (.int .i64 x5)] [(1840, .vec false 99 x6 x7)])) v0 v1 v2 v3 v4 v5 v6 v7 v8) (by funext v0 v1 v2 v3 v4 v5 v6 v7 v8; exact JkU f k n v0 v1 v2 v3 v4 v5 v6 v7 v8))
def JcD (f : Nat) : List PV -> List (Nat × Ent) -> Kont -> Option Res
 | [.sc (.int .i64 v0), .ro 3 v1 v2 v3, .ow 99 1840 [] 0 v4 none, .sc (.int .i64 v5),
 PV.sc
  (Value.int IntKind.i64
   v6)], [(1840,
  Ent.vec false 99 v7
   v8)], k => XS f (fun x0 x1 x2 x3 x4 x5 x6 x7 => k (Ex.exit
 0) (Jd ZW N54 [.sc (.int .i64 x0), .ro 3 x1 x2 x3, .ow 99 1840 [] 0 x4 none,
 .sc (.int .i64 x5)] [(1840, .vec false 99 x6 x7)])) f v0 v1 v2 v3 v4 v5 v6 v7 v8
 | _, _, _ => none
theorem Jw0 (f : Nat) : Je JdV Jg1 = [] := by kernel_rfl
theorem JC6 (f : Nat) : (Item.l JdV YQ N54 (JcD f)).Ok tau Try.prog 0 := JI Jq Joe Jr (x := Jg1) (nm2 := ZW) (Js _ _ (by rw [Jw0 f]; intro q hq; cases hq)) fun vs hp k res hr => by
 unfold JcD at hr
 split at hr
 · exact ⟨f, 0, (JkU f _ f _ _ _ _ _ _ _ _ _ ).trans hr⟩
 · cases hr
def g54 (f : Nat) (n : Int) (ns_z ns_f : Bool) (ns : List PV) (k : Res -> Option Res) : Option Res := XS f (fun x0_0 x1_0 x2_0 x3_0 x4_0 x5_0 x6_0 x7_0 => bif decide (x0_0 > 0) then bif Jl (x4_0 + 1) 32 && true then bif decide (zi x3_0.length > 0) then bif decide (0 < zi x3_0.length) && PV.isInt IntKind.i64 (x3_0.getD 0 PV.top) && true then bif okW 3 then bif IntKind.i64.wrap ((x3_0.getD 0 PV.top).int.tdiv 3) % 3 == 0 then bif decide (x5_0 <= 115) then bif Jl (x4_0 + 1 + 1) 32 && true then k (Res.mk (.ro 99 (Ent.vec false 99 (x6_0 && false && false) (List.take (x4_0 + 1) (List.take x4_0 x7_0 ++ [.st 99 [.sc (.int .i64 1), .sc (.int .i64 x0_0), .sc (.string (ByteArray.mk #[]))]]) ++ [.st 99 [.sc (.int .i64 2), .sc (.int .i64 0), .sc (.string (ByteArray.mk (Array.mk (u8l [122]))))]])).nil false (List.take (x4_0 + 1 + 1) (List.take (x4_0 + 1) (List.take x4_0 x7_0 ++ [.st 99 [.sc (.int .i64 1), .sc (.int .i64 x0_0), .sc (.string (ByteArray.mk #[]))]]) ++ [.st 99 [.sc (.int .i64 2), .sc (.int .i64 0), .sc (.string (ByteArray.mk (Array.mk (u8l [122]))))]]))) [] []) else none else k (Res.mk (.ro 99 (Ent.vec false 99 (x6_0 && false) (List.take x4_0 x7_0 ++ [.st 99 [.sc (.int .i64 1), .sc (.int .i64 x0_0), .sc (.string (ByteArray.mk #[]))]])).nil false (List.take (x4_0 + 1) (List.take x4_0 x7_0 ++ [.st 99 [.sc (.int .i64 1), .sc (.int .i64 x0_0), .sc (.string (ByteArray.mk #[]))]]))) [] []) else k (Res.mk (.ro 99 (Ent.vec false 99 (x6_0 && false) (List.take x4_0 x7_0 ++ [.st 99 [.sc (.int .i64 1), .sc (.int .i64 x0_0), .sc (.string (ByteArray.mk #[]))]])).nil false (List.take (x4_0 + 1) (List.take x4_0 x7_0 ++ [.st 99 [.sc (.int .i64 1), .sc (.int .i64 x0_0), .sc (.string (ByteArray.mk #[]))]]))) [] []) else none else none else k (Res.mk (.ro 99 (Ent.vec false 99 (x6_0 && false) (List.take x4_0 x7_0 ++ [.st 99 [.sc (.int .i64 1), .sc (.int .i64 x0_0), .sc (.string (ByteArray.mk #[]))]])).nil false (List.take (x4_0 + 1) (List.take x4_0 x7_0 ++ [.st 99 [.sc (.int .i64 1), .sc (.int .i64 x0_0), .sc (.string (ByteArray.mk #[]))]]))) [] []) else none else bif decide (zi x3_0.length > 0) then bif decide (0 < zi x3_0.length) && PV.isInt IntKind.i64 (x3_0.getD 0 PV.top) && true then bif okW 3 then bif IntKind.i64.wrap ((x3_0.getD 0 PV.top).int.tdiv 3) % 3 == 0 then bif decide (x5_0 <= 115) then bif Jl (x4_0 + 1) 32 && true then k (Res.mk (.ro 99 (Ent.vec false 99 (x6_0 && false) (List.take x4_0 x7_0 ++ [.st 99 [.sc (.int .i64 2), .sc (.int .i64 0), .sc (.string (ByteArray.mk (Array.mk (u8l [122]))))]])).nil false (List.take (x4_0 + 1) (List.take x4_0 x7_0 ++ [.st 99 [.sc (.int .i64 2), .sc (.int .i64 0), .sc (.string (ByteArray.mk (Array.mk (u8l [122]))))]]))) [] []) else none else k (Res.mk (.ro 99 (Ent.vec false 99 x6_0 x7_0).nil false (List.take x4_0 x7_0)) [] []) else k (Res.mk (.ro 99 (Ent.vec false 99 x6_0 x7_0).nil false (List.take x4_0 x7_0)) [] []) else none else none else k (Res.mk (.ro 99 (Ent.vec false 99 x6_0 x7_0).nil false (List.take x4_0 x7_0)) [] [])) f n ns_z ns_f ns (0) n (0) true ([])
theorem e54 (f : Nat) (n : Int) (ns_z ns_f : Bool) (ns : List PV) (k : Res -> Option Res) : JN tau F54 Try.f54 (Try.f54.body.get!) (Jro (JcD f)) [.ro] 0 [.sc (.int .i64 n), .ro 3 ns_z ns_f ns] [] k = g54 f n ns_z ns_f ns k := by kernel_rfl
theorem JGm (f : Nat) : Je (Try.f54.body.get!) (Jro (JcD f)) = [.l JdV YQ N54 (JcD f)] := by kernel_rfl
theorem JGn (f : Nat) : ∀ q ∈ Je (Try.f54.body.get!) (Jro (JcD f)), q.Ok tau Try.prog 0 := by
 rw [JGm f]; simp only [List.forall_mem_cons, List.not_mem_nil, false_implies, implies_true, and_true]; exact JC6 f
theorem JC7 : Try.prog.funcs[54]? = some Try.f54 := by kernel_rfl
theorem JC8 : Try.f54.body = some (Try.f54.body.get!) := by kernel_rfl
theorem JGo : Enters Try.prog 54 := enters_of JC7 (by kernel_rfl) JC8
-- FN
def kpP (k : Int) : PV := .st 99 [.sc (.int .i64 1), .sc (.int .i64 k), .sc (.string (ByteArray.mk #[]))]
def ctP (k : Int) : PV := .st 99 [.sc (.int .i64 3), .sc (.int .i64 k), .sc (.string (ByteArray.mk #[]))]
def ptP (s : ByteArray) : PV := .st 99 [.sc (.int .i64 2), .sc (.int .i64 0), .sc (.string s)]
def abc : ByteArray := ByteArray.mk (Array.mk [97, 98, 99, 100, 101, 102, 103, 104, 105, 106])
def zed : ByteArray := ByteArray.mk (Array.mk [122])
def JcY (k : Int) : ByteArray := abc.extract 0 k.toNat
theorem JdW {k : Int} (h : 0 <= k) (h2 : k <= 10) : ((JcY k).size : Int) = k := by
 have : (JcY k).size = min k.toNat 10 - 0 := by simp [JcY, abc, ByteArray.size_extract]; rfl
 omega
def mkK (x n : Int) : Int := 1 + IntKind.i64.wrap (x.tdiv 7) % J6 n 9
def mkS (x : Int) : Int := 1 + IntKind.i64.wrap (x.tdiv 7) % 5
theorem JkV {n : Int} (h : 0 < n) : 0 < J6 n 9 /\ J6 n 9 <= n /\ J6 n 9 <= 9 := by unfold J6; split <;> omega
def mkE (c : Bool) (n out : Int) : List PV := (bif decide (n > 0) then [kpP n] else []) ++ (bif c && decide (out <= 115) then [ptP zed] else [])
def X6 (c : Bool) : Nat -> Int -> Int -> List PV -> List PV
 | 0, n, out, _ => mkE c n out
 | _ + 1, n, out, [] => mkE c n out
 | b + 1, n, out, p :: ps =>
  bif decide (n > 0) then
   (bif p.int % 4 == 0 || p.int % 4 == 1 then kpP (mkK p.int n) :: X6 c b (n - mkK p.int n) out ps
   else bif p.int % 4 == 2 then ctP (mkK p.int n) :: X6 c b (n - mkK p.int n) (out - mkK p.int n) ps
   else bif decide (out + mkS p.int <= 120) then ptP (JcY (mkS p.int)) :: X6 c b n (out + mkS p.int) ps
   else X6 c b n out ps)
  else mkE c n out
def mkC (ns : List PV) : Bool := decide (ns.length > 0) && IntKind.i64.wrap ((ns.getD 0 .top).int.tdiv 3) % 3 == 0
structure MN where
 (n : Int) (ns : List PV)
def ZX : MN -> List PV := hid fun x => X6 (mkC x.ns) 12 x.n x.n x.ns
theorem Jg2 (x : MN) : ZX x = X6 (mkC x.ns) 12 x.n x.n x.ns := by rw [ZX, hid_eq]
def JcE : Int -> List PV -> Bool := hid fun n ns => decide (0 <= n) && (decide (n <= 120) && (Jh .i64 ns && decide (ns.length <= 9223372036854775807)))
theorem JcF {n : Int} {ns : List PV} : JcE n ns = true ↔ 0 <= n /\ n <= 120 /\ Jh .i64 ns = true /\ ns.length <= 9223372036854775807 := by
 rw [JcE, hid_eq]; simp only [Bool.and_eq_true, decide_eq_true_eq]
def inC (c : CV) : Int := bif c.kd == 2 then 0 else c.n
def Jw1 (c : CV) : Int := bif c.kd == 1 then c.n else c.s.size
def inL : List PV -> Int
 | [] => 0
 | p :: ps => inC (cv p) + inL ps
def outL : List PV -> Int
 | [] => 0
 | p :: ps => Jw1 (cv p) + outL ps
structure MkOk (n done b : Int) (l : List PV) : Prop where
 cp : ∀ p ∈ l, isCp p = true
 ck : ∀ p ∈ l, ckC (cv p) = 0
 sz : ∀ p ∈ l, (cv p).s.size <= 10
 len : (l.length : Int) <= b
 inn : inL l = n
 out : done + outL l <= 120
 out0 : 0 <= outL l
theorem GY {n n' done done' b : Int} {p : PV} {l : List PV} (h : MkOk n' done' b l) (h1 : isCp p = true) (h2 : ckC (cv p) = 0) (h3 : (cv p).s.size <= 10) (h4 : inC (cv p) + n' = n) (h5 : done + Jw1 (cv p) = done') (h6 : 0 <= Jw1 (cv p)) : MkOk n done (b + 1) (p :: l) where
 cp := fun q hq => (List.mem_cons.1 hq).elim (fun e => e ▸ h1) (fun m => h.cp q m)
 ck := fun q hq => (List.mem_cons.1 hq).elim (fun e => e ▸ h2) (fun m => h.ck q m)
 sz := fun q hq => (List.mem_cons.1 hq).elim (fun e => e ▸ h3) (fun m => h.sz q m)
 len := by have := h.len; simp only [List.length_cons]; omega
 inn := by have := h.inn; simp only [inL]; omega
 out := by have := h.out; simp only [outL]; omega
 out0 := by have := h.out0; simp only [outL]; omega
theorem ZY {n done b b' : Int} {l : List PV} (h : MkOk n done b l) (hb : b <= b') : MkOk n done b' l := { h with len := by have := h.len; omega }
theorem Jfs {done : Int} (h : done <= 120) : MkOk 0 done 0 [] where
 cp := fun q hq => by cases hq
 ck := fun q hq => by cases hq
 sz := fun q hq => by cases hq
 len := by simp
 inn := rfl
 out := by simp only [outL]; omega
 out0 := by simp [outL]
theorem Jt5 {k : Int} (h : 1 <= k) (h2 : k <= 120) : ckC (cv (kpP k)) = 0 := by
 have e : cv (kpP k) = ⟨1, k, ByteArray.mk #[]⟩ := rfl
 rw [e, Jaq]; unfold JgA
 have hs : (ByteArray.mk #[]).size = 0 := rfl
 simp only [hs]
 rw [show (decide (k < 1)) = false from decide_eq_false (by omega), show (decide (k > 120)) = false from decide_eq_false (by omega)]; rfl
theorem JC9 {k : Int} (h : 1 <= k) (h2 : k <= 120) : ckC (cv (ctP k)) = 0 := by
 have e : cv (ctP k) = ⟨3, k, ByteArray.mk #[]⟩ := rfl
 rw [e, Jaq]; unfold JgA
 have hs : (ByteArray.mk #[]).size = 0 := rfl
 simp only [hs]
 rw [show (decide (k < 1)) = false from decide_eq_false (by omega), show (decide (k > 120)) = false from decide_eq_false (by omega)]; rfl
theorem Jt6 {s : ByteArray} (h : 1 <= s.size) (h2 : s.size <= 120) : ckC (cv (ptP s)) = 0 := by
 have e : cv (ptP s) = ⟨2, 0, s⟩ := rfl
 rw [e, Jaq]; unfold JgA
 rw [show (s.size == 0) = false from beq_false_of_ne (by omega)]
 refine (Jv rfl).trans ((Jb rfl).trans ((Jv rfl).trans (Jv (decide_eq_false (by show ¬ ((s.size : Int) > 120); omega)))))
theorem Ji0 (c : Bool) {n out : Int} (h : 0 <= n) (h2 : n <= out) (h3 : out <= 120) : MkOk n (out - n) 2 (mkE c n out) := by
 have hz : ∀ {d : Int}, d + 1 <= 120 -> MkOk 0 d 1 [ptP zed] := fun {d} hd =>
  GY (n' := 0) (done' := d + 1) (Jfs hd) rfl (Jt6 (by decide) (by decide)) (by show zed.size <= 10; decide) rfl rfl (by decide)
 unfold mkE
 cases hn : decide (n > 0) with
 | true =>
  have hn := of_decide_eq_true hn
  rw [cond_true, List.singleton_append]
  have e : ∀ {b : Int} {l : List PV}, MkOk 0 out b l -> MkOk n (out - n) (b + 1) (kpP n :: l) := fun hl =>
   GY hl rfl (Jt5 (by omega) (by omega)) (by show (0 : Nat) <= 10; omega) (by show n + 0 = n; omega) (by show out - n + n = out; omega) (by show 0 <= n; omega)
  cases hc : (c && decide (out <= 115)) with
  | true => simp only [Bool.and_eq_true, decide_eq_true_eq] at hc; rw [cond_true]; exact e (hz (by omega))
  | false => rw [cond_false]; exact ZY (e (Jfs h3)) (by omega)
 | false =>
  have hn := of_decide_eq_false hn
  have : n = 0 := by omega
  subst this
  rw [cond_false, List.nil_append, Int.sub_zero]
  cases hc : (c && decide (out <= 115)) with
  | true => simp only [Bool.and_eq_true, decide_eq_true_eq] at hc; rw [cond_true]; exact ZY (hz (by omega)) (by omega)
  | false => rw [cond_false]; exact ZY (Jfs h3) (by omega)
theorem Jof {x n : Int} (h : 0 < n) : 1 <= mkK x n /\ mkK x n <= n /\ mkK x n <= 9 := by
 obtain ⟨m1, m2, m3⟩ := JkV h
 have h1 := Int.emod_nonneg (IntKind.i64.wrap (x.tdiv 7)) (show J6 n 9 ≠ 0 by omega)
 have h2 := Int.emod_lt_of_pos (IntKind.i64.wrap (x.tdiv 7)) m1
 unfold mkK; omega
theorem Jog (x : Int) : 1 <= mkS x /\ mkS x <= 5 := by
 have h1 := Int.emod_nonneg (IntKind.i64.wrap (x.tdiv 7)) (show (5 : Int) ≠ 0 by omega)
 have h2 := Int.emod_lt_of_pos (IntKind.i64.wrap (x.tdiv 7)) (show (0 : Int) < 5 by omega)
 unfold mkS; omega
theorem GZ (c : Bool) : ∀ (b : Nat) (n out : Int) (ns : List PV), 0 <= n -> n <= out -> out <= 120 -> MkOk n (out - n) (b + 2) (X6 c b n out ns)
 | 0, n, out, _, h, h2, h3 => ZY (Ji0 c h h2 h3) (by omega)
 | b + 1, n, out, [], h, h2, h3 => ZY (Ji0 c h h2 h3) (by omega)
 | b + 1, n, out, p :: ps, h, h2, h3 => by
  simp only [X6]
  cases hn : decide (n > 0) with
  | false => rw [cond_false]; exact ZY (Ji0 c h h2 h3) (by omega)
  | true =>
   have hn := of_decide_eq_true hn
   obtain ⟨k1, k2, k3⟩ := Jof (x := p.int) hn
   obtain ⟨s1, s2⟩ := Jog p.int
   rw [cond_true]
   cases hc : (p.int % 4 == 0 || p.int % 4 == 1) with
   | true =>
    rw [cond_true]
    refine ZY (GY (GZ c b (n - mkK p.int n) out ps (by omega) (by omega) h3) rfl (Jt5 k1 (by omega)) (by show (0 : Nat) <= 10; omega) (by show mkK p.int n + _ = _; omega) (by show out - n + mkK p.int n = _; omega) (by show 0 <= mkK p.int n; omega)) (by omega)
   | false =>
    rw [cond_false]
    cases hc2 : (p.int % 4 == 2) with
    | true =>
     rw [cond_true]
     refine ZY (GY (GZ c b (n - mkK p.int n) (out - mkK p.int n) ps (by omega) (by omega) (by omega)) rfl (JC9 k1 (by omega)) (by show (0 : Nat) <= 10; omega) (by show mkK p.int n + _ = _; omega) (by show out - n + (0 : Int) = _; omega) (by show 0 <= (0 : Int); omega)) (by omega)
    | false =>
     rw [cond_false]
     cases hc3 : decide (out + mkS p.int <= 120) with
     | false => rw [cond_false]; exact ZY (GZ c b n out ps h h2 h3) (by omega)
     | true =>
      have hc3 := of_decide_eq_true hc3
      have hz := JdW (k := mkS p.int) (by omega) (by omega)
      rw [cond_true]
      refine ZY (GY (GZ c b n (out + mkS p.int) ps (by omega) (by omega) hc3) rfl (Jt6 (by omega) (by omega)) (by show (JcY (mkS p.int)).size <= 10; omega) (by show (0 : Int) + n = n; omega) (by show out - n + ((JcY (mkS p.int)).size : Int) = _; omega) (by show 0 <= ((JcY (mkS p.int)).size : Int); omega)) (by omega)
theorem Joh {n : Int} (ns : List PV) (h : 0 <= n) (h2 : n <= 120) : MkOk n 0 14 (ZX ⟨n, ns⟩) := by
 rw [Jg2]
 have := GZ (mkC ns) 12 n n ns h (by omega) h2
 rwa [Int.sub_self] at this
theorem Joi : ∀ {l : List PV}, (∀ p ∈ l, ckC (cv p) = 0) -> ckL l = 0
 | [], _ => rfl
 | p :: r, h => by
  simp only [ckL]
  rw [h p List.mem_cons_self]
  exact Joi fun q hq => h q (List.mem_cons_of_mem _ hq)
theorem Jw2 {n d : Int} {l : List PV} (h : MkOk n d 14 l) : ckO l = 0 := by
 rw [Jcn]; unfold Jlw
 have := h.len
 exact (Jv (decide_eq_false (by simp only [zi]; omega))).trans (Joi h.ck)
theorem Jw3 {n d : Int} {l : List PV} (h : MkOk n d 14 l) : cBy l = true := by
 have := h.len
 exact Vc.2 ⟨List.all_eq_true.2 h.cp, fun p hp => by have := h.sz p hp; omega, by omega⟩
theorem Jw4 {n d : Int} {l : List PV} (h : MkOk n d 14 l) : (opB l).length <= 400 := by
 have h1 := Jco 10 l h.sz
 have h2 := h.len
 rw [Jat, Jlx, List.length_append]
 simp only [List.length_cons, List.length_nil]; omega
-- FN law4.Make
theorem ZZ {l : List PV} (h : Jh .i64 l = true) {i : Nat} (hi : i < l.length) : (l.getD i .top).isInt .i64 = true := by
 induction l generalizing i with
 | nil => simp at hi
 | cons p ps ih =>
  have e : Jh .i64 (p :: ps) = (p.isInt .i64 && Jh .i64 ps) := rfl
  rw [e, Bool.and_eq_true] at h
  cases i with
  | zero => exact h.1
  | succ i => simpa using ih h.2 (by simpa using hi)
theorem isE (L : List PV) (x : PV) : (L ++ [x]).isEmpty = false := by cases L <;> rfl
theorem Jg3 (L : List PV) (x y : PV) : (L ++ [x, y]).isEmpty = false := by cases L <;> rfl
theorem Joj (c z fl : Bool) (ns : List PV) (hns : Jh .i64 ns = true) (h2 : ns.length <= 9223372036854775807) (f : Nat) (k0 : Int -> Bool -> Bool -> List PV -> Nat -> Int -> Bool -> List PV -> Option Res) (R : List PV -> Option Res)
  (hk : ∀ (n out : Int) (L : List PV), 0 <= n -> n <= out -> out <= 120 -> L.length <= 12 -> k0 n z fl ns L.length out L.isEmpty L = R (L ++ mkE c n out)) :
  ∀ (b i m : Nat) (n out : Int) (L : List PV), i + b = 12 -> b < m -> 0 <= n -> n <= out -> out <= 120 -> L.length <= i ->
   XS f k0 m n z fl ns L.length out (i : Int) L.isEmpty L = R (L ++ X6 c b n out (ns.drop i))
 | 0, i, m + 1, n, out, L, hi, hm, h3, h4, h5, hL => by
   have e : X6 c 0 n out (ns.drop i) = mkE c n out := rfl
   rw [e]
   simp only [XS, Vi]
   by_cases hc : i < ns.length
   · refine (Jb (by simp [zi]; omega)).trans ((Jv (by simp; omega)).trans (hk n out L h3 h4 h5 (by omega)))
   · exact (Jv (by simp [zi]; omega)).trans (hk n out L h3 h4 h5 (by omega))
 | b + 1, i, m + 1, n, out, L, hi, hm, h3, h4, h5, hL => by
   by_cases hc : ¬ i < ns.length
   · rw [List.drop_of_length_le (by omega)]
     simp only [XS, Vi]
     exact (Jv (by simp [zi]; omega)).trans (hk n out L h3 h4 h5 (by omega))
   have hc := Decidable.not_not.1 hc
   rw [Q8 hc]
   have g1 : ((i : Int)).toNat = i := by omega
   have w1 : IntKind.i64.wrap ((i : Int) + 1) = ((i + 1 : Nat) : Int) := by rw [wrap_i64 (by omega) (by omega)]; omega
   have hin := ZZ hns hc
   have tk : List.take L.length L = L := List.take_length
   have e1 : ∀ x : PV, L.length + 1 = (L ++ [x]).length := fun x => by simp
   have e2 : ∀ x : PV, (L.isEmpty && false) = (L ++ [x]).isEmpty := fun x => by simp
   simp only [XS, Vi, g1, w1, hin, tk]
   generalize ns.getD i .top = p at *
   refine (Jb (by simp [zi]; omega)).trans ((Jb (by simp; omega)).trans ?_)
   have hrd : (decide (0 <= (i : Int)) && decide ((i : Int) < zi ns.length) && true && true) = true := by simp [zi]; omega
   have hro : (Jl (L.length + 1) 32 && true) = true := by simp [Jl]; omega
   by_cases hn : ¬ n > 0
   · refine (Jv (by simp; omega)).trans ((hk n out L h3 h4 h5 (by omega)).trans ?_)
     have : X6 c (b + 1) n out (p :: ns.drop (i + 1)) = mkE c n out := by simp only [X6]; exact Jv (by simp; omega)
     rw [this]
   have hn := Decidable.not_not.1 hn
   obtain ⟨k1, k2, k3⟩ := Jof (x := p.int) hn
   obtain ⟨m1, m2, m3⟩ := JkV hn
   obtain ⟨s1, s2⟩ := Jog p.int
   have wK : IntKind.i64.wrap (1 + IntKind.i64.wrap (p.int.tdiv 7) % J6 n 9) = mkK p.int n := wrap_i64 (by show _ <= mkK p.int n; omega) (by show mkK p.int n < _; omega)
   have wS : IntKind.i64.wrap (1 + IntKind.i64.wrap (p.int.tdiv 7) % 5) = mkS p.int := wrap_i64 (by show _ <= mkS p.int; omega) (by show mkS p.int < _; omega)
   have wN : IntKind.i64.wrap (n - mkK p.int n) = n - mkK p.int n := wrap_i64 (by omega) (by omega)
   have wO : IntKind.i64.wrap (out - mkK p.int n) = out - mkK p.int n := wrap_i64 (by omega) (by omega)
   have hab : (ByteArray.mk (Array.mk (u8l [97, 98, 99, 100, 101, 102, 103, 104, 105, 106]))).extract 0 (mkS p.int).toNat = JcY (mkS p.int) := rfl
   have hsz : zi (JcY (mkS p.int)).size = mkS p.int := JdW (by omega) (by omega)
   have wP : IntKind.i64.wrap (out + mkS p.int) = out + mkS p.int := wrap_i64 (by omega) (by omega)
   simp only [wK, wS, wN, wO, hab, hsz, wP]
   refine (Jb (by simpa using hn)).trans ((Jb hrd).trans ((Jb (by rw [Ze, Bool.and_eq_true, decide_eq_true_eq, decide_eq_true_eq]; omega)).trans ((Jb hrd).trans ((Jb (by rw [Ze]; rfl)).trans ?_))))
   have hmk : X6 c (b + 1) n out (p :: ns.drop (i + 1)) = (bif p.int % 4 == 0 || p.int % 4 == 1 then kpP (mkK p.int n) :: X6 c b (n - mkK p.int n) out (ns.drop (i + 1))
     else bif p.int % 4 == 2 then ctP (mkK p.int n) :: X6 c b (n - mkK p.int n) (out - mkK p.int n) (ns.drop (i + 1))
     else bif decide (out + mkS p.int <= 120) then ptP (JcY (mkS p.int)) :: X6 c b n (out + mkS p.int) (ns.drop (i + 1))
     else X6 c b n out (ns.drop (i + 1))) := by simp only [X6]; exact Jb (by simpa using hn)
   have A : ∀ (x : PV) (n' out' : Int), 0 <= n' -> n' <= out' -> out' <= 120 -> XS f k0 m n' z fl ns (L.length + 1) out' ((i + 1 : Nat) : Int) (L.isEmpty && false) (L ++ [x]) = R (L ++ x :: X6 c b n' out' (ns.drop (i + 1))) := fun x n' out' a1 a2 a3 => by
     rw [e1 x, e2 x, Joj c z fl ns hns h2 f k0 R hk b (i + 1) m n' out' (L ++ [x]) (by omega) (by omega) a1 a2 a3 (by simp; omega), List.append_assoc]; rfl
   have B : XS f k0 m n z fl ns L.length out ((i + 1 : Nat) : Int) L.isEmpty L = R (L ++ X6 c b n out (ns.drop (i + 1))) :=
     Joj c z fl ns hns h2 f k0 R hk b (i + 1) m n out L (by omega) (by omega) h3 h4 h5 (by omega)
   rw [hmk]
   have q0 := Int.emod_nonneg p.int (show (4 : Int) ≠ 0 by omega)
   have q1 := Int.emod_lt_of_pos p.int (show (0 : Int) < 4 by omega)
   have : p.int % 4 = 0 ∨ p.int % 4 = 1 ∨ p.int % 4 = 2 ∨ p.int % 4 = 3 := by omega
   rcases this with hq | hq | hq | hq
   · rw [hq]
     exact (Jb rfl).trans ((Jb rfl).trans ((Jb hro).trans (A _ _ _ (by omega) (by omega) h5)))
   · rw [hq]
     exact (Jv rfl).trans ((Jb rfl).trans ((Jb hro).trans (A _ _ _ (by omega) (by omega) h5)))
   · rw [hq]
     exact (Jv rfl).trans ((Jv rfl).trans ((Jb rfl).trans ((Jb hro).trans (A _ _ _ (by omega) (by omega) (by omega)))))
   · rw [hq]
     refine (Jv rfl).trans ((Jv rfl).trans ((Jv rfl).trans ((Jb rfl).trans ((Jb hrd).trans ((Jb (by rw [Ze]; rfl)).trans ((Jb (by simp; omega)).trans ?_))))))
     by_cases hz : out + mkS p.int <= 120
     · refine (Jb (decide_eq_true hz)).trans ((Jb hro).trans ((A _ _ _ (by omega) (by omega) hz).trans ?_))
       rw [decide_eq_true hz]; rfl
     · refine (Jv (decide_eq_false hz)).trans (B.trans ?_)
       rw [decide_eq_false hz]; rfl
def Ji1 : List PV -> List Ent -> (Res -> Option Res) -> Option Res
 | [.sc (.int .i64 n), .ro 3 z f ns], [], k => bif JcE n ns then k ⟨.ro 99 (ZX ⟨n, ns⟩).isEmpty false (ZX ⟨n, ns⟩), [], []⟩ else none
 | _, _, _ => none
def JDa : Sig := { own := [], run := Ji1 }
theorem Jw5 (n : Int) (z f : Bool) (ns : List PV) (h : JcE n ns = true) (k : Res -> Option Res) : g54 20 n z f ns k = k ⟨.ro 99 (ZX ⟨n, ns⟩).isEmpty false (ZX ⟨n, ns⟩), [], []⟩ := by
 obtain ⟨h1, h2, h3, h4⟩ := JcF.1 h
 unfold g54
 rw [Jg2]
 refine (Joj (mkC ns) z f ns h3 h4 20 _ (fun M => k ⟨.ro 99 M.isEmpty false M, [], []⟩) ?_ 12 0 20 n n [] rfl (by omega) h1 (by omega) h2 (by simp)).trans ?_
 · intro n' out L a1 a2 a3 a4
   have tk : List.take L.length L = L := List.take_length
   have tk1 : ∀ x : PV, List.take (L.length + 1) (L ++ [x]) = L ++ [x] := fun x => List.take_of_length_le (by simp)
   have tk2 : ∀ x y : PV, List.take (L.length + 1 + 1) (L ++ [x] ++ [y]) = L ++ [x] ++ [y] := fun x y => List.take_of_length_le (by simp)
   have hro : (Jl (L.length + 1) 32 && true) = true := by simp [Jl]; omega
   have hro2 : (Jl (L.length + 1 + 1) 32 && true) = true := by simp [Jl]; omega
   have em : ∀ x : PV, (L.isEmpty && false) = (L ++ [x]).isEmpty := fun x => by simp
   have hz : PV.st 99 [PV.sc (Value.int IntKind.i64 2), PV.sc (Value.int IntKind.i64 0), PV.sc (Value.string (ByteArray.mk (Array.mk (u8l [122]))))] = ptP zed := rfl
   have hk' : PV.st 99 [PV.sc (Value.int IntKind.i64 1), PV.sc (Value.int IntKind.i64 n'), PV.sc (Value.string (ByteArray.mk #[]))] = kpP n' := rfl
   have okw : okW 3 = true := by rw [Ze]; rfl
   simp only [tk, tk1, tk2, hz, hk', Ent.nil, okw, hro, hro2]
   unfold mkE mkC
   cases hn : decide (n' > 0) with
   | true =>
    refine (Jb rfl).trans ((Jb rfl).trans ?_)
    by_cases hl : ns.length > 0
    · have hl' : decide (zi ns.length > 0) = true := by simp [zi]; omega
      have hin := ZZ h3 hl
      rw [hl', decide_eq_true hl]
      refine (Jb rfl).trans ((Jb (by rw [hin]; simp [zi, hl])).trans ((Jb rfl).trans ?_))
      cases hc : (IntKind.i64.wrap ((ns.getD 0 PV.top).int.tdiv 3) % 3 == 0) with
      | false => refine (Jv rfl).trans ?_; simp only [List.append_assoc, List.singleton_append, List.append_nil, Bool.and_false, Bool.and_true, Bool.false_and, Bool.true_and, cond_true, cond_false, isE, Jg3, List.cons_append, List.nil_append]
      | true =>
       refine (Jb rfl).trans ?_
       cases ho : decide (out <= 115) with
       | false => refine (Jv rfl).trans ?_; simp only [List.append_assoc, List.singleton_append, List.append_nil, Bool.and_false, Bool.and_true, Bool.false_and, Bool.true_and, cond_true, cond_false, isE, Jg3, List.cons_append, List.nil_append]
       | true => refine (Jb rfl).trans ((Jb rfl).trans ?_); simp [isE, Jg3]
    · have hl' : decide (zi ns.length > 0) = false := decide_eq_false (by simp only [zi]; omega)
      rw [hl', decide_eq_false hl]
      refine (Jv rfl).trans ?_; simp only [List.append_assoc, List.singleton_append, List.append_nil, Bool.and_false, Bool.and_true, Bool.false_and, Bool.true_and, cond_true, cond_false, isE, Jg3, List.cons_append, List.nil_append]
   | false =>
    refine (Jv rfl).trans ?_
    by_cases hl : ns.length > 0
    · have hl' : decide (zi ns.length > 0) = true := by simp [zi]; omega
      have hin := ZZ h3 hl
      rw [hl', decide_eq_true hl]
      refine (Jb rfl).trans ((Jb (by rw [hin]; simp [zi, hl])).trans ((Jb rfl).trans ?_))
      cases hc : (IntKind.i64.wrap ((ns.getD 0 PV.top).int.tdiv 3) % 3 == 0) with
      | false => refine (Jv rfl).trans ?_; simp only [List.append_assoc, List.singleton_append, List.append_nil, Bool.and_false, Bool.and_true, Bool.false_and, Bool.true_and, cond_true, cond_false, isE, Jg3, List.cons_append, List.nil_append]
      | true =>
       refine (Jb rfl).trans ?_
       cases ho : decide (out <= 115) with
       | false => refine (Jv rfl).trans ?_; simp only [List.append_assoc, List.singleton_append, List.append_nil, Bool.and_false, Bool.and_true, Bool.false_and, Bool.true_and, cond_true, cond_false, isE, Jg3, List.cons_append, List.nil_append]
       | true => refine (Jb rfl).trans ((Jb rfl).trans ?_); simp [isE, Jg3]
    · have hl' : decide (zi ns.length > 0) = false := decide_eq_false (by simp only [zi]; omega)
      rw [hl', decide_eq_false hl]
      refine (Jv rfl).trans ?_; simp only [List.append_assoc, List.singleton_append, List.append_nil, Bool.and_false, Bool.and_true, Bool.false_and, Bool.true_and, cond_true, cond_false, isE, Jg3, List.cons_append, List.nil_append]
 · simp
theorem JDb : Jf tau Try.prog 54 JDa := Jf.mk' fun xs es k res hl hr => by
 change Ji1 xs es k = some res at hr
 unfold Ji1 at hr
 split at hr
 · rename_i n z f ns
   obtain ⟨hc, hr⟩ := JG hr
   exact Qj Jq Joe Jr JC7 JC8 (Jro (JcD 20)) [.ro] 0 0 (JGn 20) hl rfl ((e54 20 n z f ns k).trans ((Jw5 n z f ns hc k).trans hr))
 · cases hr
def JDc : Fns := F0
theorem Jrq : Ju tau Try.prog JDc := JB
def JkW : An := (.seq .leaf (.seq .leaf (.seq (.seq .leaf (.cond .leaf .leaf)) (.seq .leaf .leaf))))
def Jrr (f : Nat) (at1 n : Int) (k : Res -> Option Res) : Option Res := bif !decide (n = 0) && true then bif decide (at1.tmod n < 0) then k (Res.mk (.sc (.int .i64 (IntKind.i64.wrap (at1.tmod n + n)))) [] []) else k (Res.mk (.sc (.int .i64 (at1.tmod n))) [] []) else none
theorem JGp (f : Nat) (at1 n : Int) (k : Res -> Option Res) : JN tau JDc Try.f100 (Try.f100.body.get!) JkW [.ro] 0 [.sc (.int .i64 at1), .sc (.int .i64 n)] [] k = Jrr f at1 n k := by kernel_rfl
theorem JDd (f : Nat) : Je (Try.f100.body.get!) JkW = [] := by kernel_rfl
theorem JDe (f : Nat) : ∀ q ∈ Je (Try.f100.body.get!) JkW, q.Ok tau Try.prog 0 := by
 rw [JDd f]; intro q hq; cases hq
theorem Jt7 : Try.prog.funcs[100]? = some Try.f100 := by kernel_rfl
theorem Jt8 : Try.f100.body = some (Try.f100.body.get!) := by kernel_rfl
theorem JDf : Enters Try.prog 100 := enters_of Jt7 (by kernel_rfl) Jt8
def Ji2 : List PV -> List Ent -> (Res -> Option Res) -> Option Res
 | [.sc (.int .i64 at1), .sc (.int .i64 n)], [], k => Jrr 0 at1 n k
 | _, _, _ => none
def JGq : Sig := { own := [], run := Ji2 }
theorem JDg : Jf tau Try.prog 100 JGq := JP Jq Jrq Jr Jt7 Jt8 JkW [.ro] 0 [] Ji2 (JDe 0) fun xs es k res hr => by
 unfold Ji2 at hr
 split at hr
 · exact ⟨rfl, 0, (JGp 0 _ _  _).trans hr⟩
 · cases hr
-- FN law8.within
def Jft : List PV -> List Ent -> (Res -> Option Res) -> Option Res
 | [.sc (.int .i64 a), .sc (.int .i64 n)], [], k => bif okW n then k ⟨.sc (.int .i64 (a % n)), [], []⟩ else none
 | _, _, _ => none
def Jt9 : Sig := { own := [], run := Jft }
theorem Jrs (a n : Int) (h : 0 < n) (h2 : n < 1000000000000) (k : Res -> Option Res) : Jrr 0 a n k = k ⟨.sc (.int .i64 (a % n)), [], []⟩ := by
 have hn : (n == 0) = false := by simp; omega
 have e := Int.tmod_eq_emod (a := a) (b := n)
 have e0 := Int.emod_nonneg a (show n ≠ 0 by omega)
 have e1 := Int.emod_lt_of_pos a h
 have hna : (n.natAbs : Int) = n := by omega
 unfold Jrr
 refine (Jb (by simp; omega)).trans ?_
 by_cases hc : a.tmod n < 0
 · refine (Jb (by simpa using hc)).trans ?_
   have : IntKind.i64.wrap (a.tmod n + n) = a % n := by
    split at e <;> (rw [wrap_i64 (by omega) (by omega)]; omega)
   rw [this]
 · refine (Jv (by simpa using hc)).trans ?_
   have : a.tmod n = a % n := by split at e <;> omega
   rw [this]
theorem Jw6 : Jf tau Try.prog 100 Jt9 := JDg.of fun xs es k res hr => by
 change Jft xs es k = some res at hr
 unfold Jft at hr
 split at hr
 · obtain ⟨hc, hr⟩ := JG hr
   simp only [Ze, Bool.and_eq_true, decide_eq_true_eq] at hc
   exact (Jrs _ _ hc.1 hc.2 _).trans hr
 · cases hr
def F44 : Fns := JC 100 Jt9 (JC 54 JDa (F0))
theorem Jw7 : Ju tau Try.prog F44 := ((JB).add JDb JGo).add Jw6 JDf
def Jrt : An := (.seq .leaf (.seq .leaf (.seq (.seq .leaf (.cond .leaf .leaf)) (.seq .leaf .leaf))))
def g44 (f : Nat) (y0 y1 d_Id y2 : Int) (y3 : List PV) (y4 : Int) (y5 y6 : Bool) (d_Op : List PV) (y7 y8 n : Int) (ns_z ns_f : Bool) (ns : List PV) (k : Res -> Option Res) : Option Res := bif okW 3 then bif okW 8 then bif okW 1073741825 then bif okW 1048577 then bif okW 3 then bif IntKind.i64.wrap (1 + y4 % 3) == 1 then bif JcE n ns then k (Res.mk (.st 73 [.st 45 [.sc (.int .i64 (y0 % 3)), .sc (.int .i64 (y1 % 8))], .sc (.int .i64 (d_Id % 1073741825)), .sc (.int .i64 (y2 % 1048577)), .ar 37 y3, .sc (.int .i64 (IntKind.i64.wrap (1 + y4 % 3))), .ro 99 (ZX (MN.mk n ns)).isEmpty false (ZX (MN.mk n ns)), .st 45 [.sc (.int .i64 0), .sc (.int .i64 0)]]) [] []) else none else bif okW 3 then bif okW 8 then k (Res.mk (.st 73 [.st 45 [.sc (.int .i64 (y0 % 3)), .sc (.int .i64 (y1 % 8))], .sc (.int .i64 (d_Id % 1073741825)), .sc (.int .i64 (y2 % 1048577)), .ar 37 y3, .sc (.int .i64 (IntKind.i64.wrap (1 + y4 % 3))), .ro 99 true true [], .st 45 [.sc (.int .i64 (y7 % 3)), .sc (.int .i64 (y8 % 8))]]) [] []) else none else none else none else none else none else none else none
theorem e44 (f : Nat) (y0 y1 d_Id y2 : Int) (y3 : List PV) (y4 : Int) (y5 y6 : Bool) (d_Op : List PV) (y7 y8 n : Int) (ns_z ns_f : Bool) (ns : List PV) (k : Res -> Option Res) : JN tau F44 Try.f44 (Try.f44.body.get!) Jrt [.ro] 0 [.st 73 [.st 45 [.sc (.int .i64 y0), .sc (.int .i64 y1)], .sc (.int .i64 d_Id), .sc (.int .i64 y2), .ar 37 y3, .sc (.int .i64 y4), .ro 99 y5 y6 d_Op, .st 45 [.sc (.int .i64 y7), .sc (.int .i64 y8)]], .sc (.int .i64 n), .ro 3 ns_z ns_f ns] [] k = g44 f y0 y1 d_Id y2 y3 y4 y5 y6 d_Op y7 y8 n ns_z ns_f ns k := by kernel_rfl
theorem JGr (f : Nat) : Je (Try.f44.body.get!) Jrt = [] := by kernel_rfl
theorem JGs (f : Nat) : ∀ q ∈ Je (Try.f44.body.get!) Jrt, q.Ok tau Try.prog 0 := by
 rw [JGr f]; intro q hq; cases hq
theorem JDh : Try.prog.funcs[44]? = some Try.f44 := by kernel_rfl
theorem JDi : Try.f44.body = some (Try.f44.body.get!) := by kernel_rfl
theorem JGt : Enters Try.prog 44 := enters_of JDh (by kernel_rfl) JDi
def Jok : List PV -> List Ent -> (Res -> Option Res) -> Option Res
 | [.st 73 [.st 45 [.sc (.int .i64 y0), .sc (.int .i64 y1)], .sc (.int .i64 d_Id), .sc (.int .i64 y2), .ar 37 y3, .sc (.int .i64 y4), .ro 99 y5 y6 d_Op, .st 45 [.sc (.int .i64 y7), .sc (.int .i64 y8)]], .sc (.int .i64 n), .ro 3 ns_z ns_f ns], [], k => g44 0 y0 y1 d_Id y2 y3 y4 y5 y6 d_Op y7 y8 n ns_z ns_f ns k
 | _, _, _ => none
def s44 : Sig := { own := [], run := Jok }
theorem JGu : Jf tau Try.prog 44 s44 := JP Jq Jw7 Jr JDh JDi Jrt [.ro] 0 [] Jok (JGs 0) fun xs es k res hr => by
 unfold Jok at hr
 split at hr
 · exact ⟨rfl, 0, (e44 0 _ _ _ _ _ _ _ _ _ _ _ _ _ _ _  _).trans hr⟩
 · cases hr



-- FN slices.EqualFunc[[][]byte,[][]byte,[]byte,[]byte] | ref16.Same
structure MS where
 (c : C13) (b : List PV)
def Ji3 (T : TypeId) : List TypeId := match tau.und T with | some (.struct fds) => fds.toList.map (·.type) | _ => []
theorem Jol {τ : Tab} {n : Nat} : ∀ (ts : List TypeId) (ps : List PV), ts.length = ps.length -> (∀ (i : Nat) (t : TypeId) (q : PV), ts[i]? = some t -> ps[i]? = some q -> Ty τ n t q) -> TyL τ n ts ps
 | [], [], _, _ => trivial
 | t :: ts, p :: ps, hl, h => ⟨h 0 t p rfl rfl, Jol ts ps (by simpa using hl) fun i t q h1 h2 => h (i + 1) t q (by simpa using h1) (by simpa using h2)⟩
 | [], _ :: _, hl, _ => by simp at hl
 | _ :: _, [], hl, _ => by simp at hl
theorem Wj {τ : Tab} {n : Nat} {t : TypeId} {ts : List TypeId} {ps : List PV} (h : TyL τ n (t :: ts) ps) : ∃ p r, ps = p :: r /\ Ty τ n t p /\ TyL τ n ts r := by
 cases ps with
 | nil => exact h.elim
 | cons p r => exact ⟨p, r, rfl, h.1, h.2⟩
theorem JaF {n : Nat} {T : TypeId} {tys : List TypeId} {p : PV} (hc : Ji3 T = tys) (hne : tys ≠ []) (h : Ty tau (n + 1) T p) : ∃ fs, p = .st T fs /\ TyL tau n tys fs := by
 unfold Ji3 at hc
 split at hc
 · rename_i fds hu
   obtain ⟨fs, rfl, hl, hf⟩ := Jln hu h
   refine ⟨fs, rfl, Jol tys fs (by rw [← hc]; simpa using hl.symm) fun i t q h1 h2 => ?_⟩
   rw [← hc, List.getElem?_map] at h1
   rw [Array.getElem?_toList] at h1
   cases hfi : fds[i]? with
   | none => rw [hfi] at h1; cases h1
   | some f =>
    rw [hfi] at h1
    obtain rfl := Option.some.inj h1
    exact hf i f q hfi h2
 · exact absurd hc.symm hne
theorem YR {n : Nat} {p : PV} (h : Ty tau (n + 1) 3 p) : ∃ x, p = .sc (.int .i64 x) /\ i64B x = true := by
 have u : tau.und 3 = some (.int .i64) := by kernel_rfl
 obtain ⟨x, rfl, hx⟩ := Jes u h
 refine ⟨x, rfl, ?_⟩
 have e1 : IntKind.i64.min = -9223372036854775808 := rfl
 have e2 : IntKind.i64.max = 9223372036854775807 := rfl
 simp only [Lit.wf, e1, e2, Bool.and_eq_true, decide_eq_true_eq] at hx
 simp only [i64B, Bool.and_eq_true, decide_eq_true_eq]
 omega
theorem Jom {n : Nat} {T : TypeId} {p : PV} (hc : Ji3 T = [3, 3]) (h : Ty tau (n + 2) T p) : ∃ x y, p = .st T [.sc (.int .i64 x), .sc (.int .i64 y)] := by
 obtain ⟨fs, rfl, hf⟩ := JaF (n := n + 1) hc (List.cons_ne_nil _ _) h
 obtain ⟨p, q, rfl, h1, h2⟩ := Jz7 hf
 obtain ⟨x, rfl, _⟩ := YR h1
 obtain ⟨y, rfl, _⟩ := YR h2
 exact ⟨x, y, rfl⟩
theorem Jon {n : Nat} : ∀ (l : List PV), (∀ q ∈ l, Ty tau (n + 1) 5 q) -> byB l = true
 | [], _ => rfl
 | p :: ps, h => by
  have u : tau.und 5 = some (.int .u8) := by kernel_rfl
  obtain ⟨x, rfl, hx⟩ := Jes u (h p List.mem_cons_self)
  have ih := Jon ps fun q hq => h q (List.mem_cons_of_mem _ hq)
  have e1 : IntKind.u8.min = 0 := rfl
  have e2 : IntKind.u8.max = 255 := rfl
  simp only [Lit.wf, e1, e2, Bool.and_eq_true, decide_eq_true_eq] at hx
  have e : byB (PV.sc (.int .u8 x) :: ps) = (((PV.sc (.int .u8 x)).isInt .u8 && (decide (0 <= (PV.sc (.int .u8 x)).int) && decide ((PV.sc (.int .u8 x)).int < 256))) && byB ps) := rfl
  rw [e, ih, Bool.and_true, Bool.and_eq_true, Bool.and_eq_true]
  exact ⟨rfl, decide_eq_true (by show 0 <= x; omega), decide_eq_true (by show x < 256; omega)⟩
theorem Jg4 {n : Nat} {p : PV} (h : Ty tau (n + 2) 29 p) : ∃ z b, p = .ro 5 z false b /\ (z = true -> b = []) /\ b.length <= maxLen /\ byB b = true := by
 have u : tau.und 29 = some (.slice 5) := by kernel_rfl
 obtain ⟨z, b, rfl, h1, h2, h3⟩ := Jb0 u h
 exact ⟨z, b, rfl, h1, h2, Jon b h3⟩
theorem Jru {n : Nat} {p : PV} (h : Ty tau (n + 2) 37 p) : ∃ l, p = .ar 37 l /\ l.length = 32 /\ byB l = true := by
 have u : tau.und 37 = some (.array 32 5) := by kernel_rfl
 obtain ⟨l, rfl, h1, h2⟩ := Jl9 u h
 exact ⟨l, rfl, h1, Jon l h2⟩
theorem Jrv {n : Nat} {p : PV} (h : Ty tau (n + 2) 99 p) : isCp p = true := by
 obtain ⟨fs, rfl, hf⟩ := JaF (n := n + 1) (T := 99) (tys := [3, 3, 9]) (by kernel_rfl) (List.cons_ne_nil _ _) h
 obtain ⟨p, q, r, rfl, h1, h2, h3⟩ := Jz8 hf
 obtain ⟨a, rfl, _⟩ := YR h1
 obtain ⟨b, rfl, _⟩ := YR h2
 have u : tau.und 9 = some .string := by kernel_rfl
 obtain ⟨s, rfl, _⟩ := Jlm u h3
 exact GK.2 ⟨a, b, s, rfl⟩
theorem JDj {n : Nat} {p : PV} (h : Ty tau (n + 3) 71 p) : ∃ z l, p = .ro 99 z false l /\ (z = true -> l = []) /\ l.length <= maxLen /\ l.all isCp = true := by
 have u : tau.und 71 = some (.slice 99) := by kernel_rfl
 obtain ⟨z, b, rfl, h1, h2, h3⟩ := Jb0 u h
 exact ⟨z, b, rfl, h1, h2, List.all_eq_true.2 fun q hq => Jrv (h3 q hq)⟩
theorem Jrw {n : Nat} {p : PV} (h : Ty tau (n + 2) 55 p) : ∃ z l, p = .ro 3 z false l /\ (z = true -> l = []) /\ l.length <= maxLen /\ Jh .i64 l = true := by
 have u : tau.und 55 = some (.slice 3) := by kernel_rfl
 have u2 : tau.und 3 = some (.int .i64) := by kernel_rfl
 obtain ⟨z, b, rfl, h1, h2, h3⟩ := Jb0 u h
 exact ⟨z, b, rfl, h1, h2, Jjt u2 b h3⟩
theorem Joo {n : Nat} {p : PV} (h : Ty tau (n + 4) 73 p) : ∃ ad au id1 ve hs kd z o wd wu, p = .st 73 [.st 45 [.sc (.int .i64 ad), .sc (.int .i64 au)], .sc (.int .i64 id1), .sc (.int .i64 ve), .ar 37 hs, .sc (.int .i64 kd), .ro 99 z false o, .st 45 [.sc (.int .i64 wd), .sc (.int .i64 wu)]] /\ hs.length = 32 /\ byB hs = true /\ (z = true -> o = []) /\ o.length <= maxLen /\ o.all isCp = true := by
 obtain ⟨fs, rfl, hf⟩ := JaF (n := n + 3) (T := 73) (tys := [45, 3, 3, 37, 3, 71, 45]) (by kernel_rfl) (List.cons_ne_nil _ _) h
 obtain ⟨p1, r1, rfl, h1, hf⟩ := Wj hf
 obtain ⟨p2, r2, rfl, h2, hf⟩ := Wj hf
 obtain ⟨p3, r3, rfl, h3, hf⟩ := Wj hf
 obtain ⟨p4, r4, rfl, h4, hf⟩ := Wj hf
 obtain ⟨p5, r5, rfl, h5, hf⟩ := Wj hf
 obtain ⟨p6, p7, rfl, h6, h7⟩ := Jz7 hf
 obtain ⟨ad, au, rfl⟩ := Jom (n := n + 1) (by kernel_rfl) h1
 obtain ⟨id1, rfl, _⟩ := YR h2
 obtain ⟨ve, rfl, _⟩ := YR h3
 obtain ⟨hs, rfl, g1, g2⟩ := Jru h4
 obtain ⟨kd, rfl, _⟩ := YR h5
 obtain ⟨z, o, rfl, g3, g4, g5⟩ := JDj h6
 obtain ⟨wd, wu, rfl⟩ := Jom (n := n + 1) (by kernel_rfl) h7
 exact ⟨ad, au, id1, ve, hs, kd, z, o, wd, wu, rfl, g1, g2, g3, g4, g5⟩
def F45 : Fns := F0
theorem Jw8 : Ju tau Try.prog F45 := JB
def Jrx : An := (.seq .leaf (.seq .leaf (.seq (.seq .leaf (.cond .leaf .leaf)) (.seq .leaf .leaf))))
def g45 (f : Nat) (at1 n : Int) (k : Res -> Option Res) : Option Res := bif !decide (n = 0) && true then bif decide (at1.tmod n < 0) then k (Res.mk (.sc (.int .i64 (IntKind.i64.wrap (at1.tmod n + n)))) [] []) else k (Res.mk (.sc (.int .i64 (at1.tmod n))) [] []) else none
theorem e45 (f : Nat) (at1 n : Int) (k : Res -> Option Res) : JN tau F45 Try.f45 (Try.f45.body.get!) Jrx [.ro] 0 [.sc (.int .i64 at1), .sc (.int .i64 n)] [] k = g45 f at1 n k := by kernel_rfl
theorem JGv (f : Nat) : Je (Try.f45.body.get!) Jrx = [] := by kernel_rfl
theorem JGw (f : Nat) : ∀ q ∈ Je (Try.f45.body.get!) Jrx, q.Ok tau Try.prog 0 := by
 rw [JGv f]; intro q hq; cases hq
theorem JDk : Try.prog.funcs[45]? = some Try.f45 := by kernel_rfl
theorem JDl : Try.f45.body = some (Try.f45.body.get!) := by kernel_rfl
theorem JGx : Enters Try.prog 45 := enters_of JDk (by kernel_rfl) JDl
def Jop : List PV -> List Ent -> (Res -> Option Res) -> Option Res
 | [.sc (.int .i64 at1), .sc (.int .i64 n)], [], k => g45 0 at1 n k
 | _, _, _ => none
def s45 : Sig := { own := [], run := Jop }
theorem JGy : Jf tau Try.prog 45 s45 := JP Jq Jw8 Jr JDk JDl Jrx [.ro] 0 [] Jop (JGw 0) fun xs es k res hr => by
 unfold Jop at hr
 split at hr
 · exact ⟨rfl, 0, (e45 0 _ _  _).trans hr⟩
 · cases hr
-- FN law9.within
def Ji4 : List PV -> List Ent -> (Res -> Option Res) -> Option Res
 | [.sc (.int .i64 a), .sc (.int .i64 n)], [], k => bif okW n then k ⟨.sc (.int .i64 (a % n)), [], []⟩ else none
 | _, _, _ => none
def JDm : Sig := { own := [], run := Ji4 }
theorem Jw9 (a n : Int) (h : 0 < n) (h2 : n < 1000000000000) (k : Res -> Option Res) : g45 0 a n k = k ⟨.sc (.int .i64 (a % n)), [], []⟩ := by
 have hn : (n == 0) = false := by simp; omega
 have e := Int.tmod_eq_emod (a := a) (b := n)
 have e0 := Int.emod_nonneg a (show n ≠ 0 by omega)
 have e1 := Int.emod_lt_of_pos a h
 have hna : (n.natAbs : Int) = n := by omega
 unfold g45
 refine (Jb (by simp; omega)).trans ?_
 by_cases hc : a.tmod n < 0
 · refine (Jb (by simpa using hc)).trans ?_
   have : IntKind.i64.wrap (a.tmod n + n) = a % n := by
    split at e <;> (rw [wrap_i64 (by omega) (by omega)]; omega)
   rw [this]
 · refine (Jv (by simpa using hc)).trans ?_
   have : a.tmod n = a % n := by split at e <;> omega
   rw [this]
theorem JDn : Jf tau Try.prog 45 JDm := JGy.of fun xs es k res hr => by
 change Ji4 xs es k = some res at hr
 unfold Ji4 at hr
 split at hr
 · obtain ⟨hc, hr⟩ := JG hr
   simp only [Ze, Bool.and_eq_true, decide_eq_true_eq] at hc
   exact (Jw9 _ _ hc.1 hc.2 _).trans hr
 · cases hr
-- FN
theorem Joq {n : Int} (h : 0 < n) (h2 : n < 1000000000000) : okW n = true := by rw [Ze, Bool.and_eq_true, decide_eq_true_eq, decide_eq_true_eq]; exact ⟨h, h2⟩
theorem h32_by {l : List PV} (h : byB l = true) (h2 : l.length = 32) : h32 l = true := h32_iff.2 ⟨(Qo.1 h).1, h2⟩
theorem JlB (s : ByteArray) : Xg s s = true := by rw [Jet]; exact decide_eq_true rfl
theorem Ja9 {l : List PV} (h : Jh .u8 l = true) : Ql l l = true := by
 rw [Qc h, Xd]; exact beq_self_eq_true _
-- FN law8.Good
def gdK : Int -> Int := hid fun kd => 1 + kd % 3
theorem Jor (kd : Int) : gdK kd = 1 + kd % 3 := by rw [gdK, hid_eq]
structure GO where
 (kd n : Int) (ns : List PV)
def gdO : GO -> List PV := hid fun x => bif gdK x.kd == 1 then ZX ⟨x.n, x.ns⟩ else []
theorem Ji5 (x : GO) : gdO x = bif gdK x.kd == 1 then ZX ⟨x.n, x.ns⟩ else [] := by rw [gdO, hid_eq]
def gdF : Int -> Bool := hid fun kd => !(gdK kd == 1)
theorem Jxa (kd : Int) : gdF kd = !(gdK kd == 1) := by rw [gdF, hid_eq]
def gdW : Int -> Int -> Int -> Int := hid fun kd w m => bif gdK kd == 1 then 0 else w % m
theorem Ji6 (kd w m : Int) : gdW kd w m = bif gdK kd == 1 then 0 else w % m := by rw [gdW, hid_eq]
def gdV (d : DV) (n : Int) (ns : List PV) : DV := ⟨d.ad % 3, d.au % 8, d.id % 1073741825, d.ve % 1048577, d.h, gdK d.kd, gdO ⟨d.kd, n, ns⟩, gdW d.kd d.wd 3, gdW d.kd d.wu 8⟩
theorem Wk (x : Int) {m : Int} (h : 0 < m) : 0 <= x % m /\ x % m < m := ⟨Int.emod_nonneg _ (by omega), Int.emod_lt_of_pos _ h⟩
theorem Jos {x : GO} (h : JcE x.n x.ns = true) : ∃ m, MkOk m 0 14 (gdO x) := by
 obtain ⟨h1, h2, h3, h4⟩ := JcF.1 h
 rw [Ji5]
 cases gdK x.kd == 1 with
 | true => exact ⟨x.n, Joh x.ns h1 h2⟩
 | false => exact ⟨0, ZY (Jfs (by decide)) (by decide)⟩
theorem Jxb {d : DV} {n : Int} {ns : List PV} (hh : h32 d.h = true) (h : JcE n ns = true) : dOk (gdV d n ns) = true := by
 obtain ⟨a, b⟩ := h32_iff.1 hh
 obtain ⟨m, hm⟩ := Jos (x := ⟨d.kd, n, ns⟩) h
 exact W5.2 ⟨a, b, Jw3 hm, by have := Jw4 hm; show (opB (gdO ⟨d.kd, n, ns⟩)).length <= _; omega⟩
theorem Jxc {d : DV} {n : Int} {ns : List PV} (h : JcE n ns = true) : dCk (gdV d n ns) = 0 := by
 obtain ⟨m, hm⟩ := Jos (x := ⟨d.kd, n, ns⟩) h
 have hc := Jw2 hm
 have a1 := Wk d.ad (m := 3) (by decide)
 have a2 := Wk d.au (m := 8) (by decide)
 have a3 := Wk d.id (m := 1073741825) (by decide)
 have a4 := Wk d.ve (m := 1048577) (by decide)
 have a5 := Wk d.kd (m := 3) (by decide)
 have w1 := Wk d.wd (m := 3) (by decide)
 have w2 := Wk d.wu (m := 8) (by decide)
 have hk := Jor d.kd
 rw [Jaz]
 unfold JiH gdV
 refine (Jb ?_).trans ?_
 · simp only [Ve, Bool.and_eq_true, decide_eq_true_eq]; omega
 simp only [Ji6, Ji5] at hc ⊢
 cases h1 : (gdK d.kd == 1) with
 | true =>
   rw [h1] at hc
   refine (Jb rfl).trans ((Jb (by rw [hc]; rfl)).trans (Jb rfl))
 | false =>
   have h1 : gdK d.kd ≠ 1 := by simpa using h1
   refine (Jv rfl).trans ((Jb ?_).trans (Jb ?_))
   · simp only [Bool.or_eq_true, beq_iff_eq]; omega
   · simp only [cond_false, Ve, Bool.and_eq_true, decide_eq_true_eq]; exact ⟨rfl, by omega, by omega⟩
def Ji7 : List PV -> List Ent -> (Res -> Option Res) -> Option Res
 | [.st 73 [.st 45 [.sc (.int .i64 ad), .sc (.int .i64 au)], .sc (.int .i64 id1), .sc (.int .i64 ve), .ar 37 h, .sc (.int .i64 kd), .ro 99 oz of o, .st 45 [.sc (.int .i64 wd), .sc (.int .i64 wu)]], .sc (.int .i64 n), .ro 3 z f ns], [], k =>
  bif JcE n ns then k ⟨.st 73 [.st 45 [.sc (.int .i64 (ad % 3)), .sc (.int .i64 (au % 8))], .sc (.int .i64 (id1 % 1073741825)), .sc (.int .i64 (ve % 1048577)), .ar 37 h, .sc (.int .i64 (gdK kd)), .ro 99 (gdO ⟨kd, n, ns⟩).isEmpty (gdF kd) (gdO ⟨kd, n, ns⟩), .st 45 [.sc (.int .i64 (gdW kd wd 3)), .sc (.int .i64 (gdW kd wu 8))]], [], []⟩ else none
 | _, _, _ => none
def JDo : Sig := { own := [], run := Ji7 }
theorem JDp : Jf tau Try.prog 44 JDo := JGu.of fun xs es k res hr => by
 change Ji7 xs es k = some res at hr
 unfold Ji7 at hr
 split at hr
 · rename_i ad au id1 ve h kd oz of o wd wu n z f ns
   obtain ⟨hc, hr⟩ := JG hr
   refine Eq.trans ?_ hr
   show g44 0 ad au id1 ve h kd oz of o wd wu n z f ns k = _
   unfold g44
   have a5 := Wk kd (m := 3) (by decide)
   have e : IntKind.i64.wrap (1 + kd % 3) = gdK kd := by rw [Jor, wrap_i64 (by omega) (by omega)]
   have w : ∀ n : Int, 0 < n -> n < 1000000000000 -> okW n = true := fun n h h2 => Joq h h2
   rw [e, Ji5, Jxa, Ji6, Ji6]
   refine (Jb (w _ (by decide) (by decide))).trans ((Jb (w _ (by decide) (by decide))).trans ((Jb (w _ (by decide) (by decide))).trans ((Jb (w _ (by decide) (by decide))).trans ((Jb (w _ (by decide) (by decide))).trans ?_))))
   cases gdK kd == 1 with
   | true => exact (Jb rfl).trans (Jb hc)
   | false => exact (Jv rfl).trans ((Jb (w _ (by decide) (by decide))).trans (Jb (w _ (by decide) (by decide))))
 · cases hr
def F47 : Fns := F0
theorem Jxd : Ju tau Try.prog F47 := JB
def Jry : An := (.seq .leaf (.seq .leaf .leaf))
def g47 (f : Nat) (y0 y1 : Bool) (y2 y3 : List PV) (y4 y5 : Bool) (y6 y7 : List PV) (k : Res -> Option Res) : Option Res := bif Jh IntKind.u8 y2 && true then bif Jh IntKind.u8 y6 && true then bif Xg (ByteArray.mk (Array.mk (Jp (y0, y2).snd))) (ByteArray.mk (Array.mk (Jp (y4, y6).snd))) then bif decide (y3.length = 32) && decide (y7.length = 32) && Jh IntKind.u8 y3 && Jh IntKind.u8 y7 && true then k (Res.mk (.sc (.bool (Ql y3 y7))) [] []) else none else k (Res.mk (.sc (.bool false)) [] []) else none else none
theorem e47 (f : Nat) (y0 y1 : Bool) (y2 y3 : List PV) (y4 y5 : Bool) (y6 y7 : List PV) (k : Res -> Option Res) : JN tau F47 Try.f47 (Try.f47.body.get!) Jry [.ro] 0 [.st 77 [.ro 5 y0 y1 y2, .ar 37 y3], .st 77 [.ro 5 y4 y5 y6, .ar 37 y7]] [] k = g47 f y0 y1 y2 y3 y4 y5 y6 y7 k := by kernel_rfl
theorem JGz (f : Nat) : Je (Try.f47.body.get!) Jry = [] := by kernel_rfl
theorem JGA (f : Nat) : ∀ q ∈ Je (Try.f47.body.get!) Jry, q.Ok tau Try.prog 0 := by
 rw [JGz f]; intro q hq; cases hq
theorem JDq : Try.prog.funcs[47]? = some Try.f47 := by kernel_rfl
theorem JDr : Try.f47.body = some (Try.f47.body.get!) := by kernel_rfl
theorem JGB : Enters Try.prog 47 := enters_of JDq (by kernel_rfl) JDr
def Jot : List PV -> List Ent -> (Res -> Option Res) -> Option Res
 | [.st 77 [.ro 5 y0 y1 y2, .ar 37 y3], .st 77 [.ro 5 y4 y5 y6, .ar 37 y7]], [], k => g47 0 y0 y1 y2 y3 y4 y5 y6 y7 k
 | _, _, _ => none
def s47 : Sig := { own := [], run := Jot }
theorem JGC : Jf tau Try.prog 47 s47 := JP Jq Jxd Jr JDq JDr Jry [.ro] 0 [] Jot (JGA 0) fun xs es k res hr => by
 unfold Jot at hr
 split at hr
 · exact ⟨rfl, 0, (e47 0 _ _ _ _ _ _ _ _  _).trans hr⟩
 · cases hr
def G0 : Nat := 26
def Jou : Fns := F0
theorem JkX : Ju tau Try.prog Jou := JB
def JaG : Code := Qu (Try.f104.body.get!) [1, 1, 0, 1, 0, 0]
def Xa : Nm := [(0, .any), (1, .any), (5, .any)]
def QZ : Nm := [(4, .any)]
def JcG : An := (.seq (.seq .leaf (.cond .leaf .leaf)) (.seq (.block none (.seq .leaf (.cond (.seq .leaf .leaf) .leaf))) .leaf))
def JkY (r0 : QJ) : An := (.seq .leaf (.seq (.seq .leaf (.cond (.seq .leaf .leaf) .leaf)) (.seq (.seq .leaf (.block none (.sum Xa G0 r0))) (.seq .leaf .leaf))))
def Z0 (f : Nat) (rc : Bool -> Bool -> List PV -> Bool -> Bool -> List PV -> Int -> Option Res) (k0 : Bool -> Option Res) (k1 : Option Res) (v0 v1 : Bool) (v2 : List PV) (v3 v4 : Bool) (v5 : List PV) (v6 : Int) : Option Res := bif decide (v6 < zi v2.length) then bif decide (0 <= v6) && decide (v6 < zi v2.length) && (PV.isSt 99 #[Field.mk "Kind" 3 0 false "" "" 0, Field.mk "N" 3 1 false "" "" 8, Field.mk "S" 9 2 false "" "" 16].size (v2.getD v6.toNat PV.top) && (PV.isInt IntKind.i64 (PV.child 0 (v2.getD v6.toNat PV.top)) && (PV.isInt IntKind.i64 (PV.child (0 + 1) (v2.getD v6.toNat PV.top)) && ((PV.child (0 + 1 + 1) (v2.getD v6.toNat PV.top)).isStr && true)))) && true then bif decide (0 <= v6) && decide (v6 < zi v5.length) && (PV.isSt 99 #[Field.mk "Kind" 3 0 false "" "" 0, Field.mk "N" 3 1 false "" "" 8, Field.mk "S" 9 2 false "" "" 16].size (v5.getD v6.toNat PV.top) && (PV.isInt IntKind.i64 (PV.child 0 (v5.getD v6.toNat PV.top)) && (PV.isInt IntKind.i64 (PV.child (0 + 1) (v5.getD v6.toNat PV.top)) && ((PV.child (0 + 1 + 1) (v5.getD v6.toNat PV.top)).isStr && true)))) && true then bif !((PV.child 0 (v2.getD v6.toNat PV.top)).int == (PV.child 0 (v5.getD v6.toNat PV.top)).int && ((PV.child (0 + 1) (v2.getD v6.toNat PV.top)).int == (PV.child (0 + 1) (v5.getD v6.toNat PV.top)).int && (Xg (PV.child (0 + 1 + 1) (v2.getD v6.toNat PV.top)).str (PV.child (0 + 1 + 1) (v5.getD v6.toNat PV.top)).str && true))) then k0 false else rc v0 v1 v2 v3 v4 v5 (IntKind.i64.wrap (v6 + 1)) else none else none else k1
def YS (f : Nat) (k0 : Bool -> Option Res) (k1 : Option Res) : Nat -> Bool -> Bool -> List PV -> Bool -> Bool -> List PV -> Int -> Option Res
 | 0, _, _, _, _, _, _, _ => none
 | n + 1, v0, v1, v2, v3, v4, v5, v6 => Z0 f (YS f k0 k1 n) k0 k1 v0 v1 v2 v3 v4 v5 v6
theorem Jov (f : Nat) (k : Kont) (n : Nat) (v0 v1 : Bool) (v2 : List PV) (v3 v4 : Bool) (v5 : List PV) (v6 : Int) : Jn tau 0 Xa (fun s k => ev tau Jou 0 0 JaG (JcG ) s k) (n + 1) (Jd Xa G0 [.ro 99 v0 v1 v2, .ro 99 v3 v4 v5, .sc (.int .i64 v6)] []) (Jt tau 0 QZ k) = Z0 f (fun v0 v1 v2 v3 v4 v5 v6 => Jn tau 0 Xa (fun s k => ev tau Jou 0 0 JaG (JcG ) s k) n (Jd Xa G0 [.ro 99 v0 v1 v2, .ro 99 v3 v4 v5, .sc (.int .i64 v6)] []) (Jt tau 0 QZ k)) (fun x0 => k Ex.ret (Jd QZ G0 [.sc (.bool x0)] [])) (k (Ex.exit 0) (Jd QZ G0 [PV.top] [])) v0 v1 v2 v3 v4 v5 v6 := by kernel_rfl
theorem Jg5 (f : Nat) (k : Kont) : ∀ (n : Nat) (v0 v1 : Bool) (v2 : List PV) (v3 v4 : Bool) (v5 : List PV) (v6 : Int), Jn tau 0 Xa (fun s k => ev tau Jou 0 0 JaG (JcG ) s k) n (Jd Xa G0 [.ro 99 v0 v1 v2, .ro 99 v3 v4 v5, .sc (.int .i64 v6)] []) (Jt tau 0 QZ k) = YS f (fun x0 => k Ex.ret (Jd QZ G0 [.sc (.bool x0)] [])) (k (Ex.exit 0) (Jd QZ G0 [PV.top] [])) n v0 v1 v2 v3 v4 v5 v6 | 0, _, _, _, _, _, _, _ => rfl | n + 1, v0, v1, v2, v3, v4, v5, v6 => (Jov f k n v0 v1 v2 v3 v4 v5 v6).trans (congrArg (fun r => Z0 f r (fun x0 => k Ex.ret (Jd QZ G0 [.sc (.bool x0)] [])) (k (Ex.exit 0) (Jd QZ G0 [PV.top] [])) v0 v1 v2 v3 v4 v5 v6) (by funext v0 v1 v2 v3 v4 v5 v6; exact Jg5 f k n v0 v1 v2 v3 v4 v5 v6))
def V3 (f : Nat) : List PV -> List (Nat × Ent) -> Kont -> Option Res
 | [.ro 99 v0 v1 v2, .ro 99 v3 v4 v5,
 .sc (.int .i64 v6)], [], k => YS f (fun x0 => k Ex.ret (Jd QZ G0 [.sc (.bool x0)] [])) (k (Ex.exit 0) (Jd QZ G0 [PV.top] [])) f v0 v1 v2 v3 v4 v5 v6
 | _, _, _ => none
theorem Jrz (f : Nat) : Je JaG JcG = [] := by kernel_rfl
theorem Jxe (f : Nat) : (Item.l JaG Xa G0 (V3 f)).Ok tau Try.prog 0 := JI Jq JkX Jr (x := JcG) (nm2 := QZ) (Js _ _ (by rw [Jrz f]; intro q hq; cases hq)) fun vs hp k res hr => by
 unfold V3 at hr
 split at hr
 · exact ⟨f, 0, (Jg5 f _ f _ _ _ _ _ _ _ ).trans hr⟩
 · cases hr
def Jxf (f : Nat) (a_z a_f : Bool) (a : List PV) (b_z b_f : Bool) (b : List PV) (k : Res -> Option Res) : Option Res := bif zi a.length != zi b.length then k (Res.mk (.sc (.bool false)) [] []) else YS f (fun x0_0 => k (Res.mk (.sc (.bool x0_0)) [] [])) (k (Res.mk (.sc (.bool true)) [] [])) f a_z a_f a b_z b_f b (0)
theorem JGD (f : Nat) (a_z a_f : Bool) (a : List PV) (b_z b_f : Bool) (b : List PV) (k : Res -> Option Res) : JN tau Jou Try.f104 (Try.f104.body.get!) (JkY (V3 f)) [.ro] 0 [.ro 99 a_z a_f a, .ro 99 b_z b_f b] [] k = Jxf f a_z a_f a b_z b_f b k := by kernel_rfl
theorem JDs (f : Nat) : Je (Try.f104.body.get!) (JkY (V3 f)) = [.l JaG Xa G0 (V3 f)] := by kernel_rfl
theorem JDt (f : Nat) : ∀ q ∈ Je (Try.f104.body.get!) (JkY (V3 f)), q.Ok tau Try.prog 0 := by
 rw [JDs f]; simp only [List.forall_mem_cons, List.not_mem_nil, false_implies, implies_true, and_true]; exact Jxe f
theorem Jua : Try.prog.funcs[104]? = some Try.f104 := by kernel_rfl
theorem Jub : Try.f104.body = some (Try.f104.body.get!) := by kernel_rfl
theorem JDu : Enters Try.prog 104 := enters_of Jua (by kernel_rfl) Jub
-- FN ref4.Same
structure O2 where
 (a b : List PV)
def JkZ (p q : CV) : Bool := p.kd == q.kd && (p.n == q.n && (Xg p.s q.s && true))
def XL : List PV -> List PV -> Bool
 | [], [] => true
 | p :: ps, q :: qs => JkZ (cv p) (cv q) && XL ps qs
 | _, _ => false
def G1 : O2 -> Bool := hid fun x => XL x.a x.b
theorem Jg6 (x : O2) : G1 x = XL x.a x.b := by rw [G1, hid_eq]
theorem JcH : ∀ l : List PV, XL l l = true
 | [] => rfl
 | p :: ps => by
  have hs : Xg (cv p).s (cv p).s = true := by rw [Jet]; exact decide_eq_true rfl
  simp only [XL, JkZ, JcH ps, hs, beq_self_eq_true, Bool.and_self]
theorem Ji8 (l : List PV) : G1 ⟨l, l⟩ = true := by rw [Jg6]; exact JcH l
theorem JdX : ∀ {a b : List PV}, XL a b = true -> a.length = b.length
 | [], [], _ => rfl
 | p :: ps, q :: qs, h => by
  simp only [XL, Bool.and_eq_true] at h
  simp [JdX h.2]
 | [], _ :: _, h => by simp [XL] at h
 | _ :: _, [], h => by simp [XL] at h
theorem Jow (a b : List PV) (ha : a.all isCp = true) (hb : b.all isCp = true) (hl : a.length = b.length) (h2 : a.length <= 9223372036854775807) (f : Nat) (k0 : Bool -> Option Res) (k1 : Option Res) (z fl z' fl' : Bool) : ∀ (d i n : Nat), i + d = a.length -> d < n ->
  YS f k0 k1 n z fl a z' fl' b (i : Int) = bif XL (a.drop i) (b.drop i) then k1 else k0 false
 | 0, i, n + 1, hi, hn => by
   rw [List.drop_of_length_le (l := a) (by omega), List.drop_of_length_le (l := b) (by omega)]
   simp only [YS, Z0]
   exact Jv (by simp [zi]; omega)
 | d + 1, i, n + 1, hi, hn => by
   have g1 : ((i : Int)).toNat = i := by omega
   have w1 : IntKind.i64.wrap ((i : Int) + 1) = ((i + 1 : Nat) : Int) := by rw [wrap_i64 (by omega) (by omega)]; omega
   have hro : ∀ l : List PV, l.all isCp = true -> l.length = a.length -> (decide (0 <= (i : Int)) && decide ((i : Int) < zi l.length) && (PV.isSt 99 #[Field.mk "Kind" 3 0 false "" "" 0, Field.mk "N" 3 1 false "" "" 8, Field.mk "S" 9 2 false "" "" 16].size (l.getD i PV.top) && (PV.isInt IntKind.i64 (PV.child 0 (l.getD i PV.top)) && (PV.isInt IntKind.i64 (PV.child (0 + 1) (l.getD i PV.top)) && ((PV.child (0 + 1 + 1) (l.getD i PV.top)).isStr && true)))) && true) = true := by
    intro l h1 h3
    have hq : (PV.isSt 99 #[Field.mk "Kind" 3 0 false "" "" 0, Field.mk "N" 3 1 false "" "" 8, Field.mk "S" 9 2 false "" "" 16].size (l.getD i PV.top) && (PV.isInt IntKind.i64 (PV.child 0 (l.getD i PV.top)) && (PV.isInt IntKind.i64 (PV.child (0 + 1) (l.getD i PV.top)) && ((PV.child (0 + 1 + 1) (l.getD i PV.top)).isStr && true)))) = true := Wv (Ww h1 (by omega))
    rw [hq]; simp [zi]; omega
   have hs : ((PV.child 0 (a.getD i PV.top)).int == (PV.child 0 (b.getD i PV.top)).int && ((PV.child (0 + 1) (a.getD i PV.top)).int == (PV.child (0 + 1) (b.getD i PV.top)).int && (Xg (PV.child (0 + 1 + 1) (a.getD i PV.top)).str (PV.child (0 + 1 + 1) (b.getD i PV.top)).str && true))) = JkZ (cv (a.getD i .top)) (cv (b.getD i .top)) := rfl
   simp only [YS, Z0, g1, w1, hs]
   refine (Jb (by simp [zi]; omega)).trans ((Jb (hro a ha rfl)).trans ((Jb (hro b hb hl.symm)).trans ?_))
   rw [Q8 (l := a) (i := i) (by omega), Q8 (l := b) (i := i) (by omega), XL]
   cases JkZ (cv (a.getD i .top)) (cv (b.getD i .top)) with
   | false => rfl
   | true =>
    rw [Bool.true_and]
    exact (Jv rfl).trans (Jow a b ha hb hl h2 f k0 k1 z fl z' fl' d (i + 1) n (by omega) (by omega))
def Jfu : List PV -> List Ent -> (Res -> Option Res) -> Option Res
 | [.ro 99 z f a, .ro 99 z' f' b], [], k => bif cOk a && cOk b then k ⟨.sc (.bool (G1 ⟨a, b⟩)), [], []⟩ else none
 | _, _, _ => none
def Juc : Sig := { own := [], run := Jfu }
theorem JrA (z f z' f' : Bool) (a b : List PV) (ha : cOk a = true) (hb : cOk b = true) (k : Res -> Option Res) : Jxf (a.length + 2) z f a z' f' b k = k ⟨.sc (.bool (G1 ⟨a, b⟩)), [], []⟩ := by
 obtain ⟨h1, h2⟩ := W2.1 ha
 obtain ⟨h3, h4⟩ := W2.1 hb
 unfold Jxf
 rw [Jg6]
 by_cases hl : a.length = b.length
 · refine (Jv (by simp [zi, hl])).trans ?_
   refine (Jow a b h1 h3 hl h2 (a.length + 2) _ _ z f z' f' a.length 0 (a.length + 2) (by omega) (by omega)).trans ?_
   rw [List.drop_zero, List.drop_zero]
   cases XL a b <;> rfl
 · have hs : XL a b = false := by
    cases h : XL a b with
    | false => rfl
    | true => exact absurd (JdX h) hl
   rw [hs]
   exact Jb (by simp [zi]; omega)
theorem Jxg : Jf tau Try.prog 104 Juc := Jf.mk' fun xs es k res hl hr => by
 change Jfu xs es k = some res at hr
 unfold Jfu at hr
 split at hr
 · rename_i z f a z' f' b
   obtain ⟨hc, hr⟩ := JG hr
   rw [Bool.and_eq_true] at hc
   exact Qj Jq JkX Jr Jua Jub (JkY (V3 (a.length + 2))) [.ro] 0 0 (JDt (a.length + 2)) hl rfl ((JGD (a.length + 2) z f a z' f' b k).trans ((JrA z f z' f' a b hc.1 hc.2 k).trans hr))
 · cases hr
def F50 : Fns := JC 104 Juc (F0)
theorem Jxh : Ju tau Try.prog F50 := (JB).add Jxg JDu
def JrB : An := (.seq .leaf (.seq .leaf .leaf))
def g50 (f : Nat) (y0 y1 a_Id y2 : Int) (y3 : List PV) (y4 : Int) (y5 y6 : Bool) (a_Op : List PV) (y7 y8 y9 y10 b_Id y11 : Int) (y12 : List PV) (y13 : Int) (y14 y15 : Bool) (b_Op : List PV) (y16 y17 : Int) (k : Res -> Option Res) : Option Res := bif y0 == y9 && (y1 == y10 && true) then bif a_Id == b_Id then bif y2 == y11 then bif decide (y3.length = 32) && decide (y12.length = 32) && Jh IntKind.u8 y3 && Jh IntKind.u8 y12 && true then bif Ql y3 y12 then bif y4 == y13 then bif cOk a_Op && cOk b_Op then bif G1 (O2.mk a_Op b_Op) then k (Res.mk (.sc (.bool (y7 == y16 && (y8 == y17 && true)))) [] []) else k (Res.mk (.sc (.bool false)) [] []) else none else k (Res.mk (.sc (.bool false)) [] []) else k (Res.mk (.sc (.bool false)) [] []) else none else k (Res.mk (.sc (.bool false)) [] []) else k (Res.mk (.sc (.bool false)) [] []) else k (Res.mk (.sc (.bool false)) [] [])
theorem e50 (f : Nat) (y0 y1 a_Id y2 : Int) (y3 : List PV) (y4 : Int) (y5 y6 : Bool) (a_Op : List PV) (y7 y8 y9 y10 b_Id y11 : Int) (y12 : List PV) (y13 : Int) (y14 y15 : Bool) (b_Op : List PV) (y16 y17 : Int) (k : Res -> Option Res) : JN tau F50 Try.f50 (Try.f50.body.get!) JrB [.ro] 0 [.st 73 [.st 45 [.sc (.int .i64 y0), .sc (.int .i64 y1)], .sc (.int .i64 a_Id), .sc (.int .i64 y2), .ar 37 y3, .sc (.int .i64 y4), .ro 99 y5 y6 a_Op, .st 45 [.sc (.int .i64 y7), .sc (.int .i64 y8)]], .st 73 [.st 45 [.sc (.int .i64 y9), .sc (.int .i64 y10)], .sc (.int .i64 b_Id), .sc (.int .i64 y11), .ar 37 y12, .sc (.int .i64 y13), .ro 99 y14 y15 b_Op, .st 45 [.sc (.int .i64 y16), .sc (.int .i64 y17)]]] [] k = g50 f y0 y1 a_Id y2 y3 y4 y5 y6 a_Op y7 y8 y9 y10 b_Id y11 y12 y13 y14 y15 b_Op y16 y17 k := by kernel_rfl
theorem JGE (f : Nat) : Je (Try.f50.body.get!) JrB = [] := by kernel_rfl
theorem JGF (f : Nat) : ∀ q ∈ Je (Try.f50.body.get!) JrB, q.Ok tau Try.prog 0 := by
 rw [JGE f]; intro q hq; cases hq
theorem JDv : Try.prog.funcs[50]? = some Try.f50 := by kernel_rfl
theorem JDw : Try.f50.body = some (Try.f50.body.get!) := by kernel_rfl
theorem JGG : Enters Try.prog 50 := enters_of JDv (by kernel_rfl) JDw
def Jox : List PV -> List Ent -> (Res -> Option Res) -> Option Res
 | [.st 73 [.st 45 [.sc (.int .i64 y0), .sc (.int .i64 y1)], .sc (.int .i64 a_Id), .sc (.int .i64 y2), .ar 37 y3, .sc (.int .i64 y4), .ro 99 y5 y6 a_Op, .st 45 [.sc (.int .i64 y7), .sc (.int .i64 y8)]], .st 73 [.st 45 [.sc (.int .i64 y9), .sc (.int .i64 y10)], .sc (.int .i64 b_Id), .sc (.int .i64 y11), .ar 37 y12, .sc (.int .i64 y13), .ro 99 y14 y15 b_Op, .st 45 [.sc (.int .i64 y16), .sc (.int .i64 y17)]]], [], k => g50 0 y0 y1 a_Id y2 y3 y4 y5 y6 a_Op y7 y8 y9 y10 b_Id y11 y12 y13 y14 y15 b_Op y16 y17 k
 | _, _, _ => none
def s50 : Sig := { own := [], run := Jox }
theorem JGH : Jf tau Try.prog 50 s50 := JP Jq Jxh Jr JDv JDw JrB [.ro] 0 [] Jox (JGF 0) fun xs es k res hr => by
 unfold Jox at hr
 split at hr
 · exact ⟨rfl, 0, (e50 0 _ _ _ _ _ _ _ _ _ _ _ _ _ _ _ _ _ _ _ _ _ _  _).trans hr⟩
 · cases hr

-- FN ref8.Same | ref9.Same
structure DD where
 (a b : DV)
def Jba : DD -> Bool := hid fun x => (x.a.ad == x.b.ad && (x.a.au == x.b.au && true)) && (x.a.id == x.b.id && (x.a.ve == x.b.ve && (Ql x.a.h x.b.h && (x.a.kd == x.b.kd && (G1 ⟨x.a.o, x.b.o⟩ && (x.a.wd == x.b.wd && (x.a.wu == x.b.wu && true)))))))
theorem Jg7 (x : DD) : Jba x = ((x.a.ad == x.b.ad && (x.a.au == x.b.au && true)) && (x.a.id == x.b.id && (x.a.ve == x.b.ve && (Ql x.a.h x.b.h && (x.a.kd == x.b.kd && (G1 ⟨x.a.o, x.b.o⟩ && (x.a.wd == x.b.wd && (x.a.wu == x.b.wu && true)))))))) := by rw [Jba, hid_eq]
def dS : DV -> Bool := hid fun d => h32 d.h && cOk d.o
theorem Ji9 {d : DV} : dS d = true ↔ (Jh .u8 d.h = true /\ d.h.length = 32) /\ cOk d.o = true := by rw [dS, hid_eq, Bool.and_eq_true, h32_iff]
theorem JcI {d : DV} (h : Jh .u8 d.h = true) : Jba ⟨d, d⟩ = true := by
 rw [Jg7]; simp only [beq_self_eq_true, Ja9 h, Ji8, Bool.and_self]
def Jja : List PV -> List Ent -> (Res -> Option Res) -> Option Res
 | [.st 73 [.st 45 [.sc (.int .i64 ad), .sc (.int .i64 au)], .sc (.int .i64 id1), .sc (.int .i64 ve), .ar 37 h, .sc (.int .i64 kd), .ro 99 oz of o, .st 45 [.sc (.int .i64 wd), .sc (.int .i64 wu)]], .st 73 [.st 45 [.sc (.int .i64 ad2), .sc (.int .i64 au2)], .sc (.int .i64 id2), .sc (.int .i64 ve2), .ar 37 h2, .sc (.int .i64 kd2), .ro 99 oz2 of2 o2, .st 45 [.sc (.int .i64 wd2), .sc (.int .i64 wu2)]]], [], k =>
  bif dS ⟨ad, au, id1, ve, h, kd, o, wd, wu⟩ && dS ⟨ad2, au2, id2, ve2, h2, kd2, o2, wd2, wu2⟩ then k ⟨.sc (.bool (Jba ⟨⟨ad, au, id1, ve, h, kd, o, wd, wu⟩, ⟨ad2, au2, id2, ve2, h2, kd2, o2, wd2, wu2⟩⟩)), [], []⟩ else none
 | _, _, _ => none
def JDx : Sig := { own := [], run := Jja }
theorem Jxi (ad au id1 ve : Int) (h : List PV) (kd : Int) (oz of : Bool) (o : List PV) (wd wu ad2 au2 id2 ve2 : Int) (h2 : List PV) (kd2 : Int) (oz2 of2 : Bool) (o2 : List PV) (wd2 wu2 : Int) (hc : (dS ⟨ad, au, id1, ve, h, kd, o, wd, wu⟩ && dS ⟨ad2, au2, id2, ve2, h2, kd2, o2, wd2, wu2⟩) = true) (k : Res -> Option Res) :
  g50 0 ad au id1 ve h kd oz of o wd wu ad2 au2 id2 ve2 h2 kd2 oz2 of2 o2 wd2 wu2 k = k ⟨.sc (.bool (Jba ⟨⟨ad, au, id1, ve, h, kd, o, wd, wu⟩, ⟨ad2, au2, id2, ve2, h2, kd2, o2, wd2, wu2⟩⟩)), [], []⟩ := by
 rw [Bool.and_eq_true, Ji9, Ji9] at hc
 obtain ⟨⟨⟨a1, a2⟩, a3⟩, ⟨b1, b2⟩, b3⟩ := hc
 rw [Jg7]
 unfold g50
 simp only [a1, a2, a3, b1, b2, b3, decide_true, Bool.and_true, Bool.and_self, cond_true]
 cases (ad == ad2 && au == au2) <;> cases (id1 == id2) <;> cases (ve == ve2) <;> cases (Ql h h2) <;> cases (kd == kd2) <;> cases (G1 ⟨o, o2⟩) <;> rfl
theorem JDy : Jf tau Try.prog 50 JDx := JGH.of fun xs es k res hr => by
 change Jja xs es k = some res at hr
 unfold Jja at hr
 split at hr
 · rename_i ad au id1 ve h kd oz of o wd wu ad2 au2 id2 ve2 h2 kd2 oz2 of2 o2 wd2 wu2
   obtain ⟨hc, hr⟩ := JG hr
   exact (Jxi ad au id1 ve h kd oz of o wd wu ad2 au2 id2 ve2 h2 kd2 oz2 of2 o2 wd2 wu2 hc k).trans hr
 · cases hr
structure EW where
 (b m : List PV) (at1 : Int) (o h mc : List PV)
structure EE where
 (a b : EW)
def N13 : Nat := 136
def F13 : Fns := JC 51 JCN (JC 50 JDx (JC 49 JwR (JC 48 JCL (JC 47 s47 (JC 46 JwQ (JC 45 JDm (JC 44 JDo (JC 43 s43 (JC 42 JCX (JC 21 JvE (F0)))))))))))
theorem Joy : Ju tau Try.prog F13 := (((((((((((JB).add JsR Jxv).add JCY JGd).add JGj JGi).add JDp JGt).add JDn JGx).add JtZ JBd).add JGC JGB).add JCM JF5).add Jt0 JCi).add JDy JGG).add JCO JF9
def JdY : Code := Qu (Try.f13.body.get!) [1, 1, 1, 1, 1, 1, 1, 1, 1, 1, 1, 1, 0, 1, 0, 0]
def YT : Nm := [(20, .bx (.st [.ro, .any])), (22, .ro), (23, .any)]
def WJ : Nm := [(14, .any)]
def QL : An := (.seq (.seq .leaf (.cond .leaf .leaf)) (.seq (.block none (.seq .leaf (.seq .leaf (.seq .leaf (.cond (.seq .leaf .leaf) .leaf))))) .leaf))
def JrC (r0 : QJ) : An := (.seq .leaf (.seq (.seq .leaf (.cond (.seq .leaf .leaf) .leaf)) (.seq (.seq .leaf (.cond (.seq .leaf .leaf) .leaf)) (.seq .leaf (.seq .leaf (.seq .leaf (.seq (.seq .leaf (.cond (.seq .leaf .leaf) .leaf)) (.seq .leaf (.seq (.seq .leaf (.cond (.seq .leaf .leaf) .leaf)) (.seq .leaf (.seq (.seq .leaf (.seq .leaf (.cond .leaf .leaf))) (.seq .leaf (.seq (.seq .leaf (.block none (.sum YT N13 r0))) (.seq .leaf .leaf))))))))))))))
def G2 (f : Nat) (rc : List PV -> Int -> List PV -> List PV -> Option Res) (k0 : Bool -> Option Res) (k1 : Option Res) (v0 : List PV) (v1 : Int) (v2 v3 : List PV) : Option Res := bif decide (v1 < 2) then bif decide (0 <= v1) && decide (v1 < zi v0.length) && (PV.isSt 31 3 (v0.getD v1.toNat PV.top) && (PV.isRo 5 (PV.child 0 (v0.getD v1.toNat PV.top)) && (PV.isRo 5 (PV.child 1 (v0.getD v1.toNat PV.top)) && (PV.isRo 5 (PV.child 2 (v0.getD v1.toNat PV.top)) && true)))) && true then bif slB false v2 && byB v2 && (h32 v3 && kO3 [.ro 5 (PV.child 0 (v0.getD v1.toNat PV.top)).nl (PV.child 0 (v0.getD v1.toNat PV.top)).fl (PV.child 0 (v0.getD v1.toNat PV.top)).els, .ro 5 (PV.child 1 (v0.getD v1.toNat PV.top)).nl (PV.child 1 (v0.getD v1.toNat PV.top)).fl (PV.child 1 (v0.getD v1.toNat PV.top)).els, .ro 5 (PV.child 2 (v0.getD v1.toNat PV.top)).nl (PV.child 2 (v0.getD v1.toNat PV.top)).fl (PV.child 2 (v0.getD v1.toNat PV.top)).els]) then bif decide (0 <= v1) && decide (v1 < zi v0.length) && (PV.isSt 31 3 (v0.getD v1.toNat PV.top) && (PV.isRo 5 (PV.child 0 (v0.getD v1.toNat PV.top)) && (PV.isRo 5 (PV.child 1 (v0.getD v1.toNat PV.top)) && (PV.isRo 5 (PV.child 2 (v0.getD v1.toNat PV.top)) && true)))) && true then bif byB v2 && v2.length.ble 1000000000 && (h32 v3 && kO3 [.ro 5 (PV.child 0 (v0.getD v1.toNat PV.top)).nl (PV.child 0 (v0.getD v1.toNat PV.top)).fl (PV.child 0 (v0.getD v1.toNat PV.top)).els, .ro 5 (PV.child 1 (v0.getD v1.toNat PV.top)).nl (PV.child 1 (v0.getD v1.toNat PV.top)).fl (PV.child 1 (v0.getD v1.toNat PV.top)).els, .ro 5 (PV.child 2 (v0.getD v1.toNat PV.top)).nl (PV.child 2 (v0.getD v1.toNat PV.top)).fl (PV.child 2 (v0.getD v1.toNat PV.top)).els]) then bif soE (SO.mk [.ro 5 (PV.child 0 (v0.getD v1.toNat PV.top)).nl (PV.child 0 (v0.getD v1.toNat PV.top)).fl (PV.child 0 (v0.getD v1.toNat PV.top)).els, .ro 5 (PV.child 1 (v0.getD v1.toNat PV.top)).nl (PV.child 1 (v0.getD v1.toNat PV.top)).fl (PV.child 1 (v0.getD v1.toNat PV.top)).els, .ro 5 (PV.child 2 (v0.getD v1.toNat PV.top)).nl (PV.child 2 (v0.getD v1.toNat PV.top)).fl (PV.child 2 (v0.getD v1.toNat PV.top)).els] v2 v3) != soE (SO.mk [.ro 5 (PV.child 0 (v0.getD v1.toNat PV.top)).nl (PV.child 0 (v0.getD v1.toNat PV.top)).fl (PV.child 0 (v0.getD v1.toNat PV.top)).els, .ro 5 (PV.child 1 (v0.getD v1.toNat PV.top)).nl (PV.child 1 (v0.getD v1.toNat PV.top)).fl (PV.child 1 (v0.getD v1.toNat PV.top)).els, .ro 5 (PV.child 2 (v0.getD v1.toNat PV.top)).nl (PV.child 2 (v0.getD v1.toNat PV.top)).fl (PV.child 2 (v0.getD v1.toNat PV.top)).els] v2 v3) then k0 false else bif dS (DV.mk (soF 0 (SO.mk [.ro 5 (PV.child 0 (v0.getD v1.toNat PV.top)).nl (PV.child 0 (v0.getD v1.toNat PV.top)).fl (PV.child 0 (v0.getD v1.toNat PV.top)).els, .ro 5 (PV.child 1 (v0.getD v1.toNat PV.top)).nl (PV.child 1 (v0.getD v1.toNat PV.top)).fl (PV.child 1 (v0.getD v1.toNat PV.top)).els, .ro 5 (PV.child 2 (v0.getD v1.toNat PV.top)).nl (PV.child 2 (v0.getD v1.toNat PV.top)).fl (PV.child 2 (v0.getD v1.toNat PV.top)).els] v2 v3)) (soF 1 (SO.mk [.ro 5 (PV.child 0 (v0.getD v1.toNat PV.top)).nl (PV.child 0 (v0.getD v1.toNat PV.top)).fl (PV.child 0 (v0.getD v1.toNat PV.top)).els, .ro 5 (PV.child 1 (v0.getD v1.toNat PV.top)).nl (PV.child 1 (v0.getD v1.toNat PV.top)).fl (PV.child 1 (v0.getD v1.toNat PV.top)).els, .ro 5 (PV.child 2 (v0.getD v1.toNat PV.top)).nl (PV.child 2 (v0.getD v1.toNat PV.top)).fl (PV.child 2 (v0.getD v1.toNat PV.top)).els] v2 v3)) (soF 2 (SO.mk [.ro 5 (PV.child 0 (v0.getD v1.toNat PV.top)).nl (PV.child 0 (v0.getD v1.toNat PV.top)).fl (PV.child 0 (v0.getD v1.toNat PV.top)).els, .ro 5 (PV.child 1 (v0.getD v1.toNat PV.top)).nl (PV.child 1 (v0.getD v1.toNat PV.top)).fl (PV.child 1 (v0.getD v1.toNat PV.top)).els, .ro 5 (PV.child 2 (v0.getD v1.toNat PV.top)).nl (PV.child 2 (v0.getD v1.toNat PV.top)).fl (PV.child 2 (v0.getD v1.toNat PV.top)).els] v2 v3)) (soF 3 (SO.mk [.ro 5 (PV.child 0 (v0.getD v1.toNat PV.top)).nl (PV.child 0 (v0.getD v1.toNat PV.top)).fl (PV.child 0 (v0.getD v1.toNat PV.top)).els, .ro 5 (PV.child 1 (v0.getD v1.toNat PV.top)).nl (PV.child 1 (v0.getD v1.toNat PV.top)).fl (PV.child 1 (v0.getD v1.toNat PV.top)).els, .ro 5 (PV.child 2 (v0.getD v1.toNat PV.top)).nl (PV.child 2 (v0.getD v1.toNat PV.top)).fl (PV.child 2 (v0.getD v1.toNat PV.top)).els] v2 v3)) (pu IntKind.u8 (soH (SO.mk [.ro 5 (PV.child 0 (v0.getD v1.toNat PV.top)).nl (PV.child 0 (v0.getD v1.toNat PV.top)).fl (PV.child 0 (v0.getD v1.toNat PV.top)).els, .ro 5 (PV.child 1 (v0.getD v1.toNat PV.top)).nl (PV.child 1 (v0.getD v1.toNat PV.top)).fl (PV.child 1 (v0.getD v1.toNat PV.top)).els, .ro 5 (PV.child 2 (v0.getD v1.toNat PV.top)).nl (PV.child 2 (v0.getD v1.toNat PV.top)).fl (PV.child 2 (v0.getD v1.toNat PV.top)).els] v2 v3))) (soF 4 (SO.mk [.ro 5 (PV.child 0 (v0.getD v1.toNat PV.top)).nl (PV.child 0 (v0.getD v1.toNat PV.top)).fl (PV.child 0 (v0.getD v1.toNat PV.top)).els, .ro 5 (PV.child 1 (v0.getD v1.toNat PV.top)).nl (PV.child 1 (v0.getD v1.toNat PV.top)).fl (PV.child 1 (v0.getD v1.toNat PV.top)).els, .ro 5 (PV.child 2 (v0.getD v1.toNat PV.top)).nl (PV.child 2 (v0.getD v1.toNat PV.top)).fl (PV.child 2 (v0.getD v1.toNat PV.top)).els] v2 v3)) (soO (SO.mk [.ro 5 (PV.child 0 (v0.getD v1.toNat PV.top)).nl (PV.child 0 (v0.getD v1.toNat PV.top)).fl (PV.child 0 (v0.getD v1.toNat PV.top)).els, .ro 5 (PV.child 1 (v0.getD v1.toNat PV.top)).nl (PV.child 1 (v0.getD v1.toNat PV.top)).fl (PV.child 1 (v0.getD v1.toNat PV.top)).els, .ro 5 (PV.child 2 (v0.getD v1.toNat PV.top)).nl (PV.child 2 (v0.getD v1.toNat PV.top)).fl (PV.child 2 (v0.getD v1.toNat PV.top)).els] v2 v3)) (soF 5 (SO.mk [.ro 5 (PV.child 0 (v0.getD v1.toNat PV.top)).nl (PV.child 0 (v0.getD v1.toNat PV.top)).fl (PV.child 0 (v0.getD v1.toNat PV.top)).els, .ro 5 (PV.child 1 (v0.getD v1.toNat PV.top)).nl (PV.child 1 (v0.getD v1.toNat PV.top)).fl (PV.child 1 (v0.getD v1.toNat PV.top)).els, .ro 5 (PV.child 2 (v0.getD v1.toNat PV.top)).nl (PV.child 2 (v0.getD v1.toNat PV.top)).fl (PV.child 2 (v0.getD v1.toNat PV.top)).els] v2 v3)) (soF 6 (SO.mk [.ro 5 (PV.child 0 (v0.getD v1.toNat PV.top)).nl (PV.child 0 (v0.getD v1.toNat PV.top)).fl (PV.child 0 (v0.getD v1.toNat PV.top)).els, .ro 5 (PV.child 1 (v0.getD v1.toNat PV.top)).nl (PV.child 1 (v0.getD v1.toNat PV.top)).fl (PV.child 1 (v0.getD v1.toNat PV.top)).els, .ro 5 (PV.child 2 (v0.getD v1.toNat PV.top)).nl (PV.child 2 (v0.getD v1.toNat PV.top)).fl (PV.child 2 (v0.getD v1.toNat PV.top)).els] v2 v3))) && dS (DV.mk (soF 0 (SO.mk [.ro 5 (PV.child 0 (v0.getD v1.toNat PV.top)).nl (PV.child 0 (v0.getD v1.toNat PV.top)).fl (PV.child 0 (v0.getD v1.toNat PV.top)).els, .ro 5 (PV.child 1 (v0.getD v1.toNat PV.top)).nl (PV.child 1 (v0.getD v1.toNat PV.top)).fl (PV.child 1 (v0.getD v1.toNat PV.top)).els, .ro 5 (PV.child 2 (v0.getD v1.toNat PV.top)).nl (PV.child 2 (v0.getD v1.toNat PV.top)).fl (PV.child 2 (v0.getD v1.toNat PV.top)).els] v2 v3)) (soF 1 (SO.mk [.ro 5 (PV.child 0 (v0.getD v1.toNat PV.top)).nl (PV.child 0 (v0.getD v1.toNat PV.top)).fl (PV.child 0 (v0.getD v1.toNat PV.top)).els, .ro 5 (PV.child 1 (v0.getD v1.toNat PV.top)).nl (PV.child 1 (v0.getD v1.toNat PV.top)).fl (PV.child 1 (v0.getD v1.toNat PV.top)).els, .ro 5 (PV.child 2 (v0.getD v1.toNat PV.top)).nl (PV.child 2 (v0.getD v1.toNat PV.top)).fl (PV.child 2 (v0.getD v1.toNat PV.top)).els] v2 v3)) (soF 2 (SO.mk [.ro 5 (PV.child 0 (v0.getD v1.toNat PV.top)).nl (PV.child 0 (v0.getD v1.toNat PV.top)).fl (PV.child 0 (v0.getD v1.toNat PV.top)).els, .ro 5 (PV.child 1 (v0.getD v1.toNat PV.top)).nl (PV.child 1 (v0.getD v1.toNat PV.top)).fl (PV.child 1 (v0.getD v1.toNat PV.top)).els, .ro 5 (PV.child 2 (v0.getD v1.toNat PV.top)).nl (PV.child 2 (v0.getD v1.toNat PV.top)).fl (PV.child 2 (v0.getD v1.toNat PV.top)).els] v2 v3)) (soF 3 (SO.mk [.ro 5 (PV.child 0 (v0.getD v1.toNat PV.top)).nl (PV.child 0 (v0.getD v1.toNat PV.top)).fl (PV.child 0 (v0.getD v1.toNat PV.top)).els, .ro 5 (PV.child 1 (v0.getD v1.toNat PV.top)).nl (PV.child 1 (v0.getD v1.toNat PV.top)).fl (PV.child 1 (v0.getD v1.toNat PV.top)).els, .ro 5 (PV.child 2 (v0.getD v1.toNat PV.top)).nl (PV.child 2 (v0.getD v1.toNat PV.top)).fl (PV.child 2 (v0.getD v1.toNat PV.top)).els] v2 v3)) (pu IntKind.u8 (soH (SO.mk [.ro 5 (PV.child 0 (v0.getD v1.toNat PV.top)).nl (PV.child 0 (v0.getD v1.toNat PV.top)).fl (PV.child 0 (v0.getD v1.toNat PV.top)).els, .ro 5 (PV.child 1 (v0.getD v1.toNat PV.top)).nl (PV.child 1 (v0.getD v1.toNat PV.top)).fl (PV.child 1 (v0.getD v1.toNat PV.top)).els, .ro 5 (PV.child 2 (v0.getD v1.toNat PV.top)).nl (PV.child 2 (v0.getD v1.toNat PV.top)).fl (PV.child 2 (v0.getD v1.toNat PV.top)).els] v2 v3))) (soF 4 (SO.mk [.ro 5 (PV.child 0 (v0.getD v1.toNat PV.top)).nl (PV.child 0 (v0.getD v1.toNat PV.top)).fl (PV.child 0 (v0.getD v1.toNat PV.top)).els, .ro 5 (PV.child 1 (v0.getD v1.toNat PV.top)).nl (PV.child 1 (v0.getD v1.toNat PV.top)).fl (PV.child 1 (v0.getD v1.toNat PV.top)).els, .ro 5 (PV.child 2 (v0.getD v1.toNat PV.top)).nl (PV.child 2 (v0.getD v1.toNat PV.top)).fl (PV.child 2 (v0.getD v1.toNat PV.top)).els] v2 v3)) (soO (SO.mk [.ro 5 (PV.child 0 (v0.getD v1.toNat PV.top)).nl (PV.child 0 (v0.getD v1.toNat PV.top)).fl (PV.child 0 (v0.getD v1.toNat PV.top)).els, .ro 5 (PV.child 1 (v0.getD v1.toNat PV.top)).nl (PV.child 1 (v0.getD v1.toNat PV.top)).fl (PV.child 1 (v0.getD v1.toNat PV.top)).els, .ro 5 (PV.child 2 (v0.getD v1.toNat PV.top)).nl (PV.child 2 (v0.getD v1.toNat PV.top)).fl (PV.child 2 (v0.getD v1.toNat PV.top)).els] v2 v3)) (soF 5 (SO.mk [.ro 5 (PV.child 0 (v0.getD v1.toNat PV.top)).nl (PV.child 0 (v0.getD v1.toNat PV.top)).fl (PV.child 0 (v0.getD v1.toNat PV.top)).els, .ro 5 (PV.child 1 (v0.getD v1.toNat PV.top)).nl (PV.child 1 (v0.getD v1.toNat PV.top)).fl (PV.child 1 (v0.getD v1.toNat PV.top)).els, .ro 5 (PV.child 2 (v0.getD v1.toNat PV.top)).nl (PV.child 2 (v0.getD v1.toNat PV.top)).fl (PV.child 2 (v0.getD v1.toNat PV.top)).els] v2 v3)) (soF 6 (SO.mk [.ro 5 (PV.child 0 (v0.getD v1.toNat PV.top)).nl (PV.child 0 (v0.getD v1.toNat PV.top)).fl (PV.child 0 (v0.getD v1.toNat PV.top)).els, .ro 5 (PV.child 1 (v0.getD v1.toNat PV.top)).nl (PV.child 1 (v0.getD v1.toNat PV.top)).fl (PV.child 1 (v0.getD v1.toNat PV.top)).els, .ro 5 (PV.child 2 (v0.getD v1.toNat PV.top)).nl (PV.child 2 (v0.getD v1.toNat PV.top)).fl (PV.child 2 (v0.getD v1.toNat PV.top)).els] v2 v3))) then bif !Jba (DD.mk (DV.mk (soF 0 (SO.mk [.ro 5 (PV.child 0 (v0.getD v1.toNat PV.top)).nl (PV.child 0 (v0.getD v1.toNat PV.top)).fl (PV.child 0 (v0.getD v1.toNat PV.top)).els, .ro 5 (PV.child 1 (v0.getD v1.toNat PV.top)).nl (PV.child 1 (v0.getD v1.toNat PV.top)).fl (PV.child 1 (v0.getD v1.toNat PV.top)).els, .ro 5 (PV.child 2 (v0.getD v1.toNat PV.top)).nl (PV.child 2 (v0.getD v1.toNat PV.top)).fl (PV.child 2 (v0.getD v1.toNat PV.top)).els] v2 v3)) (soF 1 (SO.mk [.ro 5 (PV.child 0 (v0.getD v1.toNat PV.top)).nl (PV.child 0 (v0.getD v1.toNat PV.top)).fl (PV.child 0 (v0.getD v1.toNat PV.top)).els, .ro 5 (PV.child 1 (v0.getD v1.toNat PV.top)).nl (PV.child 1 (v0.getD v1.toNat PV.top)).fl (PV.child 1 (v0.getD v1.toNat PV.top)).els, .ro 5 (PV.child 2 (v0.getD v1.toNat PV.top)).nl (PV.child 2 (v0.getD v1.toNat PV.top)).fl (PV.child 2 (v0.getD v1.toNat PV.top)).els] v2 v3)) (soF 2 (SO.mk [.ro 5 (PV.child 0 (v0.getD v1.toNat PV.top)).nl (PV.child 0 (v0.getD v1.toNat PV.top)).fl (PV.child 0 (v0.getD v1.toNat PV.top)).els, .ro 5 (PV.child 1 (v0.getD v1.toNat PV.top)).nl (PV.child 1 (v0.getD v1.toNat PV.top)).fl (PV.child 1 (v0.getD v1.toNat PV.top)).els, .ro 5 (PV.child 2 (v0.getD v1.toNat PV.top)).nl (PV.child 2 (v0.getD v1.toNat PV.top)).fl (PV.child 2 (v0.getD v1.toNat PV.top)).els] v2 v3)) (soF 3 (SO.mk [.ro 5 (PV.child 0 (v0.getD v1.toNat PV.top)).nl (PV.child 0 (v0.getD v1.toNat PV.top)).fl (PV.child 0 (v0.getD v1.toNat PV.top)).els, .ro 5 (PV.child 1 (v0.getD v1.toNat PV.top)).nl (PV.child 1 (v0.getD v1.toNat PV.top)).fl (PV.child 1 (v0.getD v1.toNat PV.top)).els, .ro 5 (PV.child 2 (v0.getD v1.toNat PV.top)).nl (PV.child 2 (v0.getD v1.toNat PV.top)).fl (PV.child 2 (v0.getD v1.toNat PV.top)).els] v2 v3)) (pu IntKind.u8 (soH (SO.mk [.ro 5 (PV.child 0 (v0.getD v1.toNat PV.top)).nl (PV.child 0 (v0.getD v1.toNat PV.top)).fl (PV.child 0 (v0.getD v1.toNat PV.top)).els, .ro 5 (PV.child 1 (v0.getD v1.toNat PV.top)).nl (PV.child 1 (v0.getD v1.toNat PV.top)).fl (PV.child 1 (v0.getD v1.toNat PV.top)).els, .ro 5 (PV.child 2 (v0.getD v1.toNat PV.top)).nl (PV.child 2 (v0.getD v1.toNat PV.top)).fl (PV.child 2 (v0.getD v1.toNat PV.top)).els] v2 v3))) (soF 4 (SO.mk [.ro 5 (PV.child 0 (v0.getD v1.toNat PV.top)).nl (PV.child 0 (v0.getD v1.toNat PV.top)).fl (PV.child 0 (v0.getD v1.toNat PV.top)).els, .ro 5 (PV.child 1 (v0.getD v1.toNat PV.top)).nl (PV.child 1 (v0.getD v1.toNat PV.top)).fl (PV.child 1 (v0.getD v1.toNat PV.top)).els, .ro 5 (PV.child 2 (v0.getD v1.toNat PV.top)).nl (PV.child 2 (v0.getD v1.toNat PV.top)).fl (PV.child 2 (v0.getD v1.toNat PV.top)).els] v2 v3)) (soO (SO.mk [.ro 5 (PV.child 0 (v0.getD v1.toNat PV.top)).nl (PV.child 0 (v0.getD v1.toNat PV.top)).fl (PV.child 0 (v0.getD v1.toNat PV.top)).els, .ro 5 (PV.child 1 (v0.getD v1.toNat PV.top)).nl (PV.child 1 (v0.getD v1.toNat PV.top)).fl (PV.child 1 (v0.getD v1.toNat PV.top)).els, .ro 5 (PV.child 2 (v0.getD v1.toNat PV.top)).nl (PV.child 2 (v0.getD v1.toNat PV.top)).fl (PV.child 2 (v0.getD v1.toNat PV.top)).els] v2 v3)) (soF 5 (SO.mk [.ro 5 (PV.child 0 (v0.getD v1.toNat PV.top)).nl (PV.child 0 (v0.getD v1.toNat PV.top)).fl (PV.child 0 (v0.getD v1.toNat PV.top)).els, .ro 5 (PV.child 1 (v0.getD v1.toNat PV.top)).nl (PV.child 1 (v0.getD v1.toNat PV.top)).fl (PV.child 1 (v0.getD v1.toNat PV.top)).els, .ro 5 (PV.child 2 (v0.getD v1.toNat PV.top)).nl (PV.child 2 (v0.getD v1.toNat PV.top)).fl (PV.child 2 (v0.getD v1.toNat PV.top)).els] v2 v3)) (soF 6 (SO.mk [.ro 5 (PV.child 0 (v0.getD v1.toNat PV.top)).nl (PV.child 0 (v0.getD v1.toNat PV.top)).fl (PV.child 0 (v0.getD v1.toNat PV.top)).els, .ro 5 (PV.child 1 (v0.getD v1.toNat PV.top)).nl (PV.child 1 (v0.getD v1.toNat PV.top)).fl (PV.child 1 (v0.getD v1.toNat PV.top)).els, .ro 5 (PV.child 2 (v0.getD v1.toNat PV.top)).nl (PV.child 2 (v0.getD v1.toNat PV.top)).fl (PV.child 2 (v0.getD v1.toNat PV.top)).els] v2 v3))) (DV.mk (soF 0 (SO.mk [.ro 5 (PV.child 0 (v0.getD v1.toNat PV.top)).nl (PV.child 0 (v0.getD v1.toNat PV.top)).fl (PV.child 0 (v0.getD v1.toNat PV.top)).els, .ro 5 (PV.child 1 (v0.getD v1.toNat PV.top)).nl (PV.child 1 (v0.getD v1.toNat PV.top)).fl (PV.child 1 (v0.getD v1.toNat PV.top)).els, .ro 5 (PV.child 2 (v0.getD v1.toNat PV.top)).nl (PV.child 2 (v0.getD v1.toNat PV.top)).fl (PV.child 2 (v0.getD v1.toNat PV.top)).els] v2 v3)) (soF 1 (SO.mk [.ro 5 (PV.child 0 (v0.getD v1.toNat PV.top)).nl (PV.child 0 (v0.getD v1.toNat PV.top)).fl (PV.child 0 (v0.getD v1.toNat PV.top)).els, .ro 5 (PV.child 1 (v0.getD v1.toNat PV.top)).nl (PV.child 1 (v0.getD v1.toNat PV.top)).fl (PV.child 1 (v0.getD v1.toNat PV.top)).els, .ro 5 (PV.child 2 (v0.getD v1.toNat PV.top)).nl (PV.child 2 (v0.getD v1.toNat PV.top)).fl (PV.child 2 (v0.getD v1.toNat PV.top)).els] v2 v3)) (soF 2 (SO.mk [.ro 5 (PV.child 0 (v0.getD v1.toNat PV.top)).nl (PV.child 0 (v0.getD v1.toNat PV.top)).fl (PV.child 0 (v0.getD v1.toNat PV.top)).els, .ro 5 (PV.child 1 (v0.getD v1.toNat PV.top)).nl (PV.child 1 (v0.getD v1.toNat PV.top)).fl (PV.child 1 (v0.getD v1.toNat PV.top)).els, .ro 5 (PV.child 2 (v0.getD v1.toNat PV.top)).nl (PV.child 2 (v0.getD v1.toNat PV.top)).fl (PV.child 2 (v0.getD v1.toNat PV.top)).els] v2 v3)) (soF 3 (SO.mk [.ro 5 (PV.child 0 (v0.getD v1.toNat PV.top)).nl (PV.child 0 (v0.getD v1.toNat PV.top)).fl (PV.child 0 (v0.getD v1.toNat PV.top)).els, .ro 5 (PV.child 1 (v0.getD v1.toNat PV.top)).nl (PV.child 1 (v0.getD v1.toNat PV.top)).fl (PV.child 1 (v0.getD v1.toNat PV.top)).els, .ro 5 (PV.child 2 (v0.getD v1.toNat PV.top)).nl (PV.child 2 (v0.getD v1.toNat PV.top)).fl (PV.child 2 (v0.getD v1.toNat PV.top)).els] v2 v3)) (pu IntKind.u8 (soH (SO.mk [.ro 5 (PV.child 0 (v0.getD v1.toNat PV.top)).nl (PV.child 0 (v0.getD v1.toNat PV.top)).fl (PV.child 0 (v0.getD v1.toNat PV.top)).els, .ro 5 (PV.child 1 (v0.getD v1.toNat PV.top)).nl (PV.child 1 (v0.getD v1.toNat PV.top)).fl (PV.child 1 (v0.getD v1.toNat PV.top)).els, .ro 5 (PV.child 2 (v0.getD v1.toNat PV.top)).nl (PV.child 2 (v0.getD v1.toNat PV.top)).fl (PV.child 2 (v0.getD v1.toNat PV.top)).els] v2 v3))) (soF 4 (SO.mk [.ro 5 (PV.child 0 (v0.getD v1.toNat PV.top)).nl (PV.child 0 (v0.getD v1.toNat PV.top)).fl (PV.child 0 (v0.getD v1.toNat PV.top)).els, .ro 5 (PV.child 1 (v0.getD v1.toNat PV.top)).nl (PV.child 1 (v0.getD v1.toNat PV.top)).fl (PV.child 1 (v0.getD v1.toNat PV.top)).els, .ro 5 (PV.child 2 (v0.getD v1.toNat PV.top)).nl (PV.child 2 (v0.getD v1.toNat PV.top)).fl (PV.child 2 (v0.getD v1.toNat PV.top)).els] v2 v3)) (soO (SO.mk [.ro 5 (PV.child 0 (v0.getD v1.toNat PV.top)).nl (PV.child 0 (v0.getD v1.toNat PV.top)).fl (PV.child 0 (v0.getD v1.toNat PV.top)).els, .ro 5 (PV.child 1 (v0.getD v1.toNat PV.top)).nl (PV.child 1 (v0.getD v1.toNat PV.top)).fl (PV.child 1 (v0.getD v1.toNat PV.top)).els, .ro 5 (PV.child 2 (v0.getD v1.toNat PV.top)).nl (PV.child 2 (v0.getD v1.toNat PV.top)).fl (PV.child 2 (v0.getD v1.toNat PV.top)).els] v2 v3)) (soF 5 (SO.mk [.ro 5 (PV.child 0 (v0.getD v1.toNat PV.top)).nl (PV.child 0 (v0.getD v1.toNat PV.top)).fl (PV.child 0 (v0.getD v1.toNat PV.top)).els, .ro 5 (PV.child 1 (v0.getD v1.toNat PV.top)).nl (PV.child 1 (v0.getD v1.toNat PV.top)).fl (PV.child 1 (v0.getD v1.toNat PV.top)).els, .ro 5 (PV.child 2 (v0.getD v1.toNat PV.top)).nl (PV.child 2 (v0.getD v1.toNat PV.top)).fl (PV.child 2 (v0.getD v1.toNat PV.top)).els] v2 v3)) (soF 6 (SO.mk [.ro 5 (PV.child 0 (v0.getD v1.toNat PV.top)).nl (PV.child 0 (v0.getD v1.toNat PV.top)).fl (PV.child 0 (v0.getD v1.toNat PV.top)).els, .ro 5 (PV.child 1 (v0.getD v1.toNat PV.top)).nl (PV.child 1 (v0.getD v1.toNat PV.top)).fl (PV.child 1 (v0.getD v1.toNat PV.top)).els, .ro 5 (PV.child 2 (v0.getD v1.toNat PV.top)).nl (PV.child 2 (v0.getD v1.toNat PV.top)).fl (PV.child 2 (v0.getD v1.toNat PV.top)).els] v2 v3)))) then k0 false else rc v0 (IntKind.i64.wrap (v1 + 1)) v2 v3 else none else none else none else none else none else k1
def XT (f : Nat) (k0 : Bool -> Option Res) (k1 : Option Res) : Nat -> List PV -> Int -> List PV -> List PV -> Option Res
 | 0, _, _, _, _ => none
 | n + 1, v0, v1, v2, v3 => G2 f (XT f k0 k1 n) k0 k1 v0 v1 v2 v3
theorem JrD (f : Nat) (k : Kont) (n : Nat) (v0 : List PV) (v1 : Int) (v2 v3 : List PV) : Jn tau 0 YT (fun s k => ev tau F13 0 0 JdY (QL ) s k) (n + 1) (Jd YT N13 [.ptr 2192 [], .ro 31 false false v0, .sc (.int .i64 v1)] [(2192, .box false 77 (PV.st 77 [.ro 5 false false v2, .ar 37 v3]))]) (Jt tau 0 WJ k) = G2 f (fun v0 v1 v2 v3 => Jn tau 0 YT (fun s k => ev tau F13 0 0 JdY (QL ) s k) n (Jd YT N13 [.ptr 2192 [], .ro 31 false false v0, .sc (.int .i64 v1)] [(2192, .box false 77 (PV.st 77 [.ro 5 false false v2, .ar 37 v3]))]) (Jt tau 0 WJ k)) (fun x0 => k Ex.ret (Jd WJ N13 [.sc (.bool x0)] [])) (k (Ex.exit 0) (Jd WJ N13 [PV.top] [])) v0 v1 v2 v3 := by kernel_rfl
theorem Jk0 (f : Nat) (k : Kont) : ∀ (n : Nat) (v0 : List PV) (v1 : Int) (v2 v3 : List PV), Jn tau 0 YT (fun s k => ev tau F13 0 0 JdY (QL ) s k) n (Jd YT N13 [.ptr 2192 [], .ro 31 false false v0, .sc (.int .i64 v1)] [(2192, .box false 77 (PV.st 77 [.ro 5 false false v2, .ar 37 v3]))]) (Jt tau 0 WJ k) = XT f (fun x0 => k Ex.ret (Jd WJ N13 [.sc (.bool x0)] [])) (k (Ex.exit 0) (Jd WJ N13 [PV.top] [])) n v0 v1 v2 v3 | 0, _, _, _, _ => rfl | n + 1, v0, v1, v2, v3 => (JrD f k n v0 v1 v2 v3).trans (congrArg (fun r => G2 f r (fun x0 => k Ex.ret (Jd WJ N13 [.sc (.bool x0)] [])) (k (Ex.exit 0) (Jd WJ N13 [PV.top] [])) v0 v1 v2 v3) (by funext v0 v1 v2 v3; exact Jk0 f k n v0 v1 v2 v3))
def JcJ (f : Nat) : List PV -> List (Nat × Ent) -> Kont -> Option Res
 | [.ptr 2192 [], .ro 31 false false v0,
 PV.sc
  (Value.int IntKind.i64
   v1)], [(2192,
  Ent.box false 77
   (PV.st 77 [.ro 5 false false v2, .ar 37 v3]))], k => XT f (fun x0 => k Ex.ret (Jd WJ N13 [.sc (.bool x0)] [])) (k (Ex.exit 0) (Jd WJ N13 [PV.top] [])) f v0 v1 v2 v3
 | _, _, _ => none
theorem Jxj (f : Nat) : Je JdY QL = [] := by kernel_rfl
theorem JDz (f : Nat) : (Item.l JdY YT N13 (JcJ f)).Ok tau Try.prog 0 := JI Jq Joy Jr (x := QL) (nm2 := WJ) (Js _ _ (by rw [Jxj f]; intro q hq; cases hq)) fun vs hp k res hr => by
 unfold JcJ at hr
 split at hr
 · exact ⟨f, 0, (Jk0 f _ f _ _ _ _ ).trans hr⟩
 · cases hr
def g13 (f : Nat) (y0 y1 : Bool) (key : List PV) (y2 y3 d_Id y4 : Int) (y5 : List PV) (y6 : Int) (y7 y8 : Bool) (d_Op : List PV) (y9 y10 n : Int) (ns_z ns_f : Bool) (ns : List PV) (at1 by1 : Int) (y11 y12 : Bool) (other : List PV) (k : Res -> Option Res) : Option Res := bif cOk d_Op then bif !Jir d_Op then k (Res.mk (.sc (.bool true)) [] []) else bif okW 100 then bif JcE (n % 100) ns then bif dOk (DV.mk (y2 % 3) (y3 % 8) (d_Id % 1073741825) (y4 % 1048577) y5 (gdK y6) (gdO (GO.mk y6 (n % 100) ns)) (gdW y6 y9 3) (gdW y6 y10 8)) && kO3 [.ro 5 false false (kb 0 key), .ro 5 false false (kb 1 key), .ro 5 false false (kb 2 key)] then bif dOk (DV.mk (y2 % 3) (y3 % 8) (d_Id % 1073741825) (y4 % 1048577) y5 (gdK y6) (gdO (GO.mk y6 (n % 100) ns)) (gdW y6 y9 3) (gdW y6 y10 8)) && (kO3 [.ro 5 false false (kb 0 key), .ro 5 false false (kb 1 key), .ro 5 false false (kb 2 key)] && kIn (y2 % 3)) then bif Jh IntKind.u8 (pu IntKind.u8 (dlB (DV.mk (y2 % 3) (y3 % 8) (d_Id % 1073741825) (y4 % 1048577) y5 (gdK y6) (gdO (GO.mk y6 (n % 100) ns)) (gdW y6 y9 3) (gdW y6 y10 8)))) && true then bif Jh IntKind.u8 (pu IntKind.u8 (dlB (DV.mk (y2 % 3) (y3 % 8) (d_Id % 1073741825) (y4 % 1048577) y5 (gdK y6) (gdO (GO.mk y6 (n % 100) ns)) (gdW y6 y9 3) (gdW y6 y10 8)))) && true then bif Xg (ByteArray.mk (Array.mk (Jp (pu IntKind.u8 (dlB (DV.mk (y2 % 3) (y3 % 8) (d_Id % 1073741825) (y4 % 1048577) y5 (gdK y6) (gdO (GO.mk y6 (n % 100) ns)) (gdW y6 y9 3) (gdW y6 y10 8))))))) (ByteArray.mk (Array.mk (Jp (pu IntKind.u8 (dlB (DV.mk (y2 % 3) (y3 % 8) (d_Id % 1073741825) (y4 % 1048577) y5 (gdK y6) (gdO (GO.mk y6 (n % 100) ns)) (gdW y6 y9 3) (gdW y6 y10 8))))))) then bif decide ((pu IntKind.u8 (mcK (MK.mk [.ro 5 false false (kb 0 key), .ro 5 false false (kb 1 key), .ro 5 false false (kb 2 key)] (y2 % 3) (dlB (DV.mk (y2 % 3) (y3 % 8) (d_Id % 1073741825) (y4 % 1048577) y5 (gdK y6) (gdO (GO.mk y6 (n % 100) ns)) (gdW y6 y9 3) (gdW y6 y10 8)))))).length = 32) && decide ((pu IntKind.u8 (mcK (MK.mk [.ro 5 false false (kb 0 key), .ro 5 false false (kb 1 key), .ro 5 false false (kb 2 key)] (y2 % 3) (dlB (DV.mk (y2 % 3) (y3 % 8) (d_Id % 1073741825) (y4 % 1048577) y5 (gdK y6) (gdO (GO.mk y6 (n % 100) ns)) (gdW y6 y9 3) (gdW y6 y10 8)))))).length = 32) && Jh IntKind.u8 (pu IntKind.u8 (mcK (MK.mk [.ro 5 false false (kb 0 key), .ro 5 false false (kb 1 key), .ro 5 false false (kb 2 key)] (y2 % 3) (dlB (DV.mk (y2 % 3) (y3 % 8) (d_Id % 1073741825) (y4 % 1048577) y5 (gdK y6) (gdO (GO.mk y6 (n % 100) ns)) (gdW y6 y9 3) (gdW y6 y10 8)))))) && Jh IntKind.u8 (pu IntKind.u8 (mcK (MK.mk [.ro 5 false false (kb 0 key), .ro 5 false false (kb 1 key), .ro 5 false false (kb 2 key)] (y2 % 3) (dlB (DV.mk (y2 % 3) (y3 % 8) (d_Id % 1073741825) (y4 % 1048577) y5 (gdK y6) (gdO (GO.mk y6 (n % 100) ns)) (gdW y6 y9 3) (gdW y6 y10 8)))))) && true then bif !Ql (pu IntKind.u8 (mcK (MK.mk [.ro 5 false false (kb 0 key), .ro 5 false false (kb 1 key), .ro 5 false false (kb 2 key)] (y2 % 3) (dlB (DV.mk (y2 % 3) (y3 % 8) (d_Id % 1073741825) (y4 % 1048577) y5 (gdK y6) (gdO (GO.mk y6 (n % 100) ns)) (gdW y6 y9 3) (gdW y6 y10 8)))))) (pu IntKind.u8 (mcK (MK.mk [.ro 5 false false (kb 0 key), .ro 5 false false (kb 1 key), .ro 5 false false (kb 2 key)] (y2 % 3) (dlB (DV.mk (y2 % 3) (y3 % 8) (d_Id % 1073741825) (y4 % 1048577) y5 (gdK y6) (gdO (GO.mk y6 (n % 100) ns)) (gdW y6 y9 3) (gdW y6 y10 8)))))) then k (Res.mk (.sc (.bool false)) [] []) else bif slB false (pu IntKind.u8 (dlB (DV.mk (y2 % 3) (y3 % 8) (d_Id % 1073741825) (y4 % 1048577) y5 (gdK y6) (gdO (GO.mk y6 (n % 100) ns)) (gdW y6 y9 3) (gdW y6 y10 8)))) && byB (pu IntKind.u8 (dlB (DV.mk (y2 % 3) (y3 % 8) (d_Id % 1073741825) (y4 % 1048577) y5 (gdK y6) (gdO (GO.mk y6 (n % 100) ns)) (gdW y6 y9 3) (gdW y6 y10 8)))) && (h32 (pu IntKind.u8 (mcK (MK.mk [.ro 5 false false (kb 0 key), .ro 5 false false (kb 1 key), .ro 5 false false (kb 2 key)] (y2 % 3) (dlB (DV.mk (y2 % 3) (y3 % 8) (d_Id % 1073741825) (y4 % 1048577) y5 (gdK y6) (gdO (GO.mk y6 (n % 100) ns)) (gdW y6 y9 3) (gdW y6 y10 8)))))) && kO3 [.ro 5 false false (kb 0 key), .ro 5 false false (kb 1 key), .ro 5 false false (kb 2 key)]) then bif soE (SO.mk [.ro 5 false false (kb 0 key), .ro 5 false false (kb 1 key), .ro 5 false false (kb 2 key)] (pu IntKind.u8 (dlB (DV.mk (y2 % 3) (y3 % 8) (d_Id % 1073741825) (y4 % 1048577) y5 (gdK y6) (gdO (GO.mk y6 (n % 100) ns)) (gdW y6 y9 3) (gdW y6 y10 8)))) (pu IntKind.u8 (mcK (MK.mk [.ro 5 false false (kb 0 key), .ro 5 false false (kb 1 key), .ro 5 false false (kb 2 key)] (y2 % 3) (dlB (DV.mk (y2 % 3) (y3 % 8) (d_Id % 1073741825) (y4 % 1048577) y5 (gdK y6) (gdO (GO.mk y6 (n % 100) ns)) (gdW y6 y9 3) (gdW y6 y10 8))))))) != 0 then k (Res.mk (.sc (.bool false)) [] []) else bif dS (DV.mk (soF 0 (SO.mk [.ro 5 false false (kb 0 key), .ro 5 false false (kb 1 key), .ro 5 false false (kb 2 key)] (pu IntKind.u8 (dlB (DV.mk (y2 % 3) (y3 % 8) (d_Id % 1073741825) (y4 % 1048577) y5 (gdK y6) (gdO (GO.mk y6 (n % 100) ns)) (gdW y6 y9 3) (gdW y6 y10 8)))) (pu IntKind.u8 (mcK (MK.mk [.ro 5 false false (kb 0 key), .ro 5 false false (kb 1 key), .ro 5 false false (kb 2 key)] (y2 % 3) (dlB (DV.mk (y2 % 3) (y3 % 8) (d_Id % 1073741825) (y4 % 1048577) y5 (gdK y6) (gdO (GO.mk y6 (n % 100) ns)) (gdW y6 y9 3) (gdW y6 y10 8)))))))) (soF 1 (SO.mk [.ro 5 false false (kb 0 key), .ro 5 false false (kb 1 key), .ro 5 false false (kb 2 key)] (pu IntKind.u8 (dlB (DV.mk (y2 % 3) (y3 % 8) (d_Id % 1073741825) (y4 % 1048577) y5 (gdK y6) (gdO (GO.mk y6 (n % 100) ns)) (gdW y6 y9 3) (gdW y6 y10 8)))) (pu IntKind.u8 (mcK (MK.mk [.ro 5 false false (kb 0 key), .ro 5 false false (kb 1 key), .ro 5 false false (kb 2 key)] (y2 % 3) (dlB (DV.mk (y2 % 3) (y3 % 8) (d_Id % 1073741825) (y4 % 1048577) y5 (gdK y6) (gdO (GO.mk y6 (n % 100) ns)) (gdW y6 y9 3) (gdW y6 y10 8)))))))) (soF 2 (SO.mk [.ro 5 false false (kb 0 key), .ro 5 false false (kb 1 key), .ro 5 false false (kb 2 key)] (pu IntKind.u8 (dlB (DV.mk (y2 % 3) (y3 % 8) (d_Id % 1073741825) (y4 % 1048577) y5 (gdK y6) (gdO (GO.mk y6 (n % 100) ns)) (gdW y6 y9 3) (gdW y6 y10 8)))) (pu IntKind.u8 (mcK (MK.mk [.ro 5 false false (kb 0 key), .ro 5 false false (kb 1 key), .ro 5 false false (kb 2 key)] (y2 % 3) (dlB (DV.mk (y2 % 3) (y3 % 8) (d_Id % 1073741825) (y4 % 1048577) y5 (gdK y6) (gdO (GO.mk y6 (n % 100) ns)) (gdW y6 y9 3) (gdW y6 y10 8)))))))) (soF 3 (SO.mk [.ro 5 false false (kb 0 key), .ro 5 false false (kb 1 key), .ro 5 false false (kb 2 key)] (pu IntKind.u8 (dlB (DV.mk (y2 % 3) (y3 % 8) (d_Id % 1073741825) (y4 % 1048577) y5 (gdK y6) (gdO (GO.mk y6 (n % 100) ns)) (gdW y6 y9 3) (gdW y6 y10 8)))) (pu IntKind.u8 (mcK (MK.mk [.ro 5 false false (kb 0 key), .ro 5 false false (kb 1 key), .ro 5 false false (kb 2 key)] (y2 % 3) (dlB (DV.mk (y2 % 3) (y3 % 8) (d_Id % 1073741825) (y4 % 1048577) y5 (gdK y6) (gdO (GO.mk y6 (n % 100) ns)) (gdW y6 y9 3) (gdW y6 y10 8)))))))) (pu IntKind.u8 (soH (SO.mk [.ro 5 false false (kb 0 key), .ro 5 false false (kb 1 key), .ro 5 false false (kb 2 key)] (pu IntKind.u8 (dlB (DV.mk (y2 % 3) (y3 % 8) (d_Id % 1073741825) (y4 % 1048577) y5 (gdK y6) (gdO (GO.mk y6 (n % 100) ns)) (gdW y6 y9 3) (gdW y6 y10 8)))) (pu IntKind.u8 (mcK (MK.mk [.ro 5 false false (kb 0 key), .ro 5 false false (kb 1 key), .ro 5 false false (kb 2 key)] (y2 % 3) (dlB (DV.mk (y2 % 3) (y3 % 8) (d_Id % 1073741825) (y4 % 1048577) y5 (gdK y6) (gdO (GO.mk y6 (n % 100) ns)) (gdW y6 y9 3) (gdW y6 y10 8))))))))) (soF 4 (SO.mk [.ro 5 false false (kb 0 key), .ro 5 false false (kb 1 key), .ro 5 false false (kb 2 key)] (pu IntKind.u8 (dlB (DV.mk (y2 % 3) (y3 % 8) (d_Id % 1073741825) (y4 % 1048577) y5 (gdK y6) (gdO (GO.mk y6 (n % 100) ns)) (gdW y6 y9 3) (gdW y6 y10 8)))) (pu IntKind.u8 (mcK (MK.mk [.ro 5 false false (kb 0 key), .ro 5 false false (kb 1 key), .ro 5 false false (kb 2 key)] (y2 % 3) (dlB (DV.mk (y2 % 3) (y3 % 8) (d_Id % 1073741825) (y4 % 1048577) y5 (gdK y6) (gdO (GO.mk y6 (n % 100) ns)) (gdW y6 y9 3) (gdW y6 y10 8)))))))) (soO (SO.mk [.ro 5 false false (kb 0 key), .ro 5 false false (kb 1 key), .ro 5 false false (kb 2 key)] (pu IntKind.u8 (dlB (DV.mk (y2 % 3) (y3 % 8) (d_Id % 1073741825) (y4 % 1048577) y5 (gdK y6) (gdO (GO.mk y6 (n % 100) ns)) (gdW y6 y9 3) (gdW y6 y10 8)))) (pu IntKind.u8 (mcK (MK.mk [.ro 5 false false (kb 0 key), .ro 5 false false (kb 1 key), .ro 5 false false (kb 2 key)] (y2 % 3) (dlB (DV.mk (y2 % 3) (y3 % 8) (d_Id % 1073741825) (y4 % 1048577) y5 (gdK y6) (gdO (GO.mk y6 (n % 100) ns)) (gdW y6 y9 3) (gdW y6 y10 8)))))))) (soF 5 (SO.mk [.ro 5 false false (kb 0 key), .ro 5 false false (kb 1 key), .ro 5 false false (kb 2 key)] (pu IntKind.u8 (dlB (DV.mk (y2 % 3) (y3 % 8) (d_Id % 1073741825) (y4 % 1048577) y5 (gdK y6) (gdO (GO.mk y6 (n % 100) ns)) (gdW y6 y9 3) (gdW y6 y10 8)))) (pu IntKind.u8 (mcK (MK.mk [.ro 5 false false (kb 0 key), .ro 5 false false (kb 1 key), .ro 5 false false (kb 2 key)] (y2 % 3) (dlB (DV.mk (y2 % 3) (y3 % 8) (d_Id % 1073741825) (y4 % 1048577) y5 (gdK y6) (gdO (GO.mk y6 (n % 100) ns)) (gdW y6 y9 3) (gdW y6 y10 8)))))))) (soF 6 (SO.mk [.ro 5 false false (kb 0 key), .ro 5 false false (kb 1 key), .ro 5 false false (kb 2 key)] (pu IntKind.u8 (dlB (DV.mk (y2 % 3) (y3 % 8) (d_Id % 1073741825) (y4 % 1048577) y5 (gdK y6) (gdO (GO.mk y6 (n % 100) ns)) (gdW y6 y9 3) (gdW y6 y10 8)))) (pu IntKind.u8 (mcK (MK.mk [.ro 5 false false (kb 0 key), .ro 5 false false (kb 1 key), .ro 5 false false (kb 2 key)] (y2 % 3) (dlB (DV.mk (y2 % 3) (y3 % 8) (d_Id % 1073741825) (y4 % 1048577) y5 (gdK y6) (gdO (GO.mk y6 (n % 100) ns)) (gdW y6 y9 3) (gdW y6 y10 8))))))))) && dS (DV.mk (y2 % 3) (y3 % 8) (d_Id % 1073741825) (y4 % 1048577) y5 (gdK y6) (gdO (GO.mk y6 (n % 100) ns)) (gdW y6 y9 3) (gdW y6 y10 8)) then bif !Jba (DD.mk (DV.mk (soF 0 (SO.mk [.ro 5 false false (kb 0 key), .ro 5 false false (kb 1 key), .ro 5 false false (kb 2 key)] (pu IntKind.u8 (dlB (DV.mk (y2 % 3) (y3 % 8) (d_Id % 1073741825) (y4 % 1048577) y5 (gdK y6) (gdO (GO.mk y6 (n % 100) ns)) (gdW y6 y9 3) (gdW y6 y10 8)))) (pu IntKind.u8 (mcK (MK.mk [.ro 5 false false (kb 0 key), .ro 5 false false (kb 1 key), .ro 5 false false (kb 2 key)] (y2 % 3) (dlB (DV.mk (y2 % 3) (y3 % 8) (d_Id % 1073741825) (y4 % 1048577) y5 (gdK y6) (gdO (GO.mk y6 (n % 100) ns)) (gdW y6 y9 3) (gdW y6 y10 8)))))))) (soF 1 (SO.mk [.ro 5 false false (kb 0 key), .ro 5 false false (kb 1 key), .ro 5 false false (kb 2 key)] (pu IntKind.u8 (dlB (DV.mk (y2 % 3) (y3 % 8) (d_Id % 1073741825) (y4 % 1048577) y5 (gdK y6) (gdO (GO.mk y6 (n % 100) ns)) (gdW y6 y9 3) (gdW y6 y10 8)))) (pu IntKind.u8 (mcK (MK.mk [.ro 5 false false (kb 0 key), .ro 5 false false (kb 1 key), .ro 5 false false (kb 2 key)] (y2 % 3) (dlB (DV.mk (y2 % 3) (y3 % 8) (d_Id % 1073741825) (y4 % 1048577) y5 (gdK y6) (gdO (GO.mk y6 (n % 100) ns)) (gdW y6 y9 3) (gdW y6 y10 8)))))))) (soF 2 (SO.mk [.ro 5 false false (kb 0 key), .ro 5 false false (kb 1 key), .ro 5 false false (kb 2 key)] (pu IntKind.u8 (dlB (DV.mk (y2 % 3) (y3 % 8) (d_Id % 1073741825) (y4 % 1048577) y5 (gdK y6) (gdO (GO.mk y6 (n % 100) ns)) (gdW y6 y9 3) (gdW y6 y10 8)))) (pu IntKind.u8 (mcK (MK.mk [.ro 5 false false (kb 0 key), .ro 5 false false (kb 1 key), .ro 5 false false (kb 2 key)] (y2 % 3) (dlB (DV.mk (y2 % 3) (y3 % 8) (d_Id % 1073741825) (y4 % 1048577) y5 (gdK y6) (gdO (GO.mk y6 (n % 100) ns)) (gdW y6 y9 3) (gdW y6 y10 8)))))))) (soF 3 (SO.mk [.ro 5 false false (kb 0 key), .ro 5 false false (kb 1 key), .ro 5 false false (kb 2 key)] (pu IntKind.u8 (dlB (DV.mk (y2 % 3) (y3 % 8) (d_Id % 1073741825) (y4 % 1048577) y5 (gdK y6) (gdO (GO.mk y6 (n % 100) ns)) (gdW y6 y9 3) (gdW y6 y10 8)))) (pu IntKind.u8 (mcK (MK.mk [.ro 5 false false (kb 0 key), .ro 5 false false (kb 1 key), .ro 5 false false (kb 2 key)] (y2 % 3) (dlB (DV.mk (y2 % 3) (y3 % 8) (d_Id % 1073741825) (y4 % 1048577) y5 (gdK y6) (gdO (GO.mk y6 (n % 100) ns)) (gdW y6 y9 3) (gdW y6 y10 8)))))))) (pu IntKind.u8 (soH (SO.mk [.ro 5 false false (kb 0 key), .ro 5 false false (kb 1 key), .ro 5 false false (kb 2 key)] (pu IntKind.u8 (dlB (DV.mk (y2 % 3) (y3 % 8) (d_Id % 1073741825) (y4 % 1048577) y5 (gdK y6) (gdO (GO.mk y6 (n % 100) ns)) (gdW y6 y9 3) (gdW y6 y10 8)))) (pu IntKind.u8 (mcK (MK.mk [.ro 5 false false (kb 0 key), .ro 5 false false (kb 1 key), .ro 5 false false (kb 2 key)] (y2 % 3) (dlB (DV.mk (y2 % 3) (y3 % 8) (d_Id % 1073741825) (y4 % 1048577) y5 (gdK y6) (gdO (GO.mk y6 (n % 100) ns)) (gdW y6 y9 3) (gdW y6 y10 8))))))))) (soF 4 (SO.mk [.ro 5 false false (kb 0 key), .ro 5 false false (kb 1 key), .ro 5 false false (kb 2 key)] (pu IntKind.u8 (dlB (DV.mk (y2 % 3) (y3 % 8) (d_Id % 1073741825) (y4 % 1048577) y5 (gdK y6) (gdO (GO.mk y6 (n % 100) ns)) (gdW y6 y9 3) (gdW y6 y10 8)))) (pu IntKind.u8 (mcK (MK.mk [.ro 5 false false (kb 0 key), .ro 5 false false (kb 1 key), .ro 5 false false (kb 2 key)] (y2 % 3) (dlB (DV.mk (y2 % 3) (y3 % 8) (d_Id % 1073741825) (y4 % 1048577) y5 (gdK y6) (gdO (GO.mk y6 (n % 100) ns)) (gdW y6 y9 3) (gdW y6 y10 8)))))))) (soO (SO.mk [.ro 5 false false (kb 0 key), .ro 5 false false (kb 1 key), .ro 5 false false (kb 2 key)] (pu IntKind.u8 (dlB (DV.mk (y2 % 3) (y3 % 8) (d_Id % 1073741825) (y4 % 1048577) y5 (gdK y6) (gdO (GO.mk y6 (n % 100) ns)) (gdW y6 y9 3) (gdW y6 y10 8)))) (pu IntKind.u8 (mcK (MK.mk [.ro 5 false false (kb 0 key), .ro 5 false false (kb 1 key), .ro 5 false false (kb 2 key)] (y2 % 3) (dlB (DV.mk (y2 % 3) (y3 % 8) (d_Id % 1073741825) (y4 % 1048577) y5 (gdK y6) (gdO (GO.mk y6 (n % 100) ns)) (gdW y6 y9 3) (gdW y6 y10 8)))))))) (soF 5 (SO.mk [.ro 5 false false (kb 0 key), .ro 5 false false (kb 1 key), .ro 5 false false (kb 2 key)] (pu IntKind.u8 (dlB (DV.mk (y2 % 3) (y3 % 8) (d_Id % 1073741825) (y4 % 1048577) y5 (gdK y6) (gdO (GO.mk y6 (n % 100) ns)) (gdW y6 y9 3) (gdW y6 y10 8)))) (pu IntKind.u8 (mcK (MK.mk [.ro 5 false false (kb 0 key), .ro 5 false false (kb 1 key), .ro 5 false false (kb 2 key)] (y2 % 3) (dlB (DV.mk (y2 % 3) (y3 % 8) (d_Id % 1073741825) (y4 % 1048577) y5 (gdK y6) (gdO (GO.mk y6 (n % 100) ns)) (gdW y6 y9 3) (gdW y6 y10 8)))))))) (soF 6 (SO.mk [.ro 5 false false (kb 0 key), .ro 5 false false (kb 1 key), .ro 5 false false (kb 2 key)] (pu IntKind.u8 (dlB (DV.mk (y2 % 3) (y3 % 8) (d_Id % 1073741825) (y4 % 1048577) y5 (gdK y6) (gdO (GO.mk y6 (n % 100) ns)) (gdW y6 y9 3) (gdW y6 y10 8)))) (pu IntKind.u8 (mcK (MK.mk [.ro 5 false false (kb 0 key), .ro 5 false false (kb 1 key), .ro 5 false false (kb 2 key)] (y2 % 3) (dlB (DV.mk (y2 % 3) (y3 % 8) (d_Id % 1073741825) (y4 % 1048577) y5 (gdK y6) (gdO (GO.mk y6 (n % 100) ns)) (gdW y6 y9 3) (gdW y6 y10 8))))))))) (DV.mk (y2 % 3) (y3 % 8) (d_Id % 1073741825) (y4 % 1048577) y5 (gdK y6) (gdO (GO.mk y6 (n % 100) ns)) (gdW y6 y9 3) (gdW y6 y10 8))) then k (Res.mk (.sc (.bool false)) [] []) else bif Jl (0 + (pu IntKind.u8 (dlB (DV.mk (y2 % 3) (y3 % 8) (d_Id % 1073741825) (y4 % 1048577) y5 (gdK y6) (gdO (GO.mk y6 (n % 100) ns)) (gdW y6 y9 3) (gdW y6 y10 8)))).length) 1 && true then bif okW (IntKind.i64.wrap (zi (0 + (pu IntKind.u8 (dlB (DV.mk (y2 % 3) (y3 % 8) (d_Id % 1073741825) (y4 % 1048577) y5 (gdK y6) (gdO (GO.mk y6 (n % 100) ns)) (gdW y6 y9 3) (gdW y6 y10 8)))).length) + 32)) then bif decide (at1 % IntKind.i64.wrap (zi (0 + (pu IntKind.u8 (dlB (DV.mk (y2 % 3) (y3 % 8) (d_Id % 1073741825) (y4 % 1048577) y5 (gdK y6) (gdO (GO.mk y6 (n % 100) ns)) (gdW y6 y9 3) (gdW y6 y10 8)))).length) + 32) < zi (0 + (pu IntKind.u8 (dlB (DV.mk (y2 % 3) (y3 % 8) (d_Id % 1073741825) (y4 % 1048577) y5 (gdK y6) (gdO (GO.mk y6 (n % 100) ns)) (gdW y6 y9 3) (gdW y6 y10 8)))).length)) then bif decide (0 <= at1 % IntKind.i64.wrap (zi (0 + (pu IntKind.u8 (dlB (DV.mk (y2 % 3) (y3 % 8) (d_Id % 1073741825) (y4 % 1048577) y5 (gdK y6) (gdO (GO.mk y6 (n % 100) ns)) (gdW y6 y9 3) (gdW y6 y10 8)))).length) + 32)) && decide (at1 % IntKind.i64.wrap (zi (0 + (pu IntKind.u8 (dlB (DV.mk (y2 % 3) (y3 % 8) (d_Id % 1073741825) (y4 % 1048577) y5 (gdK y6) (gdO (GO.mk y6 (n % 100) ns)) (gdW y6 y9 3) (gdW y6 y10 8)))).length) + 32) < zi (0 + (pu IntKind.u8 (dlB (DV.mk (y2 % 3) (y3 % 8) (d_Id % 1073741825) (y4 % 1048577) y5 (gdK y6) (gdO (GO.mk y6 (n % 100) ns)) (gdW y6 y9 3) (gdW y6 y10 8)))).length)) && true then bif PV.isInt IntKind.u8 (Jm ((pu IntKind.u8 (dlB (DV.mk (y2 % 3) (y3 % 8) (d_Id % 1073741825) (y4 % 1048577) y5 (gdK y6) (gdO (GO.mk y6 (n % 100) ns)) (gdW y6 y9 3) (gdW y6 y10 8)))).getD (0 + (at1 % IntKind.i64.wrap (zi (0 + (pu IntKind.u8 (dlB (DV.mk (y2 % 3) (y3 % 8) (d_Id % 1073741825) (y4 % 1048577) y5 (gdK y6) (gdO (GO.mk y6 (n % 100) ns)) (gdW y6 y9 3) (gdW y6 y10 8)))).length) + 32)).toNat) PV.top) []) && true then bif decide (0 <= at1 % IntKind.i64.wrap (zi (0 + (pu IntKind.u8 (dlB (DV.mk (y2 % 3) (y3 % 8) (d_Id % 1073741825) (y4 % 1048577) y5 (gdK y6) (gdO (GO.mk y6 (n % 100) ns)) (gdW y6 y9 3) (gdW y6 y10 8)))).length) + 32)) && decide (at1 % IntKind.i64.wrap (zi (0 + (pu IntKind.u8 (dlB (DV.mk (y2 % 3) (y3 % 8) (d_Id % 1073741825) (y4 % 1048577) y5 (gdK y6) (gdO (GO.mk y6 (n % 100) ns)) (gdW y6 y9 3) (gdW y6 y10 8)))).length) + 32) < zi (0 + (pu IntKind.u8 (dlB (DV.mk (y2 % 3) (y3 % 8) (d_Id % 1073741825) (y4 % 1048577) y5 (gdK y6) (gdO (GO.mk y6 (n % 100) ns)) (gdW y6 y9 3) (gdW y6 y10 8)))).length)) && true then XT f (fun x0_0 => k (Res.mk (.sc (.bool x0_0)) [] [])) (k (Res.mk (.sc (.bool true)) [] [])) f ([.st 31 [.ro 5 false false (kb 0 key), .ro 5 false false (kb 1 key), .ro 5 false false (kb 2 key)], .st 31 [.ro 5 false false (kb 0 other), .ro 5 false false (kb 1 other), .ro 5 false false (kb 2 other)]]) (0) (List.take (0 + (pu IntKind.u8 (dlB (DV.mk (y2 % 3) (y3 % 8) (d_Id % 1073741825) (y4 % 1048577) y5 (gdK y6) (gdO (GO.mk y6 (n % 100) ns)) (gdW y6 y9 3) (gdW y6 y10 8)))).length) ((pu IntKind.u8 (dlB (DV.mk (y2 % 3) (y3 % 8) (d_Id % 1073741825) (y4 % 1048577) y5 (gdK y6) (gdO (GO.mk y6 (n % 100) ns)) (gdW y6 y9 3) (gdW y6 y10 8)))).set (0 + (at1 % IntKind.i64.wrap (zi (0 + (pu IntKind.u8 (dlB (DV.mk (y2 % 3) (y3 % 8) (d_Id % 1073741825) (y4 % 1048577) y5 (gdK y6) (gdO (GO.mk y6 (n % 100) ns)) (gdW y6 y9 3) (gdW y6 y10 8)))).length) + 32)).toNat) (.sc (.int .u8 (IntKind.u8.wrap ((Jm ((pu IntKind.u8 (dlB (DV.mk (y2 % 3) (y3 % 8) (d_Id % 1073741825) (y4 % 1048577) y5 (gdK y6) (gdO (GO.mk y6 (n % 100) ns)) (gdW y6 y9 3) (gdW y6 y10 8)))).getD (0 + (at1 % IntKind.i64.wrap (zi (0 + (pu IntKind.u8 (dlB (DV.mk (y2 % 3) (y3 % 8) (d_Id % 1073741825) (y4 % 1048577) y5 (gdK y6) (gdO (GO.mk y6 (n % 100) ns)) (gdW y6 y9 3) (gdW y6 y10 8)))).length) + 32)).toNat) PV.top) []).int + by1)))))) (pu IntKind.u8 (mcK (MK.mk [.ro 5 false false (kb 0 key), .ro 5 false false (kb 1 key), .ro 5 false false (kb 2 key)] (y2 % 3) (dlB (DV.mk (y2 % 3) (y3 % 8) (d_Id % 1073741825) (y4 % 1048577) y5 (gdK y6) (gdO (GO.mk y6 (n % 100) ns)) (gdW y6 y9 3) (gdW y6 y10 8)))))) else none else none else none else bif decide (0 <= IntKind.i64.wrap (at1 % IntKind.i64.wrap (zi (0 + (pu IntKind.u8 (dlB (DV.mk (y2 % 3) (y3 % 8) (d_Id % 1073741825) (y4 % 1048577) y5 (gdK y6) (gdO (GO.mk y6 (n % 100) ns)) (gdW y6 y9 3) (gdW y6 y10 8)))).length) + 32) - zi (0 + (pu IntKind.u8 (dlB (DV.mk (y2 % 3) (y3 % 8) (d_Id % 1073741825) (y4 % 1048577) y5 (gdK y6) (gdO (GO.mk y6 (n % 100) ns)) (gdW y6 y9 3) (gdW y6 y10 8)))).length))) && decide (IntKind.i64.wrap (at1 % IntKind.i64.wrap (zi (0 + (pu IntKind.u8 (dlB (DV.mk (y2 % 3) (y3 % 8) (d_Id % 1073741825) (y4 % 1048577) y5 (gdK y6) (gdO (GO.mk y6 (n % 100) ns)) (gdW y6 y9 3) (gdW y6 y10 8)))).length) + 32) - zi (0 + (pu IntKind.u8 (dlB (DV.mk (y2 % 3) (y3 % 8) (d_Id % 1073741825) (y4 % 1048577) y5 (gdK y6) (gdO (GO.mk y6 (n % 100) ns)) (gdW y6 y9 3) (gdW y6 y10 8)))).length)) < zi 32) && true then bif PV.isInt IntKind.u8 (Jm (PV.st 77 [.ow 5 1072 [] 0 (0 + (pu IntKind.u8 (dlB (DV.mk (y2 % 3) (y3 % 8) (d_Id % 1073741825) (y4 % 1048577) y5 (gdK y6) (gdO (GO.mk y6 (n % 100) ns)) (gdW y6 y9 3) (gdW y6 y10 8)))).length) none, .ar 37 (pu IntKind.u8 (mcK (MK.mk [.ro 5 false false (kb 0 key), .ro 5 false false (kb 1 key), .ro 5 false false (kb 2 key)] (y2 % 3) (dlB (DV.mk (y2 % 3) (y3 % 8) (d_Id % 1073741825) (y4 % 1048577) y5 (gdK y6) (gdO (GO.mk y6 (n % 100) ns)) (gdW y6 y9 3) (gdW y6 y10 8))))))]) [1, (IntKind.i64.wrap (at1 % IntKind.i64.wrap (zi (0 + (pu IntKind.u8 (dlB (DV.mk (y2 % 3) (y3 % 8) (d_Id % 1073741825) (y4 % 1048577) y5 (gdK y6) (gdO (GO.mk y6 (n % 100) ns)) (gdW y6 y9 3) (gdW y6 y10 8)))).length) + 32) - zi (0 + (pu IntKind.u8 (dlB (DV.mk (y2 % 3) (y3 % 8) (d_Id % 1073741825) (y4 % 1048577) y5 (gdK y6) (gdO (GO.mk y6 (n % 100) ns)) (gdW y6 y9 3) (gdW y6 y10 8)))).length))).toNat]) && true then bif decide (0 <= IntKind.i64.wrap (at1 % IntKind.i64.wrap (zi (0 + (pu IntKind.u8 (dlB (DV.mk (y2 % 3) (y3 % 8) (d_Id % 1073741825) (y4 % 1048577) y5 (gdK y6) (gdO (GO.mk y6 (n % 100) ns)) (gdW y6 y9 3) (gdW y6 y10 8)))).length) + 32) - zi (0 + (pu IntKind.u8 (dlB (DV.mk (y2 % 3) (y3 % 8) (d_Id % 1073741825) (y4 % 1048577) y5 (gdK y6) (gdO (GO.mk y6 (n % 100) ns)) (gdW y6 y9 3) (gdW y6 y10 8)))).length))) && decide (IntKind.i64.wrap (at1 % IntKind.i64.wrap (zi (0 + (pu IntKind.u8 (dlB (DV.mk (y2 % 3) (y3 % 8) (d_Id % 1073741825) (y4 % 1048577) y5 (gdK y6) (gdO (GO.mk y6 (n % 100) ns)) (gdW y6 y9 3) (gdW y6 y10 8)))).length) + 32) - zi (0 + (pu IntKind.u8 (dlB (DV.mk (y2 % 3) (y3 % 8) (d_Id % 1073741825) (y4 % 1048577) y5 (gdK y6) (gdO (GO.mk y6 (n % 100) ns)) (gdW y6 y9 3) (gdW y6 y10 8)))).length)) < zi 32) && true then XT f (fun x0_2 => k (Res.mk (.sc (.bool x0_2)) [] [])) (k (Res.mk (.sc (.bool true)) [] [])) f ([.st 31 [.ro 5 false false (kb 0 key), .ro 5 false false (kb 1 key), .ro 5 false false (kb 2 key)], .st 31 [.ro 5 false false (kb 0 other), .ro 5 false false (kb 1 other), .ro 5 false false (kb 2 other)]]) (0) (List.take (0 + (pu IntKind.u8 (dlB (DV.mk (y2 % 3) (y3 % 8) (d_Id % 1073741825) (y4 % 1048577) y5 (gdK y6) (gdO (GO.mk y6 (n % 100) ns)) (gdW y6 y9 3) (gdW y6 y10 8)))).length) (pu IntKind.u8 (dlB (DV.mk (y2 % 3) (y3 % 8) (d_Id % 1073741825) (y4 % 1048577) y5 (gdK y6) (gdO (GO.mk y6 (n % 100) ns)) (gdW y6 y9 3) (gdW y6 y10 8))))) ((pu IntKind.u8 (mcK (MK.mk [.ro 5 false false (kb 0 key), .ro 5 false false (kb 1 key), .ro 5 false false (kb 2 key)] (y2 % 3) (dlB (DV.mk (y2 % 3) (y3 % 8) (d_Id % 1073741825) (y4 % 1048577) y5 (gdK y6) (gdO (GO.mk y6 (n % 100) ns)) (gdW y6 y9 3) (gdW y6 y10 8)))))).set (IntKind.i64.wrap (at1 % IntKind.i64.wrap (zi (0 + (pu IntKind.u8 (dlB (DV.mk (y2 % 3) (y3 % 8) (d_Id % 1073741825) (y4 % 1048577) y5 (gdK y6) (gdO (GO.mk y6 (n % 100) ns)) (gdW y6 y9 3) (gdW y6 y10 8)))).length) + 32) - zi (0 + (pu IntKind.u8 (dlB (DV.mk (y2 % 3) (y3 % 8) (d_Id % 1073741825) (y4 % 1048577) y5 (gdK y6) (gdO (GO.mk y6 (n % 100) ns)) (gdW y6 y9 3) (gdW y6 y10 8)))).length))).toNat (.sc (.int .u8 (IntKind.u8.wrap ((Jm (PV.st 77 [.ow 5 1072 [] 0 (0 + (pu IntKind.u8 (dlB (DV.mk (y2 % 3) (y3 % 8) (d_Id % 1073741825) (y4 % 1048577) y5 (gdK y6) (gdO (GO.mk y6 (n % 100) ns)) (gdW y6 y9 3) (gdW y6 y10 8)))).length) none, .ar 37 (pu IntKind.u8 (mcK (MK.mk [.ro 5 false false (kb 0 key), .ro 5 false false (kb 1 key), .ro 5 false false (kb 2 key)] (y2 % 3) (dlB (DV.mk (y2 % 3) (y3 % 8) (d_Id % 1073741825) (y4 % 1048577) y5 (gdK y6) (gdO (GO.mk y6 (n % 100) ns)) (gdW y6 y9 3) (gdW y6 y10 8))))))]) [1, (IntKind.i64.wrap (at1 % IntKind.i64.wrap (zi (0 + (pu IntKind.u8 (dlB (DV.mk (y2 % 3) (y3 % 8) (d_Id % 1073741825) (y4 % 1048577) y5 (gdK y6) (gdO (GO.mk y6 (n % 100) ns)) (gdW y6 y9 3) (gdW y6 y10 8)))).length) + 32) - zi (0 + (pu IntKind.u8 (dlB (DV.mk (y2 % 3) (y3 % 8) (d_Id % 1073741825) (y4 % 1048577) y5 (gdK y6) (gdO (GO.mk y6 (n % 100) ns)) (gdW y6 y9 3) (gdW y6 y10 8)))).length))).toNat]).int + by1))))) else none else none else none else none else none else none else none else none else k (Res.mk (.sc (.bool false)) [] []) else none else none else none else none else none else none else none
theorem e13 (f : Nat) (y0 y1 : Bool) (key : List PV) (y2 y3 d_Id y4 : Int) (y5 : List PV) (y6 : Int) (y7 y8 : Bool) (d_Op : List PV) (y9 y10 n : Int) (ns_z ns_f : Bool) (ns : List PV) (at1 by1 : Int) (y11 y12 : Bool) (other : List PV) (k : Res -> Option Res) : JN tau F13 Try.f13 (Try.f13.body.get!) (JrC (JcJ f)) [.ro] 0 [.ro 5 y0 y1 key, .st 73 [.st 45 [.sc (.int .i64 y2), .sc (.int .i64 y3)], .sc (.int .i64 d_Id), .sc (.int .i64 y4), .ar 37 y5, .sc (.int .i64 y6), .ro 99 y7 y8 d_Op, .st 45 [.sc (.int .i64 y9), .sc (.int .i64 y10)]], .sc (.int .i64 n), .ro 3 ns_z ns_f ns, .sc (.int .i64 at1), .sc (.int .u8 by1), .ro 5 y11 y12 other] [] k = g13 f y0 y1 key y2 y3 d_Id y4 y5 y6 y7 y8 d_Op y9 y10 n ns_z ns_f ns at1 by1 y11 y12 other k := by kernel_rfl
theorem JGI (f : Nat) : Je (Try.f13.body.get!) (JrC (JcJ f)) = [.l JdY YT N13 (JcJ f)] := by kernel_rfl
theorem JGJ (f : Nat) : ∀ q ∈ Je (Try.f13.body.get!) (JrC (JcJ f)), q.Ok tau Try.prog 0 := by
 rw [JGI f]; simp only [List.forall_mem_cons, List.not_mem_nil, false_implies, implies_true, and_true]; exact JDz f
theorem Jxk : Try.prog.funcs[13]? = some Try.f13 := by kernel_rfl
theorem JGK : Try.f13.body = some (Try.f13.body.get!) := by kernel_rfl

-- FN wire.Bytes
structure WM where
 (l : List PV) (c : C13) (b : List PV)

-- FN
def soV (x : SO) : DV := ⟨soF 0 x, soF 1 x, soF 2 x, soF 3 x, pu .u8 (soH x), soF 4 x, soO x, soF 5 x, soF 6 x⟩
theorem Jk1 : cOk [] = true := W2.2 ⟨rfl, Nat.zero_le _⟩
theorem Jxl (b : List PV) : cOk (dO b) = true := by
 rw [JdJ]
 cases dE0 b == 0 with
 | true => exact Jfk (JiJ _)
 | false => exact Jk1
theorem JlC (b : List PV) : (dH b).length = 32 := by
 rw [JdI]
 cases dE0 b == 0 with
 | true => exact hashV_length _
 | false => exact List.length_replicate
theorem Jjb (x : SO) : (soH x).length = 32 := by
 rw [JaD]
 cases W9 x == 0 with
 | true => exact JlC _
 | false => exact List.length_replicate
theorem Jjc (x : SO) : dS (soV x) = true := by
 refine Ji9.2 ⟨⟨JO _ _, by show (pu .u8 (soH x)).length = 32; rw [JJ, Jjb]⟩, ?_⟩
 show cOk (soO x) = true
 rw [JaE]
 cases W9 x == 0 with
 | true => exact Jxl _
 | false => exact Jk1
theorem JlD (x : SO) : Jba ⟨soV x, soV x⟩ = true := JcI (JO _ _)
def kk (key : List PV) : List PV := [.ro 5 false false (kb 0 key), .ro 5 false false (kb 1 key), .ro 5 false false (kb 2 key)]
theorem Joz {key : List PV} (h : byB key = true) : kO3 (kk key) = true := by
 have hkk : ∀ i, kOk (kb i key) = true := fun i => Jj7 i (Qo.1 h).1
 exact Jfn.2 ⟨hkk 0, hkk 1, hkk 2⟩
-- FN law9.SignDeltas
theorem JoA {l : List PV} {d : DV} (ho : dOk d = true) (hb : byB d.h = true) (hc : dCk d = 0) : soE ⟨l, pu .u8 (dlB d), pu .u8 (mcK ⟨l, d.ad, dlB d⟩)⟩ = 0 /\ soV ⟨l, pu .u8 (dlB d), pu .u8 (mcK ⟨l, d.ad, dlB d⟩)⟩ = d := by
 have hs := Jt1 (l := l) ho hb hc
 obtain ⟨t1, t2⟩ := JiW ho hb hc
 obtain ⟨f0, f1, f2, f3, f4, f5, f6, f7, f8⟩ := JcB t1 t2 (Qo.1 hb).1
 refine ⟨by rw [JaB, hs], ?_⟩
 have e : ∀ i, soF i ⟨l, pu .u8 (dlB d), pu .u8 (mcK ⟨l, d.ad, dlB d⟩)⟩ = dF i (pu .u8 (dlB d)) := fun i => by rw [JaC, hs]; rfl
 have eh : soH ⟨l, pu .u8 (dlB d), pu .u8 (mcK ⟨l, d.ad, dlB d⟩)⟩ = dH (pu .u8 (dlB d)) := by rw [JaD, hs]; rfl
 have eo : soO ⟨l, pu .u8 (dlB d), pu .u8 (mcK ⟨l, d.ad, dlB d⟩)⟩ = dO (pu .u8 (dlB d)) := by rw [JaE, hs]; rfl
 unfold soV
 rw [e, e, e, e, e, e, e, eh, eo, f0, f1, f2, f3, f4, f5, f6, f7, f8]
theorem Jud (f n : Nat) (k0 : Bool -> Option Res) (k1 : Option Res) (v0 : List PV) (i : Nat) (v2 v3 key : List PV) (hx : v0.getD i .top = .st 31 (kk key)) (hi : i < 2) (hl : v0.length = 2) (hk : byB key = true) (h2 : byB v2 = true) (h3 : v2.length <= 1000000000) (h4 : h32 v3 = true) :
   XT f k0 k1 (n + 1) v0 (i : Int) v2 v3 = XT f k0 k1 n v0 ((i + 1 : Nat) : Int) v2 v3 := by
 have g1 : ((i : Int)).toNat = i := by omega
 have w1 : IntKind.i64.wrap ((i : Int) + 1) = ((i + 1 : Nat) : Int) := by rw [wrap_i64 (by omega) (by omega)]; omega
 have e : [PV.ro 5 (PV.child 0 (PV.st 31 (kk key))).nl (PV.child 0 (PV.st 31 (kk key))).fl (PV.child 0 (PV.st 31 (kk key))).els, PV.ro 5 (PV.child 1 (PV.st 31 (kk key))).nl (PV.child 1 (PV.st 31 (kk key))).fl (PV.child 1 (PV.st 31 (kk key))).els, PV.ro 5 (PV.child 2 (PV.st 31 (kk key))).nl (PV.child 2 (PV.st 31 (kk key))).fl (PV.child 2 (PV.st 31 (kk key))).els] = kk key := rfl
 have fin : ∀ x : SO, DV.mk (soF 0 x) (soF 1 x) (soF 2 x) (soF 3 x) (pu .u8 (soH x)) (soF 4 x) (soO x) (soF 5 x) (soF 6 x) = soV x := fun _ => rfl
 simp only [XT, G2, g1, w1, hx, e, fin]
 have hr : (decide (0 <= (i : Int)) && decide ((i : Int) < zi v0.length) && (PV.isSt 31 3 (PV.st 31 (kk key)) && (PV.isRo 5 (PV.child 0 (PV.st 31 (kk key))) && (PV.isRo 5 (PV.child 1 (PV.st 31 (kk key))) && (PV.isRo 5 (PV.child 2 (PV.st 31 (kk key))) && true)))) && true) = true := by
   have : (PV.isSt 31 3 (PV.st 31 (kk key)) && (PV.isRo 5 (PV.child 0 (PV.st 31 (kk key))) && (PV.isRo 5 (PV.child 1 (PV.st 31 (kk key))) && (PV.isRo 5 (PV.child 2 (PV.st 31 (kk key))) && true)))) = true := rfl
   rw [this, hl]; simp [zi]; omega
 have hK := Joz hk
 refine (Jb (by simp; omega)).trans ((Jb hr).trans ((Jb ?_).trans ((Jb hr).trans ((Jb ?_).trans ((Jv ?_).trans ((Jb ?_).trans (Jv ?_)))))))
 · rw [h2, h4, hK, (Wd.2 ⟨fun h => (by cases h), h3⟩ : slB false v2 = true)]; rfl
 · rw [h2, h4, hK, (by rw [Nat.ble_eq]; exact h3 : Nat.ble v2.length 1000000000 = true)]; rfl
 · exact bne_self_eq_false _
 · rw [Jjc]; rfl
 · rw [JlD]; rfl
theorem Jue (f : Nat) (k0 : Bool -> Option Res) (k1 : Option Res) (v2 v3 key other : List PV) (hk : byB key = true) (ho : byB other = true) (h2 : byB v2 = true) (h3 : v2.length <= 1000000000) (h4 : h32 v3 = true) :
  XT f k0 k1 5 [PV.st 31 (kk key), PV.st 31 (kk other)] 0 v2 v3 = k1 := by
 refine (Jud f 4 k0 k1 _ 0 v2 v3 key rfl (by decide) rfl hk h2 h3 h4).trans ((Jud f 3 k0 k1 _ 1 v2 v3 other rfl (by decide) rfl ho h2 h3 h4).trans ?_)
 simp only [XT, G2]
 exact Jv rfl
theorem JrE {l : List PV} (h : byB l = true) (i : Nat) {x : Int} (h0 : 0 <= x) (h1 : x < 256) : byB (l.set i (.sc (.int .u8 x))) = true := by
 induction l generalizing i with
 | nil => exact h
 | cons p ps ih =>
  have e : ∀ (q : PV) (l : List PV), byB (q :: l) = ((q.isInt .u8 && (decide (0 <= q.int) && decide (q.int < 256))) && byB l) := fun _ _ => rfl
  rw [e, Bool.and_eq_true] at h
  cases i with
  | zero => rw [List.set_cons_zero, e, h.2, Bool.and_true, Bool.and_eq_true, Bool.and_eq_true]; exact ⟨rfl, decide_eq_true h0, decide_eq_true h1⟩
  | succ i => rw [List.set_cons_succ, e, ih h.2 i, h.1]; rfl
theorem JdZ {l : List PV} (h : Jh .u8 l = true) {i : Nat} (hi : i < l.length) : (l.getD i .top).isInt .u8 = true := by
 induction l generalizing i with
 | nil => simp at hi
 | cons p ps ih =>
  have e : Jh .u8 (p :: ps) = (p.isInt .u8 && Jh .u8 ps) := rfl
  rw [e, Bool.and_eq_true] at h
  cases i with
  | zero => exact h.1
  | succ i => simpa using ih h.2 (by simpa using hi)
theorem JlE {l : List PV} (h : Jh .u8 l = true) (i : Nat) (x : Int) : Jh .u8 (l.set i (.sc (.int .u8 x))) = true := by
 induction l generalizing i with
 | nil => exact h
 | cons p ps ih =>
  have e : ∀ (q : PV) (l : List PV), Jh .u8 (q :: l) = (q.isInt .u8 && Jh .u8 l) := fun _ _ => rfl
  rw [e, Bool.and_eq_true] at h
  cases i with
  | zero => rw [List.set_cons_zero, e, h.2]; rfl
  | succ i => rw [List.set_cons_succ, e, ih h.2 i, h.1]; rfl
theorem JoB (kz kf : Bool) (key : List PV) (d : DV) (oz of : Bool) (n : Int) (nz nf : Bool) (ns : List PV) (at1 by1 : Int) (xz xf : Bool) (other : List PV) (hk : byB key = true) (hx : byB other = true) (hh : byB d.h = true) (hh2 : d.h.length = 32) (ho : cOk d.o = true) (hn : Jh .i64 ns = true) (hn2 : ns.length <= 9223372036854775807) (k : Res -> Option Res) :
   g13 5 kz kf key d.ad d.au d.id d.ve d.h d.kd oz of d.o d.wd d.wu n nz nf ns at1 by1 xz xf other k = k ⟨.sc (.bool true), [], []⟩ := by
 unfold g13
 have hkk : [PV.ro 5 false false (kb 0 key), .ro 5 false false (kb 1 key), .ro 5 false false (kb 2 key)] = kk key := rfl
 have hko : [PV.ro 5 false false (kb 0 other), .ro 5 false false (kb 1 other), .ro 5 false false (kb 2 other)] = kk other := rfl
 have hG : DV.mk (d.ad % 3) (d.au % 8) (d.id % 1073741825) (d.ve % 1048577) d.h (gdK d.kd) (gdO ⟨d.kd, n % 100, ns⟩) (gdW d.kd d.wd 3) (gdW d.kd d.wu 8) = gdV d (n % 100) ns := rfl
 have fin : ∀ x : SO, DV.mk (soF 0 x) (soF 1 x) (soF 2 x) (soF 3 x) (pu .u8 (soH x)) (soF 4 x) (soO x) (soF 5 x) (soF 6 x) = soV x := fun _ => rfl
 simp only [hkk, hko, hG, fin]
 have hK := Joz hk
 obtain ⟨n1, n2⟩ := Wk n (m := 100) (by decide)
 have hns : JcE (n % 100) ns = true := JcF.2 ⟨n1, by omega, hn, hn2⟩
 have hok := Jxb (d := d) (h32_by hh hh2) hns
 have hck := Jxc (d := d) hns
 have hgh : (gdV d (n % 100) ns).h = d.h := rfl
 have hga : (gdV d (n % 100) ns).ad = d.ad % 3 := rfl
 generalize gdV d (n % 100) ns = G at *
 rw [← hga]
 have hgb : byB G.h = true := by rw [hgh]; exact hh
 obtain ⟨s1, s2⟩ := JoA (l := kk key) hok hgb hck
 obtain ⟨a1, a2⟩ := Wk d.ad (m := 3) (by decide)
 have hin : kIn G.ad = true := by rw [Jau, hga]; simp only [QR, Bool.and_eq_true, decide_eq_true_eq]; omega
 have hsm := Vh hok
 have hml := V2 ⟨kk key, G.ad, dlB G⟩
 have hmac : h32 (pu .u8 (mcK ⟨kk key, G.ad, dlB G⟩)) = true := h32_iff.2 ⟨JO _ _, by rw [JJ]; exact hml⟩
 have hby := Joc G hgb
 have hdl : (pu .u8 (dlB G)).length = (dlB G).length := JJ _ _
 have hsl : slB false (pu .u8 (dlB G)) = true := Wd.2 ⟨fun h => (by cases h), by omega⟩
 have hdS : dS G = true := by rw [← s2]; exact Jjc _
 by_cases hf : ¬ Jir d.o = true
 · exact (Jb ho).trans (Jb (by rw [Bool.eq_false_iff.2 hf]; rfl))
 have hf := Decidable.not_not.1 hf
 refine (Jb ho).trans ((Jv (by rw [hf]; rfl)).trans ((Jb (Joq (by decide) (by decide))).trans ((Jb hns).trans ((Jb (by rw [hok, hK]; rfl)).trans ((Jb (by rw [hok, hK, hin]; rfl)).trans ((Jb (by rw [JO]; rfl)).trans ((Jb (by rw [JO]; rfl)).trans ((Jb (JlB _)).trans ?_))))))))
 refine (Jb (by rw [JJ, hml, JO]; rfl)).trans ((Jv (by rw [Ja9 (JO _ _)]; rfl)).trans ((Jb (by rw [hsl, hby, hmac, hK]; rfl)).trans ((Jv (by rw [s1]; rfl)).trans ((Jb (by rw [Jjc, hdS]; rfl)).trans ((Jv (by rw [s2, JcI (Qo.1 hgb).1]; rfl)).trans ((Jb (by simp [Jl]; omega)).trans ?_))))))
 generalize mcK ⟨kk key, G.ad, dlB G⟩ = mac at *
 generalize pu .u8 (dlB G) = B at *
 have w : IntKind.i64.wrap (zi (0 + B.length) + 32) = zi B.length + 32 := by rw [Nat.zero_add]; exact wrap_i64 (by simp only [zi]; omega) (by simp only [zi]; omega)
 rw [w]
 have hzB : zi B.length = (B.length : Int) := rfl
 obtain ⟨m1, m2⟩ := Wk at1 (m := zi B.length + 32) (by rw [hzB]; omega)
 have hz : zi (0 + B.length) = zi B.length := by rw [Nat.zero_add]
 simp only [hz, Nat.zero_add]
 generalize at1 % (zi B.length + 32) = j at *
 have tk : ∀ L : List PV, L.length = B.length -> List.take B.length L = L := fun L h => List.take_of_length_le (by omega)
 refine (Jb (Joq (by rw [hzB]; omega) (by rw [hzB]; omega))).trans ?_
 by_cases hj : j < zi B.length
 · have hji : j.toNat < B.length := by rw [hzB] at hj; omega
   refine (Jb (decide_eq_true hj)).trans ((Jb (by rw [decide_eq_true m1, decide_eq_true hj]; rfl)).trans ((Jb ?_).trans ((Jb (by rw [decide_eq_true m1, decide_eq_true hj]; rfl)).trans ?_)))
   · rw [Bool.and_true]; exact JdZ (Qo.1 hby).1 hji
   · rw [tk _ (by simp)]
     obtain ⟨b1, b2⟩ : 0 <= IntKind.u8.wrap ((Jm (B.getD j.toNat .top) []).int + by1) /\ IntKind.u8.wrap ((Jm (B.getD j.toNat .top) []).int + by1) < 256 := Yw _
     exact Jue 5 _ _ _ _ key other hk hx (JrE hby _ b1 b2) (by rw [List.length_set]; omega) hmac
 · have w2 : IntKind.i64.wrap (j - zi B.length) = j - zi B.length := wrap_i64 (by rw [hzB] at *; omega) (by rw [hzB] at *; omega)
   rw [w2]
   have hji : (j - zi B.length).toNat < 32 := by rw [hzB] at *; omega
   have hr : (decide (0 <= j - zi B.length) && decide (j - zi B.length < zi 32) && true) = true := by
     rw [decide_eq_true (by rw [hzB] at *; omega : 0 <= j - zi B.length), decide_eq_true (by show j - zi B.length < 32; omega : j - zi B.length < zi 32)]; rfl
   refine (Jv (decide_eq_false hj)).trans ((Jb hr).trans ((Jb ?_).trans ((Jb hr).trans ?_)))
   · rw [Bool.and_true]; exact JdZ (l := pu .u8 mac) (JO _ _) (by rw [JJ]; omega)
   · rw [tk _ rfl]
     exact Jue 5 _ _ _ _ key other hk hx hby (by omega) (h32_iff.2 ⟨JlE (JO _ _) _ _, by rw [List.length_set, JJ]; exact hml⟩)
def Jjd : List PV -> List Ent -> (Res -> Option Res) -> Option Res
 | [.ro 5 kz kf key, .st 73 [.st 45 [.sc (.int .i64 ad), .sc (.int .i64 au)], .sc (.int .i64 id1), .sc (.int .i64 ve), .ar 37 h, .sc (.int .i64 kd), .ro 99 oz of o, .st 45 [.sc (.int .i64 wd), .sc (.int .i64 wu)]], .sc (.int .i64 n), .ro 3 nz nf ns, .sc (.int .i64 at1), .sc (.int .u8 by1), .ro 5 xz xf other], [], k => bif byB key && (byB other && ((byB h && decide (h.length = 32)) && (cOk o && (Jh .i64 ns && decide (ns.length <= 9223372036854775807))))) then k ⟨.sc (.bool true), [], []⟩ else none
 | _, _, _ => none
def JDA : Sig := { own := [], run := Jjd }
theorem JDB : Jf tau Try.prog 13 JDA := Jf.mk' fun xs es k res hl hr => by
 change Jjd xs es k = some res at hr
 unfold Jjd at hr
 split at hr
 · rename_i kz kf key ad au id1 ve h kd oz of o wd wu n nz nf ns at1 by1 xz xf other
   obtain ⟨hc, hr⟩ := JG hr
   simp only [Bool.and_eq_true, decide_eq_true_eq] at hc
   obtain ⟨c1, c0, ⟨c2, c3⟩, c4, c5, c6⟩ := hc
   exact Qj Jq Joy Jr Jxk JGK (JrC (JcJ 5)) [.ro] 0 0 (JGJ 5) hl rfl ((e13 5 kz kf key ad au id1 ve h kd oz of o wd wu n nz nf ns at1 by1 xz xf other k).trans ((JoB kz kf key ⟨ad, au, id1, ve, h, kd, o, wd, wu⟩ oz of n nz nf ns at1 by1 xz xf other c1 c0 c2 c3 c4 c5 c6 k).trans hr))
 · cases hr
theorem Jje : ∀ pvs, TyL tau 4 [29, 73, 3, 55, 3, 5, 29] pvs -> JDA.run pvs [] some = some ⟨.sc (.bool true), [], []⟩ := by
 intro pvs h
 obtain ⟨p1, r1, rfl, h1, hf⟩ := Wj h
 obtain ⟨p2, r2, rfl, h2, hf⟩ := Wj hf
 obtain ⟨p3, r3, rfl, h3, hf⟩ := Wj hf
 obtain ⟨p4, r4, rfl, h4, hf⟩ := Wj hf
 obtain ⟨p5, p6, p7, rfl, h5, h6, h7⟩ := Jz8 hf
 obtain ⟨kz, key, rfl, _, _, a1⟩ := Jg4 (n := 2) h1
 obtain ⟨ad, au, id1, ve, hs, kd, z, o, wd, wu, rfl, a2, a3, _, a4, a5⟩ := Joo (n := 0) h2
 obtain ⟨n, rfl, _⟩ := YR (n := 3) h3
 obtain ⟨nz, ns, rfl, _, a6, a7⟩ := Jrw (n := 2) h4
 obtain ⟨at1, rfl, _⟩ := YR (n := 3) h5
 obtain ⟨by1, rfl, _⟩ := Jes (n := 3) (by kernel_rfl : tau.und 5 = some (.int .u8)) h6
 obtain ⟨xz, other, rfl, _, _, b1⟩ := Jg4 (n := 2) h7
 refine Jb ?_
 have e1 : maxLen <= 9223372036854775807 := by decide
 simp only [a1, b1, a2, a3, a7, Bool.and_eq_true, decide_eq_true_eq]
 exact ⟨trivial, trivial, ⟨trivial, trivial⟩, W2.2 ⟨a5, by omega⟩, trivial, by omega⟩
end
end Go.Proofs.Ytcklhipdldpkhaa.Rx
