/- What the functions of this law compute, and their plain laws. Conditions: none. -/
import Derived.Test.YthpmachmnoljeaaWaveletPlaysP4
noncomputable section
namespace Go.Proofs.Ythpmachmnoljeaa.Rx
open Go Ieee
set_option linter.unusedVariables false
set_option linter.unusedSimpArgs false

theorem JpK {m : Nat} (h : m ≠ 0) : 2 ^ m.log2 <= m := Nat.log2_self_le h
theorem JpL {m : Nat} : m < 2 ^ (m.log2 + 1) := Nat.lt_log2_self
theorem JxA {m k : Nat} (h0 : 2 ^ k <= m) (h1 : m < 2 ^ (k + 1)) : m.log2 = k := by
 have hm : m ≠ 0 := by have := Nat.two_pow_pos k; omega
 exact (Nat.log2_eq_iff hm).2 ⟨h0, h1⟩
theorem JbP {m : Nat} (h : m ≠ 0) (k : Nat) : (m * 2 ^ k).log2 = m.log2 + k := by
 apply JxA
 · rw [Nat.pow_add]; exact Nat.mul_le_mul_right _ (JpK h)
 · have := JpL (m := m)
   rw [show m.log2 + k + 1 = (m.log2 + 1) + k from by omega, Nat.pow_add]
   exact Nat.mul_lt_mul_of_pos_right this (Nat.two_pow_pos k)
theorem Juj (w : Toward) (s : Bool) (n : Nat) : w.cut s n 0 = n := by
 unfold Toward.cut
 simp
 cases w <;> simp <;> omega
theorem JxB (w : Toward) (s : Bool) (n k : Nat) : w.cut s (n * 2 ^ k) k = n := by
 by_cases hn : n = 0
 · subst hn
   unfold Toward.cut
   have : 0 < 1 <<< min k (Nat.log2 0 + 2) := by rw [Nat.one_shiftLeft]; exact Nat.two_pow_pos _
   cases w <;> simp <;> omega
 · unfold Toward.cut
   have hmin : min k ((n * 2 ^ k).log2 + 2) = k := by rw [JbP hn]; omega
   have hp := Nat.two_pow_pos k
   have hg : 1 <<< min k ((n * 2 ^ k).log2 + 2) = 2 ^ k := by rw [hmin, Nat.one_shiftLeft]
   simp only [hg, Nat.mul_div_cancel _ hp, Nat.mul_mod_left]
   cases w <;> simp <;> omega
def fz (x : Int) : Nat := FloatKind.f64.nearest x
def shf (m : Nat) : Nat := 52 - m.log2
theorem Jda {m : Nat} (h0 : m ≠ 0) (h1 : m < 2 ^ 53) : 2 ^ 52 <= m * 2 ^ shf m /\ m * 2 ^ shf m < 2 ^ 53 := by
 have hL : m.log2 < 53 := (Nat.log2_lt h0).2 h1
 have e : m.log2 + shf m = 52 := by unfold shf; omega
 constructor
 · rw [← e, Nat.pow_add]; exact Nat.mul_le_mul_right _ (JpK h0)
 · rw [show 53 = (m.log2 + 1) + shf m from by omega, Nat.pow_add]
   exact Nat.mul_lt_mul_of_pos_right JpL (Nat.two_pow_pos _)
theorem lp : Ieee.double.leastPlace = -1074 := by decide
theorem JbQ (neg : Bool) {m : Nat} (h0 : m ≠ 0) (h1 : m < 2 ^ 53) (k : Nat) :
  Ieee.double.nearest neg (m * 2 ^ k) (-(k : Int)) = Ieee.double.word neg ((1074 + 1022 - 1022 - shf m) * 2 ^ 52 + m * 2 ^ shf m) := by
 have hL : m.log2 < 53 := (Nat.log2_lt h0).2 h1
 have hb := Jda h0 h1
 have hmk : m * 2 ^ k ≠ 0 := Nat.mul_ne_zero h0 (Nat.ne_of_gt (Nat.two_pow_pos k))
 have hlast : max (-(k : Int) + ((m * 2 ^ k).log2 : Int) - ((Ieee.double.fractionBits : Nat) : Int)) Ieee.double.leastPlace = -((shf m : Nat) : Int) := by
  rw [JbP h0, lp]; unfold shf
  show max (-(k : Int) + ((m.log2 + k : Nat) : Int) - ((52 : Nat) : Int)) (-1074) = _
  omega
 unfold Format.nearest
 rw [if_neg hmk]
 simp only [hlast]
 have hkept : Toward.even.cut neg ((m * 2 ^ k) <<< (-(k : Int) - -((shf m : Nat) : Int)).toNat) (-((shf m : Nat) : Int) - -(k : Int)).toNat = m * 2 ^ shf m := by
  by_cases hk : k <= shf m
  · have e1 : (-((shf m : Nat) : Int) - -(k : Int)).toNat = 0 := by omega
    have e2 : (-(k : Int) - -((shf m : Nat) : Int)).toNat = shf m - k := by omega
    rw [e1, e2, Juj, Nat.shiftLeft_eq, Nat.mul_assoc, ← Nat.pow_add]
    congr 2; omega
  · have e1 : (-((shf m : Nat) : Int) - -(k : Int)).toNat = k - shf m := by omega
    have e2 : (-(k : Int) - -((shf m : Nat) : Int)).toNat = 0 := by omega
    rw [e1, e2, Nat.shiftLeft_zero, show m * 2 ^ k = (m * 2 ^ shf m) * 2 ^ (k - shf m) from by rw [Nat.mul_assoc, ← Nat.pow_add]; congr 2; omega]
    exact JxB _ _ _ _
 rw [hkept, lp]
 have e3 : (-((shf m : Nat) : Int) - -1074).toNat = 1074 - shf m := by omega
 have hi : Ieee.double.infRung = 2047 * 2 ^ 52 := by decide
 have hbn : Ieee.double.binade = 2 ^ 52 := by decide
 rw [e3, hi, hbn]
 have h53 : (2 : Nat) ^ 53 = 2 * 2 ^ 52 := by decide
 have hB : 0 < (2 : Nat) ^ 52 := Nat.two_pow_pos _
 generalize m * 2 ^ shf m = kp at *
 generalize shf m = sh at *
 rw [h53] at hb
 generalize (2 : Nat) ^ 52 = B at *
 have e4 : 1074 + 1022 - 1022 - sh = 1074 - sh := by omega
 rw [e4]
 congr 1
 have : (1074 - sh) * B <= 1074 * B := Nat.mul_le_mul_right _ (by omega)
 have : 1074 * B + 2 * B <= 2047 * B := by rw [← Nat.add_mul]; exact Nat.mul_le_mul_right _ (by omega)
 exact Nat.min_eq_left (by omega)
theorem JpM {x : Int} (h0 : x ≠ 0) (h1 : x.natAbs < 2 ^ 53) : fz x = Ieee.double.word (decide (x < 0)) ((1074 - shf x.natAbs) * 2 ^ 52 + x.natAbs * 2 ^ shf x.natAbs) := by
 have := JbQ (decide (x < 0)) (m := x.natAbs) (by omega) h1 0
 simp only [Nat.pow_zero, Nat.mul_one] at this
 exact this
theorem JxC {x : Int} (h0 : x ≠ 0) (h1 : x.natAbs < 2 ^ 53) : Ieee.double.read (fz x) = .number (decide (x < 0)) (x.natAbs * 2 ^ shf x.natAbs) (-((shf x.natAbs : Nat) : Int)) := by
 have hb := Jda (m := x.natAbs) (by omega) h1
 have hs : shf x.natAbs <= 52 := by unfold shf; omega
 rw [JpM h0 h1]
 generalize hm : x.natAbs * 2 ^ shf x.natAbs = kp at *
 generalize shf x.natAbs = s at *
 have hsw : Ieee.double.signWeight = 2 ^ 63 := by decide
 have hi : Ieee.double.infRung = 2047 * 2 ^ 52 := by decide
 have hbn : Ieee.double.binade = 2 ^ 52 := by decide
 have h53 : (2 : Nat) ^ 53 = 2 * 2 ^ 52 := by decide
 have h63 : (2 : Nat) ^ 63 = 2048 * 2 ^ 52 := by decide
 have hpos : 0 < (2 : Nat) ^ 52 := Nat.two_pow_pos _
 generalize (2 : Nat) ^ 52 = B at *
 have hr : (1074 - s) * B + kp < 2047 * B := by
  have : (1074 - s) * B <= 1074 * B := Nat.mul_le_mul_right _ (by omega)
  omega
 have hdiv : ((1074 - s) * B + kp) / B = 1074 - s + 1 := by
  rw [Nat.mul_comm, Nat.mul_add_div hpos]
  congr 1
  apply Nat.div_eq_of_lt_le <;> omega
 have hmod : ((1074 - s) * B + kp) % B = kp - B := by
  rw [Nat.mul_comm, Nat.mul_add_mod]
  rw [Nat.mod_eq_sub_mod (by omega), Nat.mod_eq_of_lt (by omega)]
 have hge : ¬ ((1074 - s) * B + kp < B) := by omega
 unfold Format.read Format.word
 rw [hsw, h63, hi, hbn, lp]
 have key : ∀ neg : Bool, ((if neg = true then 2048 * B + ((1074 - s) * B + kp) else (1074 - s) * B + kp) / (2048 * B) % 2 == 1) = neg /\ (if neg = true then 2048 * B + ((1074 - s) * B + kp) else (1074 - s) * B + kp) % (2048 * B) = (1074 - s) * B + kp := by
  intro neg
  have hlt : (1074 - s) * B + kp < 2048 * B := by omega
  cases neg with
  | true =>
   simp only [if_true]
   have hp : 0 < 2048 * B := by omega
   rw [Nat.add_div_left _ hp, Nat.div_eq_of_lt hlt, Nat.add_mod_left, Nat.mod_eq_of_lt hlt]
   exact ⟨rfl, rfl⟩
  | false =>
   simp only [Bool.false_eq_true, if_false]
   rw [Nat.div_eq_of_lt hlt, Nat.mod_eq_of_lt hlt]
   exact ⟨rfl, rfl⟩
 have k1 := key (decide (x < 0))
 simp only [k1.1, k1.2]
 rw [if_neg hge, if_pos hr, hmod, hdiv]
 congr 1 <;> omega
theorem JxD : Ieee.double.read (fz 0) = .number false 0 (-1074) := by decide
def Jfw (d : Datum) (x : Int) : Prop := ∃ s m k, d = .number s m (-((k : Nat) : Int)) /\ m = x.natAbs * 2 ^ k /\ s = decide (x < 0)
theorem JxE (k : Nat) : 0 = (0 : Int).natAbs * 2 ^ k := by rw [Int.natAbs_zero, Nat.zero_mul]
theorem V1 {x : Int} (h1 : x.natAbs < 2 ^ 53) : Jfw (Ieee.double.read (fz x)) x := by
 by_cases h0 : x = 0
 · subst h0; exact ⟨false, 0, 1074, JxD, JxE 1074, by decide⟩
 · exact ⟨_, _, _, JxC h0 h1, rfl, rfl⟩
theorem Xg {x : Int} {s : Bool} {m k : Nat} (hm : m = x.natAbs * 2 ^ k) (hs : s = decide (x < 0)) (u : Nat) : signed s m u = x * 2 ^ (k + u) := by
 subst hm hs
 unfold signed
 rw [Nat.shiftLeft_eq, Nat.mul_assoc, ← Nat.pow_add]
 have : ((x.natAbs * 2 ^ (k + u) : Nat) : Int) = (x.natAbs : Int) * 2 ^ (k + u) := by
   rw [Int.natCast_mul, Int.natCast_pow]; rfl
 by_cases h : x < 0
 · rw [if_pos (by simpa using h), this, ← Int.neg_mul]
   congr 1; omega
 · rw [if_neg (by simpa using h), this]
   congr 1; omega
theorem JpN (k : Nat) : (0 : Int) < 2 ^ k := by
 have := Nat.two_pow_pos k
 have h : ((2 ^ k : Nat) : Int) = 2 ^ k := by rw [Int.natCast_pow]; rfl
 omega
theorem JnF {d e : Datum} {x y : Int} (h : Jfw d x) (g : Jfw e y) (hxy : (x + y).natAbs < 2 ^ 53) : (d.sum e).map Ieee.double.write = some (fz (x + y)) := by
 obtain ⟨s, m, k, rfl, rfl, hs⟩ := h
 obtain ⟨t, n, j, rfl, rfl, ht⟩ := g
 unfold Datum.sum
 simp only [Option.map_some]
 have hbase : min (-(k : Int)) (-(j : Int)) = -((max k j : Nat) : Int) := by omega
 have e1 : (-(k : Int) - min (-(k : Int)) (-(j : Int))).toNat = max k j - k := by omega
 have e2 : (-(j : Int) - min (-(k : Int)) (-(j : Int))).toNat = max k j - j := by omega
 have f1 : k + (max k j - k) = max k j := by omega
 have f2 : j + (max k j - j) = max k j := by omega
 rw [hbase] at e1 e2
 simp only [hbase, e1, e2, Xg rfl hs, Xg rfl ht, f1, f2]
 rw [← Int.add_mul]
 have hp := JpN (max k j)
 have hna : ((x + y) * 2 ^ max k j).natAbs = (x + y).natAbs * 2 ^ max k j := by
   rw [Int.natAbs_mul, Int.natAbs_pow]; rfl
 by_cases h0 : x + y = 0
 · rw [h0]
   simp only [Int.zero_mul, if_true]
   have hst : (s && t) = false := by
    subst hs ht
    by_cases hx : x < 0
    · have : ¬ y < 0 := by omega
      simp [this]
    · simp [hx]
   rw [hst]; simp only [Format.write, Format.nearest, Int.natAbs_zero, if_true]
   rfl
 · have hne : (x + y) * 2 ^ max k j ≠ 0 := Int.mul_ne_zero h0 (by omega)
   rw [if_neg hne, hna]
   have hneg : decide ((x + y) * 2 ^ max k j < 0) = decide (x + y < 0) := by
    by_cases hlt : x + y < 0
    · have : (x + y) * 2 ^ max k j < 0 := Int.mul_neg_of_neg_of_pos hlt hp
      simp [hlt, this]
    · have : ¬ (x + y) * 2 ^ max k j < 0 := by
       have := Int.mul_nonneg (show 0 <= x + y by omega) (Int.le_of_lt hp); omega
      simp [hlt, this]
   rw [hneg]
   simp only [Format.write]
   rw [JbQ _ (by omega) hxy, JpM h0 hxy]
theorem JiS {d e : Datum} {x y : Int} (h : Jfw d x) (g : Jfw e y) : d.order e = some (compare x y) := by
 obtain ⟨s, m, k, rfl, rfl, hs⟩ := h
 obtain ⟨t, n, j, rfl, rfl, ht⟩ := g
 unfold Datum.order
 have e1 : (-(k : Int) - min (-(k : Int)) (-(j : Int))).toNat = max k j - k := by omega
 have e2 : (-(j : Int) - min (-(k : Int)) (-(j : Int))).toNat = max k j - j := by omega
 have f1 : k + (max k j - k) = max k j := by omega
 have f2 : j + (max k j - j) = max k j := by omega
 simp only [e1, e2, Xg rfl hs, Xg rfl ht, f1, f2]
 have hp := JpN (max k j)
 congr 1
 simp only [compare, compareOfLessAndEq]
 have l1 : (x * 2 ^ max k j < y * 2 ^ max k j) ↔ x < y := ⟨fun h => Int.lt_of_mul_lt_mul_right h (Int.le_of_lt hp), fun h => Int.mul_lt_mul_of_pos_right h hp⟩
 have l2 : (x * 2 ^ max k j = y * 2 ^ max k j) ↔ x = y := ⟨fun h => Int.eq_of_mul_eq_mul_right (by omega) h, fun h => by rw [h]⟩
 simp only [l1, l2]
theorem JD0 {x y : Int} (hx : x.natAbs < 2 ^ 53) (hy : y.natAbs < 2 ^ 53) (hxy : (x + y).natAbs < 2 ^ 53) : FloatKind.f64.format.add (fz x) (fz y) = some (fz (x + y)) :=
 JnF (V1 hx) (V1 hy) hxy
theorem Jfx {x y : Int} (hx : x.natAbs < 2 ^ 53) (hy : y.natAbs < 2 ^ 53) : FloatKind.f64.format.order (fz x) (fz y) = some (compare x y) := JiS (V1 hx) (V1 hy)
theorem Juk (x : Int) : fOf .f64 x = fz x := JqL .f64 x
end Go.Proofs.Ythpmachmnoljeaa.Rx
end

namespace Go.Proofs.Ythpmachmnoljeaa.Rx
noncomputable section
open Go
set_option linter.unusedVariables false
set_option linter.unusedSimpArgs false
set_option maxRecDepth 100000
set_option maxHeartbeats 0
-- FN op.sizes
theorem JgM : fz 0 = 0 := by decide +kernel
theorem Jkn {a b : Int} (h0 : 0 <= a) (h1 : a <= 1000000) (g0 : 0 <= b) (g1 : b <= 1000000) : FloatKind.f64.format.add (fz a) (fz b) = some (fz (a + b)) :=
  JD0 (by
      have : (2 : Nat) ^ 53 = 9007199254740992 := by decide
      rw [this]; omega) (by have : (2 : Nat) ^ 53 = 9007199254740992 := by decide
                            rw [this]; omega) (by have : (2 : Nat) ^ 53 = 9007199254740992 := by decide
                                                  rw [this]; omega)
theorem JKC {a : Int} (h0 : 0 <= a) (h1 : a <= 1000000) : FloatKind.f64.format.add (fz a) 0 = some (fz a) := by
 have := Jkn h0 h1 (Int.le_refl 0) (by decide)
 rwa [JgM, Int.add_zero] at this
theorem Jul (l : List PV) (ha : aOk l = true) (f : Nat) (k0 : Nat -> Nat -> OR) (z fl : Bool) : ∀ (d i n : Nat) (a b : Int), i + d = l.length -> d < n -> 0 <= a -> a <= 120 * i -> 0 <= b -> b <= 120 * i ->
  ZB f k0 n (fz a) (fz b) z fl l (zi l.length) (i : Int) = k0 (fz (a + inL (l.drop i))) (fz (b + outL (l.drop i)))
 | 0, i, n + 1, a, b, hi, hn, a0, a1, b0, b1 => by
   rw [List.drop_of_length_le (by omega)]
   simp only [ZB, Vy, Wx, Ww, Wv, Wu, Wt, Ws, JE, Wr, Wq, inL, outL, Int.add_zero]
   exact Jd (by simp [zi]; omega)
 | d + 1, i, n + 1, a, b, hi, hn, a0, a1, b0, b1 => by
   obtain ⟨h1, hl, _⟩ := Q2.1 ha
   have g1 : ((i : Int)).toNat = i := by omega
   have w1 : IntKind.i64.wrap ((i : Int) + 1) = ((i + 1 : Nat) : Int) := by rw [wrap_i64 (by omega) (by omega)]; omega
   have hc := Jke h1 (i := i) (by omega)
   unfold GW at hc
   have hk := (YT ha (i := i) (by omega)).2
   rw [JW (by omega)]
   simp only [ZB, Vy, Wx, Ww, Wv, Wu, Wt, Ws, JE, Wr, Wq, g1, w1]
   refine (Ja (by simp [zi]; omega)).trans ((Ja hc).trans ?_)
   generalize l.getD i .top = p at *
   have i1 := Jfg hk
   have o1 := JbA hk
   have e1 : (PV.child 0 p).int = (cv p).kd := rfl
   have e2 : (PV.child (0 + 1) p).int = (cv p).n := rfl
   have e3 : (PV.child (0 + 1 + 1) p).str = (cv p).s := rfl
   have c1 : ∀ x y : Nat, (PV.sc (Value.complex FloatKind.f64 x y)).cre = x := fun _ _ => rfl
   have c2 : ∀ x y : Nat, (PV.sc (Value.complex FloatKind.f64 x y)).cim = y := fun _ _ => rfl
   simp only [e1, e2, e3, c1, c2, Juk, inL, outL, ← Int.add_assoc]
   have IH := fun a b => Jul l ha f k0 z fl d (i + 1) n a b (by omega) (by omega)
   rcases Xn hk with ⟨q1, q2, q3, q4⟩ | ⟨q1, q2, q3, q4⟩
   · rcases q1 with q1 | q1
     · have ei : inC (cv p) = (cv p).n := by unfold inC; rw [q1]; rfl
       have eo : QK (cv p) = (cv p).n := by unfold QK; rw [q1]; rfl
       have r1 := Jkn (a := a) (b := (cv p).n) a0 (by omega) (by omega) (by omega)
       have r2 := Jkn (a := b) (b := (cv p).n) b0 (by omega) (by omega) (by omega)
       rw [ei, eo]
       simp only [q1, r1, r2, Option.isSome_some, Option.getD_some]
       exact (Jd rfl).trans ((Ja rfl).trans ((Ja rfl).trans (IH _ _ (by omega) (by omega) (by omega) (by omega))))
     · have ei : inC (cv p) = (cv p).n := by unfold inC; rw [q1]; rfl
       have eo : QK (cv p) = 0 := by unfold QK; rw [q1]; show ((cv p).s.size : Int) = 0; omega
       have r1 := Jkn (a := a) (b := (cv p).n) a0 (by omega) (by omega) (by omega)
       have r2 := JKC (a := b) b0 (by omega)
       rw [ei, eo]
       simp only [q1, r1, r2, Option.isSome_some, Option.getD_some, Int.add_zero]
       exact (Jd rfl).trans ((Jd rfl).trans ((Jd rfl).trans ((Ja rfl).trans ((Ja rfl).trans (IH _ _ (by omega) (by omega) (by omega) (by omega))))))
   · have ei : inC (cv p) = 0 := by unfold inC; rw [q1]; rfl
     have eo : QK (cv p) = (cv p).s.size := by unfold QK; rw [q1]; rfl
     have r1 := JKC (a := a) a0 (by omega)
     have r2 := Jkn (a := b) (b := zi (cv p).s.size) b0 (by omega) (by simp only [zi]; omega) (by simp only [zi]; omega)
     have hz : zi (cv p).s.size = ((cv p).s.size : Int) := rfl
     rw [ei, eo, ← hz]
     simp only [q1, r1, r2, Option.isSome_some, Option.getD_some, Int.add_zero]
     exact (Ja rfl).trans ((Jd rfl).trans ((Ja rfl).trans ((Ja rfl).trans (IH _ _ (by omega) (by omega) (by omega) (by omega)))))
def szI : List PV -> Nat := hid fun l => fz (inL l)
def szO : List PV -> Nat := hid fun l => fz (outL l)
theorem Jum (l : List PV) : szI l = fz (inL l) := by rw [szI, hid_eq]
theorem Jun (l : List PV) : szO l = fz (outL l) := by rw [szO, hid_eq]
def JiT : Jz
 | [.ro 113 z f o], [], k => bif aOk o then k ⟨.sc (.complex .f64 (szI o) (szO o)), [], []⟩ else none
 | _, _, _ => none
def Jz3 : Sig := { own := [], run := JiT }
theorem JD1 : Jc tau Try.prog 125 Jz3 := Jc.mk' fun xs es k res hl hr => by
 change JiT xs es k = some res at hr
 unfold JiT at hr
 split at hr
 · rename_i z f o
   obtain ⟨hc, hr⟩ := Jv hr
   have hl2 := (Q2.1 hc).2.1
   refine J2 Jn JpI Jo Jz1 Jz2 (JpJ (Jaa 50)) [.ro] 0 0 (JKA 50) hl rfl ((JOu 50 z f o k).trans (Eq.trans ?_ hr))
   unfold JKy
   have h0 := Jul o hc 50 (fun x0_0 x1_0 => k (Res.mk (.sc (Value.complex FloatKind.f64 x0_0 x1_0)) [] [])) z f o.length 0 50 0 0 (by omega) (by omega) (by omega) (by omega) (by omega) (by omega)
   rw [JgM] at h0
   refine h0.trans ?_
   rw [List.drop_zero, Int.zero_add, Int.zero_add, Jum, Jun]
 · cases hr
def N89 : Nat := 71
def F89 : Fns := Jt 126 JDZ (Jt 125 Jz3 (F0))
theorem Juo : Jq tau Try.prog F89 := ((Js).add JD1 JKB).add Jz0 JzZ
def Jko : Code := Qd (Try.f89.body.get!) [1, 0]
def Jfy : Nm := [(0, .any), (1, .any), (7, .own), (8, .any)]
def JnG : Nm := [(4, .any), (5, .any)]
def JpO : An := (.seq .leaf (.seq (.block none (.seq .leaf (.cond (.seq .leaf .leaf) (.seq .leaf (.cond (.seq .leaf .leaf) .leaf))))) (.seq .leaf (.seq .leaf (.seq .leaf (.seq (.seq .leaf (.cond (.seq .leaf .leaf) .leaf)) (.seq .leaf (.seq (.seq .leaf (.block none (.seq .leaf (.cond .leaf (.seq .leaf (.cond .leaf (.seq .leaf (.cond .leaf .leaf)))))))) (.seq .leaf .leaf)))))))))
def JxF (r0 : Jrc) : An := (.seq .leaf (.ssum Jfy N89 (JpO) r0))
abbrev JZ (v3 : List PV) (v5 : Int) := (PV.child (0 + 1 + 1) (v3.getD v5.toNat PV.top))
abbrev QX (v3 : List PV) (v5 : Int) := (PV.isSt 113 #[Field.mk "Kind" 3 0 false "" "" 0, Field.mk "N" 3 1 false "" "" 8, Field.mk "S" 9 2 false "" "" 16].size (v3.getD v5.toNat PV.top) && (PV.isInt IntKind.i64 (PV.child 0 (v3.getD v5.toNat PV.top)) && (PV.isInt IntKind.i64 (PV.child (0 + 1) (v3.getD v5.toNat PV.top)) && ((JZ v3 v5).isStr && true))))
abbrev Ql (v3 : List PV) (v5 : Int) := (V5 (PV.child (0 + 1) (v3.getD v5.toNat PV.top)).int 0)
abbrev Qm (v0 : ByteArray) (v3 : List PV) (v5 : Int) := (Qf (V5 (zi (JZ v3 v5).str.size) 0) (zi v0.size))
abbrev Wf (v0 : ByteArray) (v3 : List PV) (v5 : Int) := (v0.extract 0 (Qf (Ql v3 v5) (zi v0.size)).toNat)
def XF (f : Nat) (rc : ByteArray -> Bool -> Bool -> List PV -> Nat -> Int -> Bool -> List PV -> OR) (k0 : ByteArray -> Int -> OR) (v0 : ByteArray) (v1 v2 : Bool) (v3 : List PV) (v4 : Nat) (v5 : Int) (v6 : Bool) (v7 : List PV) : OR := bif v5 == zi v3.length then bif Jl IntKind.u8 (List.take v4 v7) && true then k0 (ByteArray.mk (Array.mk (JU ((Ent.vec false 5 v6 v7).nil, List.take v4 (List.drop 0 v7)).snd))) (0) else none else bif decide (0 <= v5) && decide (v5 < zi v3.length) && (QX v3 v5) && true then bif (PV.child 0 (v3.getD v5.toNat PV.top)).int == 2 then bif decide (0 <= v5) && decide (v5 < zi v3.length) && (QX v3 v5) && true then bif (PV.child 0 (v3.getD v5.toNat PV.top)).int == 1 then bif decide (0 <= Qf (V5 (zi (JZ v3 v5).str.size) 0) (zi v0.size)) && true && decide ((Qm v0 v3 v5).toNat <= v0.size) && true then bif Je (v4 + (Jj (v0.extract 0 (Qm v0 v3 v5).toNat)).length) 1 && true then bif decide (0 <= Qf (V5 (zi (JZ v3 v5).str.size) 0) (zi v0.size)) && true && decide ((Qm v0 v3 v5).toNat <= v0.size) && decide (v0.size <= v0.size) && true then rc (v0.extract (Qm v0 v3 v5).toNat v0.size) v1 v2 v3 (v4 + (Jj (v0.extract 0 (Qm v0 v3 v5).toNat)).length) (IntKind.i64.wrap (v5 + 1)) (v6 && (Jj (v0.extract 0 (Qm v0 v3 v5).toNat)).isEmpty) (List.take v4 v7 ++ Jj (v0.extract 0 (Qm v0 v3 v5).toNat)) else none else none else none else bif (PV.child 0 (v3.getD v5.toNat PV.top)).int == 2 then bif decide (0 <= v5) && decide (v5 < zi v3.length) && (QX v3 v5) && true then bif Je (v4 + (Jj (JZ v3 v5).str).length) 1 && true then rc v0 v1 v2 v3 (v4 + (Jj (JZ v3 v5).str).length) (IntKind.i64.wrap (v5 + 1)) (v6 && (Jj (JZ v3 v5).str).isEmpty) (List.take v4 v7 ++ Jj (JZ v3 v5).str) else none else none else bif (PV.child 0 (v3.getD v5.toNat PV.top)).int == 3 then bif decide (0 <= Qf (V5 (zi (JZ v3 v5).str.size) 0) (zi v0.size)) && true && decide ((Qm v0 v3 v5).toNat <= v0.size) && decide (v0.size <= v0.size) && true then rc (v0.extract (Qm v0 v3 v5).toNat v0.size) v1 v2 v3 v4 (IntKind.i64.wrap (v5 + 1)) v6 v7 else none else rc v0 v1 v2 v3 v4 (IntKind.i64.wrap (v5 + 1)) v6 v7 else none else bif decide (0 <= v5) && decide (v5 < zi v3.length) && (QX v3 v5) && true then bif (PV.child 0 (v3.getD v5.toNat PV.top)).int == 1 then bif decide (0 <= Qf (Ql v3 v5) (zi v0.size)) && true && decide ((Qf (Ql v3 v5) (zi v0.size)).toNat <= v0.size) && true then bif Je (v4 + (Jj (Wf v0 v3 v5)).length) 1 && true then bif decide (0 <= Qf (Ql v3 v5) (zi v0.size)) && true && decide ((Qf (Ql v3 v5) (zi v0.size)).toNat <= v0.size) && decide (v0.size <= v0.size) && true then rc (v0.extract (Qf (Ql v3 v5) (zi v0.size)).toNat v0.size) v1 v2 v3 (v4 + (Jj (Wf v0 v3 v5)).length) (IntKind.i64.wrap (v5 + 1)) (v6 && (Jj (Wf v0 v3 v5)).isEmpty) (List.take v4 v7 ++ Jj (Wf v0 v3 v5)) else none else none else none else bif (PV.child 0 (v3.getD v5.toNat PV.top)).int == 2 then bif decide (0 <= v5) && decide (v5 < zi v3.length) && (QX v3 v5) && true then bif Je (v4 + (Jj (JZ v3 v5).str).length) 1 && true then rc v0 v1 v2 v3 (v4 + (Jj (JZ v3 v5).str).length) (IntKind.i64.wrap (v5 + 1)) (v6 && (Jj (JZ v3 v5).str).isEmpty) (List.take v4 v7 ++ Jj (JZ v3 v5).str) else none else none else bif (PV.child 0 (v3.getD v5.toNat PV.top)).int == 3 then bif decide (0 <= Qf (Ql v3 v5) (zi v0.size)) && true && decide ((Qf (Ql v3 v5) (zi v0.size)).toNat <= v0.size) && decide (v0.size <= v0.size) && true then rc (v0.extract (Qf (Ql v3 v5) (zi v0.size)).toNat v0.size) v1 v2 v3 v4 (IntKind.i64.wrap (v5 + 1)) v6 v7 else none else rc v0 v1 v2 v3 v4 (IntKind.i64.wrap (v5 + 1)) v6 v7 else none else none
def Q4 (f : Nat) (k0 : ByteArray -> Int -> OR) : Nat -> ByteArray -> Bool -> Bool -> List PV -> Nat -> Int -> Bool -> List PV -> OR
 | 0, _, _, _, _, _, _, _, _ => none
 | n + 1, v0, v1, v2, v3, v4, v5, v6, v7 => XF f (Q4 f k0 n) k0 v0 v1 v2 v3 v4 v5 v6 v7
def JbR (k : Kont) := fun x0 x1 => k Ex.ret (Ji JnG N89 [.sc (.string x0), .sc (.int .i64 x1)] [])
def JnH (f : Nat) (k : Kont) (n : Nat) (v0 : ByteArray) (v1 v2 : Bool) (v3 : List PV) (v4 : Nat) (v5 : Int) (v6 : Bool) (v7 : List PV) : OR := QZ tau 0 Jfy (hasLabel Jko) (fun l s k => Qg tau F89 0 0 Jko (JpO ) l s k) n 0 (Ji Jfy N89 [.sc (.string v0), .ro 113 v1 v2 v3, .ow 5 1152 [] 0 v4 none, .sc (.int .i64 v5)] [(1152, .vec false 5 v6 v7)]) (JG tau 0 JnG k)
theorem JxG (f : Nat) (k : Kont) (n : Nat) (v0 : ByteArray) (v1 v2 : Bool) (v3 : List PV) (v4 : Nat) (v5 : Int) (v6 : Bool) (v7 : List PV) : JnH f k (n + 1) v0 v1 v2 v3 v4 v5 v6 v7 = XF f (JnH f k n) (JbR k) v0 v1 v2 v3 v4 v5 v6 v7 := by kernel_rfl
theorem JpP (f : Nat) (k : Kont) : ∀ (n : Nat) (v0 : ByteArray) (v1 v2 : Bool) (v3 : List PV) (v4 : Nat) (v5 : Int) (v6 : Bool) (v7 : List PV), JnH f k n v0 v1 v2 v3 v4 v5 v6 v7 = Q4 f (JbR k) n v0 v1 v2 v3 v4 v5 v6 v7 | 0, _, _, _, _, _, _, _, _ => rfl | n + 1, v0, v1, v2, v3, v4, v5, v6, v7 => (JxG f k n v0 v1 v2 v3 v4 v5 v6 v7).trans (congrArg (fun r => XF f r (JbR k) v0 v1 v2 v3 v4 v5 v6 v7) (by funext v0 v1 v2 v3 v4 v5 v6 v7; exact JpP f k n v0 v1 v2 v3 v4 v5 v6 v7))
def Jfz (f : Nat) : Nat -> List PV -> List (Nat × Ent) -> Kont -> OR
 | 0, [.sc (.string v0), .ro 113 v1 v2 v3, .ow 5 1152 [] 0 v4 none,
 PV.sc
  (Value.int IntKind.i64
   v5)], [(1152, .vec false 5 v6 v7)], k => Q4 f (JbR k) f v0 v1 v2 v3 v4 v5 v6 v7
 | _, _, _, _ => none
theorem JD2 (f : Nat) : Jf Jko JpO = [] := by kernel_rfl
theorem JD3 (f : Nat) : (Item.s Jko Jfy N89 (Jfz f)).Ok tau Try.prog 0 := XS Jn Juo Jo (x := JpO) (nm2 := JnG) (Jk _ _ (by rw [JD2 f]; intro q hq; cases hq)) fun l vs hp k res hr => by
 unfold Jfz at hr
 split at hr
 · exact ⟨f, 0, (JpP f _ f _ _ _ _ _ _ _ _ ).trans hr⟩
 · cases hr
abbrev WI (o : List PV) := (PV.child (0 + 1 + 1) (o.getD 0 PV.top))
abbrev Jcx (o : List PV) := (PV.isSt 113 #[Field.mk "Kind" 3 0 false "" "" 0, Field.mk "N" 3 1 false "" "" 8, Field.mk "S" 9 2 false "" "" 16].size (o.getD (Int.toNat 0) PV.top) && (PV.isInt IntKind.i64 (PV.child 0 (o.getD 0 PV.top)) && (PV.isInt IntKind.i64 (PV.child (0 + 1) (o.getD 0 PV.top)) && ((WI o).isStr && true))))
abbrev YC (o : List PV) := (V5 (PV.child (0 + 1) (o.getD 0 PV.top)).int 0)
abbrev YD (doc : ByteArray) (o : List PV) := (Qf (V5 (zi (WI o).str.size) 0) (zi doc.size))
abbrev JfA (doc : ByteArray) (o : List PV) := (Jj (doc.extract 0 (Qf (YC o) (zi doc.size)).toNat))
def g89 (f : Nat) (doc : ByteArray) (o_z o_f : Bool) (o : List PV) (k : KR) : OR := bif aOk o then bif !(FloatKind.f64.format.order (PV.sc (Value.complex FloatKind.f64 (fOf FloatKind.f64 (zi doc.size)) (szO o))).cre (PV.sc (Value.complex FloatKind.f64 (szI o) (szO o))).cre == some Ordering.eq && FloatKind.f64.format.order (PV.sc (Value.complex FloatKind.f64 (fOf FloatKind.f64 (zi doc.size)) (szO o))).cim (PV.sc (Value.complex FloatKind.f64 (szI o) (szO o))).cim == some Ordering.eq) then k (Res.mk (.tup [.sc (.string (ByteArray.mk (Array.mk []))), .sc (.int .i64 7)]) [] []) else bif FloatKind.f64.format.order (PV.sc (Value.float FloatKind.f64 (szO o))).flo (PV.sc (Value.float FloatKind.f64 4638144666238189568)).flo == some Ordering.gt then k (Res.mk (.tup [.sc (.string (ByteArray.mk (Array.mk []))), .sc (.int .i64 5)]) [] []) else bif 0 == zi o.length then k (Res.mk (.tup [.sc (.string (ByteArray.mk (Array.mk (JU (true, []).snd)))), .sc (.int .i64 0)]) [] []) else bif decide (0 < zi o.length) && (Jcx o) && true then bif (PV.child 0 (o.getD 0 PV.top)).int == 2 then bif decide (0 < zi o.length) && (Jcx o) && true then bif (PV.child 0 (o.getD 0 PV.top)).int == 1 then bif decide (0 <= Qf (V5 (zi (WI o).str.size) 0) (zi doc.size)) && true && decide ((YD doc o).toNat <= doc.size) && true then bif Je (Jj (doc.extract 0 (YD doc o).toNat)).length 1 && true then bif decide (0 <= Qf (V5 (zi (WI o).str.size) 0) (zi doc.size)) && true && decide ((YD doc o).toNat <= doc.size) && decide (doc.size <= doc.size) && true then Q4 f (fun x0_0 x1_0 => k (Res.mk (.tup [.sc (.string x0_0), .sc (.int .i64 x1_0)]) [] [])) f (doc.extract (YD doc o).toNat doc.size) o_z o_f o ((Jj (doc.extract 0 (YD doc o).toNat)).length) (IntKind.i64.wrap (0 + 1)) ((Jj (doc.extract 0 (YD doc o).toNat)).isEmpty) (Jj (doc.extract 0 (YD doc o).toNat)) else none else none else none else bif (PV.child 0 (o.getD 0 PV.top)).int == 2 then bif decide (0 < zi o.length) && (Jcx o) && true then bif Je (Jj (WI o).str).length 1 && true then Q4 f (fun x0_1 x1_1 => k (Res.mk (.tup [.sc (.string x0_1), .sc (.int .i64 x1_1)]) [] [])) f doc o_z o_f o ((Jj (WI o).str).length) (IntKind.i64.wrap (0 + 1)) ((Jj (WI o).str).isEmpty) (Jj (WI o).str) else none else none else bif (PV.child 0 (o.getD 0 PV.top)).int == 3 then bif decide (0 <= Qf (V5 (zi (WI o).str.size) 0) (zi doc.size)) && true && decide ((YD doc o).toNat <= doc.size) && decide (doc.size <= doc.size) && true then Q4 f (fun x0_2 x1_2 => k (Res.mk (.tup [.sc (.string x0_2), .sc (.int .i64 x1_2)]) [] [])) f (doc.extract (YD doc o).toNat doc.size) o_z o_f o (0) (IntKind.i64.wrap (0 + 1)) true ([]) else none else Q4 f (fun x0_3 x1_3 => k (Res.mk (.tup [.sc (.string x0_3), .sc (.int .i64 x1_3)]) [] [])) f doc o_z o_f o (0) (IntKind.i64.wrap (0 + 1)) true ([]) else none else bif decide (0 < zi o.length) && (Jcx o) && true then bif (PV.child 0 (o.getD 0 PV.top)).int == 1 then bif decide (0 <= Qf (YC o) (zi doc.size)) && true && decide ((Qf (YC o) (zi doc.size)).toNat <= doc.size) && true then bif Je (JfA doc o).length 1 && true then bif decide (0 <= Qf (YC o) (zi doc.size)) && true && decide ((Qf (YC o) (zi doc.size)).toNat <= doc.size) && decide (doc.size <= doc.size) && true then Q4 f (fun x0_4 x1_4 => k (Res.mk (.tup [.sc (.string x0_4), .sc (.int .i64 x1_4)]) [] [])) f (doc.extract (Qf (YC o) (zi doc.size)).toNat doc.size) o_z o_f o ((JfA doc o).length) (IntKind.i64.wrap (0 + 1)) ((JfA doc o).isEmpty) (JfA doc o) else none else none else none else bif (PV.child 0 (o.getD 0 PV.top)).int == 2 then bif decide (0 < zi o.length) && (Jcx o) && true then bif Je (Jj (WI o).str).length 1 && true then Q4 f (fun x0_5 x1_5 => k (Res.mk (.tup [.sc (.string x0_5), .sc (.int .i64 x1_5)]) [] [])) f doc o_z o_f o ((Jj (WI o).str).length) (IntKind.i64.wrap (0 + 1)) ((Jj (WI o).str).isEmpty) (Jj (WI o).str) else none else none else bif (PV.child 0 (o.getD 0 PV.top)).int == 3 then bif decide (0 <= Qf (YC o) (zi doc.size)) && true && decide ((Qf (YC o) (zi doc.size)).toNat <= doc.size) && decide (doc.size <= doc.size) && true then Q4 f (fun x0_6 x1_6 => k (Res.mk (.tup [.sc (.string x0_6), .sc (.int .i64 x1_6)]) [] [])) f (doc.extract (Qf (YC o) (zi doc.size)).toNat doc.size) o_z o_f o (0) (IntKind.i64.wrap (0 + 1)) true ([]) else none else Q4 f (fun x0_7 x1_7 => k (Res.mk (.tup [.sc (.string x0_7), .sc (.int .i64 x1_7)]) [] [])) f doc o_z o_f o (0) (IntKind.i64.wrap (0 + 1)) true ([]) else none else none else none
theorem e89 (f : Nat) (doc : ByteArray) (o_z o_f : Bool) (o : List PV) (k : KR) : JJ tau F89 Try.f89 (Try.f89.body.get!) (JxF (Jfz f)) [.ro, .ro] 0 [.sc (.string doc), .ro 113 o_z o_f o] [] k = g89 f doc o_z o_f o k := by kernel_rfl
theorem JOv (f : Nat) : Jf (Try.f89.body.get!) (JxF (Jfz f)) = [.s Jko Jfy N89 (Jfz f)] := by kernel_rfl
theorem JOw (f : Nat) : ∀ q ∈ Jf (Try.f89.body.get!) (JxF (Jfz f)), q.Ok tau Try.prog 0 := by rw [JOv f]; exact JL (JD3 f) (fun _ h => nomatch h)
theorem JKD : Try.prog.funcs[89]? = some Try.f89 := by kernel_rfl
theorem JKE : Try.f89.body = some (Try.f89.body.get!) := by kernel_rfl
theorem JOx : Enters Try.prog 89 := enters_of JKD (by kernel_rfl) JKE
-- FN
def JfY : List PV -> List UInt8 -> List UInt8
 | [], _ => []
 | p :: ps, t =>
  bif (cv p).kd == 1 then t.take (cv p).n.toNat ++ JfY ps (t.drop (cv p).n.toNat)
  else bif (cv p).kd == 2 then (cv p).s.data.toList ++ JfY ps t
  else JfY ps (t.drop (cv p).n.toNat)
theorem JbS : ∀ (l : List PV) (doc : ByteArray) (at1 : Nat) (out : ByteArray), (apl l doc at1 out).data.toList = out.data.toList ++ JfY l (doc.data.toList.drop at1)
 | [], doc, at1, out => by simp [apl, JfY]
 | p :: ps, doc, at1, out => by
  simp only [apl, JfY]
  cases (cv p).kd == 1 with
  | true =>
   simp only [cond_true]
   rw [JbS, ByteArray.data_append, Array.toList_append, ByteArray.data_extract, Array.toList_extract, List.extract_eq_take_drop, List.append_assoc, List.drop_drop]
   have e : at1 + (cv p).n.toNat - at1 = (cv p).n.toNat := by omega
   rw [e]
  | false =>
   simp only [cond_false]
   cases (cv p).kd == 2 with
   | true => simp only [cond_true]; rw [JbS, ByteArray.data_append, Array.toList_append, List.append_assoc]
   | false => simp only [cond_false]; rw [JbS, List.drop_drop]
-- FN op.Apply
def ob (l : List UInt8) : List PV := l.map fun b => .sc (.int .u8 b.toNat)
theorem JKF (s : ByteArray) : Jj s = ob s.data.toList := rfl
theorem JD4 (a b : List UInt8) : ob a ++ ob b = ob (a ++ b) := by simp [ob]
theorem JnI (a : List UInt8) : (ob a).length = a.length := by simp [ob]
theorem Jz4 : ∀ l : List UInt8, JU (ob l) = l
 | [] => rfl
 | b :: l => by
  show UInt8.ofNat ((b.toNat : Int)).toNat :: JU (ob l) = _
  rw [Jz4 l, Int.toNat_natCast, UInt8.ofNat_toNat]
theorem Jup : ∀ l : List UInt8, Jl .u8 (ob l) = true
 | [] => rfl
 | b :: l => by
  show (PV.isInt .u8 (.sc (.int .u8 b.toNat)) && Jl .u8 (ob l)) = true
  rw [Jup l]; rfl
theorem JD5 {a b : ByteArray} (h : a.data.toList = b.data.toList) : a = b := by
 cases a with
 | mk x => cases b with
  | mk y => exact congrArg ByteArray.mk (Array.ext' h)
theorem Jz5 {n m : Int} (h0 : 0 <= n) (h1 : n <= m) : Qf (V5 n 0) m = n := by
 unfold Qf V5
 by_cases h : n < 0
 · omega
 · rw [if_neg h]
   by_cases g : m < n
   · omega
   · rw [if_neg g]
theorem JxH (f : Nat) (rc : ByteArray -> Bool -> Bool -> List PV -> Nat -> Int -> Bool -> List PV -> OR) (k0 : ByteArray -> Int -> OR) (r : ByteArray) (z fl : Bool) (l : List PV) (out : List UInt8) (q : Bool) :
  XF f rc k0 r z fl l out.length (l.length : Int) q (ob out) = k0 ⟨⟨out⟩⟩ 0 := by
 have e : List.take out.length (ob out) = ob out := by rw [← JnI out]; exact List.take_length
 simp only [XF, Wf, Qm, Ql, QX, JZ, List.drop_zero, e, Jz4, Jup]
 exact Ja (beq_self_eq_true _)
theorem Juq (f : Nat) (rc : ByteArray -> Bool -> Bool -> List PV -> Nat -> Int -> Bool -> List PV -> OR) (k0 : ByteArray -> Int -> OR) (r : ByteArray) (z fl : Bool) (l : List PV) (ha : aOk l = true) (out : List UInt8) (q : Bool) (i : Nat) (hi : i < l.length) (X : OR)
   (hr : inC (cv (l.getD i .top)) <= r.size) (ho : (out.length : Int) + QK (cv (l.getD i .top)) <= 1000)
   (h : ∀ (r2 : ByteArray) (o2 : List UInt8) (q2 : Bool),
     (bif (cv (l.getD i .top)).kd == 1 then r2.data.toList = r.data.toList.drop (cv (l.getD i .top)).n.toNat /\ o2 = out ++ r.data.toList.take (cv (l.getD i .top)).n.toNat
       else bif (cv (l.getD i .top)).kd == 2 then r2.data.toList = r.data.toList /\ o2 = out ++ (cv (l.getD i .top)).s.data.toList
       else r2.data.toList = r.data.toList.drop (cv (l.getD i .top)).n.toNat /\ o2 = out : Prop) ->
     rc r2 z fl l o2.length ((i + 1 : Nat) : Int) q2 (ob o2) = X) :
   XF f rc k0 r z fl l out.length (i : Int) q (ob out) = X := by
 obtain ⟨h1, hl, hck⟩ := Q2.1 ha
 have g1 : ((i : Int)).toNat = i := by omega
 have w1 : IntKind.i64.wrap ((i : Int) + 1) = ((i + 1 : Nat) : Int) := by rw [wrap_i64 (by omega) (by omega)]; omega
 have hc := Jke h1 (i := i) (by omega)
 unfold GW at hc
 have hk := (YT ha (i := i) (by omega)).2
 have e : List.take out.length (ob out) = ob out := by rw [← JnI out]; exact List.take_length
 simp only [XF, Wf, Qm, Ql, QX, JZ, g1, w1, e, JKF, JD4, JnI, ← List.length_append]
 generalize l.getD i .top = p at *
 have e1 : (PV.child 0 p).int = (cv p).kd := rfl
 have e2 : (PV.child (0 + 1) p).int = (cv p).n := rfl
 have e3 : (PV.child (0 + 1 + 1) p).str = (cv p).s := rfl
 simp only [e1, e2, e3]
 refine (Jd (beq_false_of_ne (by simp only [zi]; omega))).trans ((Ja hc).trans ?_)
 have hn0 : ∀ (n : Nat), n <= r.size -> (r.extract 0 n).data.toList = r.data.toList.take n := fun n hn => by
   rw [ByteArray.data_extract, Array.toList_extract, List.extract_eq_take_drop, List.drop_zero, Nat.sub_zero]
 have hn1 : ∀ (n : Nat), (r.extract n r.size).data.toList = r.data.toList.drop n := fun n => by
   rw [ByteArray.data_extract, Array.toList_extract, List.extract_eq_take_drop]
   exact List.take_of_length_le (by rw [List.length_drop]; exact Nat.le_refl _)
 have hlen : r.data.toList.length = r.size := rfl
 rcases Xn hk with ⟨q1, q2, q3, q4⟩ | ⟨q1, q2, q3, q4⟩
 · rcases q1 with q1 | q1
   · have ei : inC (cv p) = (cv p).n := by unfold inC; rw [q1]; rfl
     have eo : QK (cv p) = (cv p).n := by unfold QK; rw [q1]; rfl
     rw [ei] at hr
     rw [eo] at ho
     have mm := Jz5 (n := (cv p).n) (m := zi r.size) (by omega) (by simp only [zi]; omega)
     have hx := hn0 (cv p).n.toNat (by omega)
     rw [q1] at h ⊢
     simp only [mm, hx]
     refine (Jd rfl).trans ((Ja hc).trans ((Ja rfl).trans ?_))
     refine (Ja (by simp [zi]; omega)).trans ((Ja ?_).trans ((Ja (by simp [zi]; omega)).trans ?_))
     · simp [Je]; omega
     · exact h _ _ _ ⟨hn1 _, rfl⟩
   · have ei : inC (cv p) = (cv p).n := by unfold inC; rw [q1]; rfl
     rw [ei] at hr
     have mm := Jz5 (n := (cv p).n) (m := zi r.size) (by omega) (by simp only [zi]; omega)
     rw [q1] at h ⊢
     simp only [mm]
     refine (Jd rfl).trans ((Ja hc).trans ((Jd rfl).trans ((Jd rfl).trans ((Ja rfl).trans ?_))))
     refine (Ja (by simp [zi]; omega)).trans ?_
     exact h _ _ _ ⟨hn1 _, rfl⟩
 · have eo : QK (cv p) = (cv p).s.size := by unfold QK; rw [q1]; rfl
   rw [eo] at ho
   have hs : (cv p).s.data.toList.length = (cv p).s.size := rfl
   rw [q1] at h ⊢
   refine (Ja rfl).trans ((Ja hc).trans ((Jd rfl).trans ((Ja rfl).trans ((Ja hc).trans ?_))))
   refine (Ja ?_).trans ?_
   · simp [Je]; omega
   · exact h _ _ _ ⟨rfl, rfl⟩
theorem JpQ (l : List PV) (ha : aOk l = true) (f : Nat) (k0 : ByteArray -> Int -> OR) (z fl : Bool) : ∀ (d i n : Nat) (r : ByteArray) (out : List UInt8) (q : Bool), i + d = l.length -> d < n -> inL (l.drop i) <= r.size -> (out.length : Int) + outL (l.drop i) <= 1000 ->
  Q4 f k0 n r z fl l out.length (i : Int) q (ob out) = k0 ⟨⟨out ++ JfY (l.drop i) r.data.toList⟩⟩ 0
 | 0, i, n + 1, r, out, q, hi, hn, h3, h4 => by
   rw [List.drop_of_length_le (by omega)]
   obtain rfl : i = l.length := by omega
   simp only [Q4, JfY, List.append_nil]
   exact JxH f _ k0 r z fl l out q
 | d + 1, i, n + 1, r, out, q, hi, hn, h3, h4 => by
   obtain ⟨h1, hl, hck⟩ := Q2.1 ha
   have hck' : ∀ q ∈ l.drop (i + 1), ckC (cv q) = 0 := fun q hq => hck q (List.mem_of_mem_drop hq)
   have hin := X4 hck'
   have hon := Yq hck'
   have hk := (YT ha (i := i) (by omega)).2
   rw [JW (by omega)] at h3 h4 ⊢
   simp only [Q4, JfY]
   simp only [inL, outL] at h3 h4
   have i1 := Jfg hk
   have o1 := JbA hk
   refine Juq f _ k0 r z fl l ha out q i (by omega) _ (by omega) (by omega) fun r2 o2 q2 h => ?_
   generalize l.getD i .top = p at *
   have sz : ∀ x : ByteArray, x.data.toList.length = x.size := fun _ => rfl
   rcases Xn hk with ⟨q1, q3, q4, q5⟩ | ⟨q1, q3, q4, q5⟩
   · rcases q1 with q1 | q1
     · have ei : inC (cv p) = (cv p).n := by unfold inC; rw [q1]; rfl
       have eo : QK (cv p) = (cv p).n := by unfold QK; rw [q1]; rfl
       rw [q1] at h ⊢
       obtain ⟨e1, e2⟩ := h
       have l1 := congrArg List.length e1
       have l2 := congrArg List.length e2
       rw [List.length_drop, sz, sz] at l1
       rw [List.length_append, List.length_take, sz] at l2
       rw [JpQ l ha f k0 z fl d (i + 1) n r2 o2 q2 (by omega) (by omega) (by omega) (by omega), e1, e2, List.append_assoc]
       rfl
     · have ei : inC (cv p) = (cv p).n := by unfold inC; rw [q1]; rfl
       rw [q1] at h ⊢
       obtain ⟨e1, e2⟩ := h
       have l1 := congrArg List.length e1
       rw [List.length_drop, sz, sz] at l1
       subst e2
       rw [JpQ l ha f k0 z fl d (i + 1) n r2 _ q2 (by omega) (by omega) (by omega) (by omega), e1]
       rfl
   · have ei : inC (cv p) = 0 := by unfold inC; rw [q1]; rfl
     have eo : QK (cv p) = (cv p).s.size := by unfold QK; rw [q1]; rfl
     rw [q1] at h ⊢
     obtain ⟨e1, e2⟩ := h
     have l1 := congrArg List.length e1
     have l2 := congrArg List.length e2
     rw [sz, sz] at l1
     rw [List.length_append, sz] at l2
     rw [JpQ l ha f k0 z fl d (i + 1) n r2 o2 q2 (by omega) (by omega) (by omega) (by omega), e1, e2, List.append_assoc]
     rfl
theorem JD6 (f : Nat) (doc : ByteArray) (z fl : Bool) (o : List PV) (k : KR) : g89 f doc z fl o k =
  bif aOk o then
   bif !(FloatKind.f64.format.order (fOf .f64 (zi doc.size)) (szI o) == some Ordering.eq && FloatKind.f64.format.order (szO o) (szO o) == some Ordering.eq) then k ⟨.tup [.sc (.string (ByteArray.mk (Array.mk []))), .sc (.int .i64 7)], [], []⟩
   else bif FloatKind.f64.format.order (szO o) 4638144666238189568 == some Ordering.gt then k ⟨.tup [.sc (.string (ByteArray.mk (Array.mk []))), .sc (.int .i64 5)], [], []⟩
   else XF f (Q4 f (fun x y => k ⟨.tup [.sc (.string x), .sc (.int .i64 y)], [], []⟩) f) (fun x y => k ⟨.tup [.sc (.string x), .sc (.int .i64 y)], [], []⟩) doc z fl o 0 0 true []
  else none := by
 unfold g89 JfA YD YC Jcx WI XF Wf Qm Ql QX JZ
 simp only [Nat.zero_add]
 rfl
theorem JKG (a b : Int) : compare a b = if a < b then .lt else if a = b then .eq else .gt := rfl
theorem JiU {a b : Int} : compare a b = .eq ↔ a = b := by
 rw [JKG]
 by_cases h : a < b
 · rw [if_pos h]; exact ⟨fun e => (nomatch e), fun e => by omega⟩
 · rw [if_neg h]
   by_cases g : a = b
   · rw [if_pos g]; exact ⟨fun _ => g, fun _ => rfl⟩
   · rw [if_neg g]; exact ⟨fun e => (nomatch e), fun e => absurd e g⟩
theorem JpR {a b : Int} : compare a b = .gt ↔ a > b := by
 rw [JKG]
 by_cases h : a < b
 · rw [if_pos h]; exact ⟨fun e => (nomatch e), fun e => by omega⟩
 · rw [if_neg h]
   by_cases g : a = b
   · rw [if_pos g]; exact ⟨fun e => (nomatch e), fun e => by omega⟩
   · rw [if_neg g]; exact ⟨fun _ => by omega, fun _ => rfl⟩
theorem f120 : fz 120 = 4638144666238189568 := by decide +kernel
def JnJ : Jz
 | [.sc (.string doc), .ro 113 z f o], [], k => bif aOk o && decide (doc.size <= 10000) then k ⟨.tup [.sc (.string (apD ⟨doc, o⟩)), .sc (.int .i64 (apE ⟨doc, o⟩))], [], []⟩ else none
 | _, _, _ => none
def JKH : Sig := { own := [], run := JnJ }
theorem JD7 (doc : ByteArray) (z f : Bool) (o : List PV) (h : aOk o = true) (hd : doc.size <= 10000) (k : KR) : g89 50 doc z f o k = k ⟨.tup [.sc (.string (apD ⟨doc, o⟩)), .sc (.int .i64 (apE ⟨doc, o⟩))], [], []⟩ := by
 obtain ⟨h1, h2, h3⟩ := Q2.1 h
 have p53 : (2 : Nat) ^ 53 = 9007199254740992 := by decide
 have hle := Jnh h3
 have hI := X4 h3
 have hO := Yq h3
 have hOle : ∀ {l : List PV}, (∀ p ∈ l, ckC (cv p) = 0) -> outL l <= 120 * l.length := by
   intro l
   induction l with
   | nil => intro _; simp [outL]
   | cons p l ih =>
     intro h
     have h1 := (JbA (h p List.mem_cons_self)).2
     have h2 := ih fun q hq => h q (List.mem_cons_of_mem _ hq)
     simp only [outL, List.length_cons]; omega
 have hOl := hOle h3
 rw [JD6, Jng, JtA, Jkf, Juk, Jum, Jun, ← f120]
 have r1 : FloatKind.f64.format.order (fz (zi doc.size)) (fz (inL o)) = some (compare (zi doc.size) (inL o)) := Jfx (by rw [p53]; simp only [zi]; omega) (by rw [p53]; omega)
 have r2 : FloatKind.f64.format.order (fz (outL o)) (fz (outL o)) = some (compare (outL o) (outL o)) := Jfx (by rw [p53]; omega) (by rw [p53]; omega)
 have r3 : FloatKind.f64.format.order (fz (outL o)) (fz 120) = some (compare (outL o) 120) := Jfx (by rw [p53]; omega) (by rw [p53]; decide)
 have r4 : compare (outL o) (outL o) = .eq := JiU.2 rfl
 rw [r1, r2, r3, r4]
 refine (Ja h).trans ?_
 by_cases hi : inL o = zi doc.size
 · have c1 : compare (zi doc.size) (inL o) = .eq := JiU.2 hi.symm
   have c2 : (inL o != zi doc.size) = false := by rw [hi]; simp
   rw [c1, c2]
   refine (Jd rfl).trans ?_
   by_cases ho : outL o > 120
   · have c3 : compare (outL o) 120 = .gt := JpR.2 ho
     rw [c3, decide_eq_true ho]
     rfl
   · have c3 : (some (compare (outL o) 120) == some Ordering.gt) = false := beq_false_of_ne fun e => ho (JpR.1 (Option.some.inj e))
     rw [c3, decide_eq_false ho]
     refine (Jd rfl).trans ?_
     have := JpQ o h 50 (fun x y => k ⟨.tup [.sc (.string x), .sc (.int .i64 y)], [], []⟩) z f o.length 0 51 doc [] true (by omega) (by omega) (by rw [List.drop_zero, hi]; simp [zi]) (by rw [List.drop_zero]; simp; omega)
     simp only [Q4, List.drop_zero, List.nil_append] at this
     have e2 : apl o doc 0 (ByteArray.mk (Array.mk [])) = ⟨⟨JfY o doc.data.toList⟩⟩ := JD5 (by rw [JbS, List.drop_zero]; rfl)
     refine this.trans ?_
     rw [← e2]; rfl
 · have c1 : (some (compare (zi doc.size) (inL o)) == some Ordering.eq) = false := beq_false_of_ne fun e => hi (JiU.1 (Option.some.inj e)).symm
   have c2 : (inL o != zi doc.size) = true := by simp [bne, hi]
   rw [c1, c2]
   rfl
theorem JKI : Jc tau Try.prog 89 JKH := Jc.mk' fun xs es k res hl hr => by
 change JnJ xs es k = some res at hr
 unfold JnJ at hr
 split at hr
 · rename_i doc z f o
   obtain ⟨hc, hr⟩ := Jv hr
   have hd := (Bool.and_eq_true _ _ ▸ hc).2
   have hc := (Bool.and_eq_true _ _ ▸ hc).1
   exact J2 Jn Juo Jo JKD JKE (JxF (Jfz 50)) [.ro, .ro] 0 0 (JOw 50) hl rfl ((e89 50 doc z f o k).trans ((JD7 doc z f o hc (of_decide_eq_true hd) k).trans hr))
 · cases hr
def N40 : Nat := 79
def F40 : Fns := Jt 91 JKt (Jt 90 JKr (Jt 89 JKH (Jt 88 Jvv (F0))))
theorem Jur : Jq tau Try.prog F40 := ((((Js).add Jrq JAr).add JKI JOx).add JKs JOo).add JKu JOr
def Jkp : Code := Qd (Try.f40.body.get!) [1, 0]
def JfB : Nm := [(0, .any), (1, .any)]
def JnK : Nm := [(4, .any)]
def JpS : An := (.seq (.seq .leaf (.block none (.seq .leaf (.cond (.seq (.seq .leaf (.seq .leaf (.cond (.seq .leaf .leaf) .leaf))) (.seq .leaf (.seq .leaf .leaf))) (.seq .leaf (.cond (.seq (.seq .leaf (.cond .leaf .leaf)) (.seq .leaf (.seq .leaf .leaf))) .leaf)))))) (.seq (.seq .leaf (.cond .leaf .leaf)) (.seq .leaf (.seq (.seq .leaf .leaf) (.seq .leaf (.seq .leaf .leaf))))))
def JxI (r0 : Jrc) : An := (.seq .leaf (.ssum JfB N40 (JpS) r0))
def JdB (f : Nat) (rc : Bool -> Bool -> List PV -> Int -> Int -> ByteArray -> Bool -> Bool -> List PV -> Int -> List PV -> Int -> Int -> Int -> Int -> List PV -> Int -> Bool -> Bool -> List PV -> Int -> Int -> OR) (k0 : Int -> Int -> Int -> ByteArray -> Bool -> Bool -> List PV -> Int -> List PV -> Int -> Int -> Int -> Int -> List PV -> Int -> Bool -> Bool -> List PV -> Int -> Int -> OR) (v0 v1 : Bool) (v2 : List PV) (v3 v4 : Int) (v5 : ByteArray) (v6 v7 : Bool) (v8 : List PV) (v9 : Int) (v10 : List PV) (v11 v12 v13 v14 : Int) (v15 : List PV) (v16 : Int) (v17 v18 : Bool) (v19 : List PV) (v20 v21 : Int) : OR := k0 (1) v3 v4 v5 v6 v7 v8 v9 v10 v11 v12 v13 v14 v15 v16 v17 v18 v19 v20 v21
def Jcy (f : Nat) (k0 : Int -> Int -> Int -> ByteArray -> Bool -> Bool -> List
 PV -> Int -> List
 PV -> Int -> Int -> Int -> Int -> List
 PV -> Int -> Bool -> Bool -> List
 PV -> Int -> Int -> OR) : Nat -> Bool -> Bool -> List
 PV -> Int -> Int -> ByteArray -> Bool -> Bool -> List PV -> Int -> List PV -> Int -> Int -> Int -> Int -> List PV -> Int -> Bool -> Bool -> List PV -> Int -> Int -> OR
 | 0, _, _, _, _, _, _, _, _, _, _, _, _, _, _, _, _, _, _, _, _, _, _ => none
 | n + 1, v0, v1, v2, v3, v4, v5, v6, v7, v8, v9, v10, v11, v12, v13, v14, v15, v16, v17, v18, v19, v20, v21 => JdB f (Jcy f k0 n) k0 v0 v1 v2 v3 v4 v5 v6 v7 v8 v9 v10 v11 v12 v13 v14 v15 v16 v17 v18 v19 v20 v21
def JbT (k : Kont) := fun x0 x1 x2 x3 x4 x5 x6 x7 x8 x9 x10 x11 x12 x13 x14 x15 x16 x17 x18 x19 => k Ex.ret (Ji JnK N40 [.sc (.int .i64 x0)] [(0, .box false 98 (PV.st 98 [.st 39 [.st 34 [.sc (.int .i64 x1), .sc (.int .i64 x2)], .sc (.string x3), .ro 42 x4 x5 x6, .sc (.int .i64 x7), .ar 37 x8], .st 53 [.st 42 [.sc (.int .i64 x9), .sc (.int .i64 x10)], .sc (.int .i64 x11), .sc (.int .i64 x12), .ar 37 x13, .sc (.int .i64 x14), .ro 113 x15 x16 x17, .st 42 [.sc (.int .i64 x18), .sc (.int .i64 x19)]]]))])
def JnL (f : Nat) (k : Kont) (n : Nat) (v0 v1 : Bool) (v2 : List PV) (v3 v4 : Int) (v5 : ByteArray) (v6 v7 : Bool) (v8 : List PV) (v9 : Int) (v10 : List PV) (v11 v12 v13 v14 : Int) (v15 : List PV) (v16 : Int) (v17 v18 : Bool) (v19 : List PV) (v20 v21 : Int) : OR := QZ tau 1 JfB (hasLabel Jkp) (fun l s k => Qg tau F40 1 0 Jkp (JpS ) l s k) n 0 (Ji JfB N40 [.ptr 0 [], .ro 113 v0 v1 v2] [(0, .box false 98 (PV.st 98 [.st 39 [.st 34 [.sc (.int .i64 v3), .sc (.int .i64 v4)], .sc (.string v5), .ro 42 v6 v7 v8, .sc (.int .i64 v9), .ar 37 v10], .st 53 [.st 42 [.sc (.int .i64 v11), .sc (.int .i64 v12)], .sc (.int .i64 v13), .sc (.int .i64 v14), .ar 37 v15, .sc (.int .i64 v16), .ro 113 v17 v18 v19, .st 42 [.sc (.int .i64 v20), .sc (.int .i64 v21)]]]))]) (JG tau 1 JnK k)
theorem JxJ (f : Nat) (k : Kont) (n : Nat) (v0 v1 : Bool) (v2 : List PV) (v3 v4 : Int) (v5 : ByteArray) (v6 v7 : Bool) (v8 : List PV) (v9 : Int) (v10 : List PV) (v11 v12 v13 v14 : Int) (v15 : List PV) (v16 : Int) (v17 v18 : Bool) (v19 : List PV) (v20 v21 : Int) : JnL f k (n + 1) v0 v1 v2 v3 v4 v5 v6 v7 v8 v9 v10 v11 v12 v13 v14 v15 v16 v17 v18 v19 v20 v21 = JdB f (JnL f k n) (JbT k) v0 v1 v2 v3 v4 v5 v6 v7 v8 v9 v10 v11 v12 v13 v14 v15 v16 v17 v18 v19 v20 v21 := by kernel_rfl
theorem JpT (f : Nat) (k : Kont) : ∀ (n : Nat) (v0 v1 : Bool) (v2 : List PV) (v3 v4 : Int) (v5 : ByteArray) (v6 v7 : Bool) (v8 : List PV) (v9 : Int) (v10 : List PV) (v11 v12 v13 v14 : Int) (v15 : List PV) (v16 : Int) (v17 v18 : Bool) (v19 : List PV) (v20 v21 : Int), JnL f k n v0 v1 v2 v3 v4 v5 v6 v7 v8 v9 v10 v11 v12 v13 v14 v15 v16 v17 v18 v19 v20 v21 = Jcy f (JbT k) n v0 v1 v2 v3 v4 v5 v6 v7 v8 v9 v10 v11 v12 v13 v14 v15 v16 v17 v18 v19 v20 v21 | 0, _, _, _, _, _, _, _, _, _, _, _, _, _, _, _, _, _, _, _, _, _, _ => rfl | n + 1, v0, v1, v2, v3, v4, v5, v6, v7, v8, v9, v10, v11, v12, v13, v14, v15, v16, v17, v18, v19, v20, v21 => (JxJ f k n v0 v1 v2 v3 v4 v5 v6 v7 v8 v9 v10 v11 v12 v13 v14 v15 v16 v17 v18 v19 v20 v21).trans (congrArg (fun r => JdB f r (JbT k) v0 v1 v2 v3 v4 v5 v6 v7 v8 v9 v10 v11 v12 v13 v14 v15 v16 v17 v18 v19 v20 v21) (by funext v0 v1 v2 v3 v4 v5 v6 v7 v8 v9 v10 v11 v12 v13 v14 v15 v16 v17 v18 v19 v20 v21; exact JpT f k n v0 v1 v2 v3 v4 v5 v6 v7 v8 v9 v10 v11 v12 v13 v14 v15 v16 v17 v18 v19 v20 v21))
def JfC (f : Nat) : Nat -> List PV -> List (Nat × Ent) -> Kont -> OR
 | 0, [.ptr 0 [],
 PV.ro 113 v0 v1
  v2], [(0,
  Ent.box false 98
   (PV.st 98
    [.st 39 [.st 34 [.sc (.int .i64 v3), .sc (.int .i64 v4)], .sc (.string v5), .ro 42 v6 v7 v8, .sc (.int .i64 v9), .ar 37 v10],
     PV.st 53
      [.st 42 [.sc (.int .i64 v11), .sc (.int .i64 v12)], .sc (.int .i64 v13), .sc (.int .i64 v14), .ar 37 v15,
       .sc (.int .i64 v16), .ro 113 v17 v18 v19,
       PV.st 42
        [.sc (.int .i64 v20),
         PV.sc
          (Value.int IntKind.i64
           v21)]]]))], k => Jcy f (JbT k) f v0 v1 v2 v3 v4 v5 v6 v7 v8 v9 v10 v11 v12 v13 v14 v15 v16 v17 v18 v19 v20 v21
 | _, _, _, _ => none
theorem JD8 (f : Nat) : Jf Jkp JpS = [] := by kernel_rfl
theorem JD9 (f : Nat) : (Item.s Jkp JfB N40 (JfC f)).Ok tau Try.prog 1 := XS Jn Jur Jo (x := JpS) (nm2 := JnK) (Jk _ _ (by rw [JD8 f]; intro q hq; cases hq)) fun l vs hp k res hr => by
 unfold JfC at hr
 split at hr
 · exact ⟨f, 0, (JpT f _ f _ _ _ _ _ _ _ _ _ _ _ _ _ _ _ _ _ _ _ _ _ _ ).trans hr⟩
 · cases hr
def g40 (f : Nat) (y0 y1 : Int) (y2 : ByteArray) (y3 y4 : Bool) (y5 : List PV) (y6 : Int) (y7 : List PV) (y8 y9 y10 y11 : Int) (y12 : List PV) (y13 : Int) (y14 y15 : Bool) (y16 : List PV) (y17 y18 : Int) (o_z o_f : Bool) (o : List PV) (k : KR) : OR := bif y13 == 1 then bif cOk o then bif ckO o != 0 then k (Res.mk (.sc (.int .i64 (ckO o))) [.box false 98 (PV.st 98 [.st 39 [.st 34 [.sc (.int .i64 y0), .sc (.int .i64 y1)], .sc (.string y2), .ro 42 y3 y4 y5, .sc (.int .i64 y6), .ar 37 y7], .st 53 [.st 42 [.sc (.int .i64 y8), .sc (.int .i64 y9)], .sc (.int .i64 y10), .sc (.int .i64 y11), .ar 37 y12, .sc (.int .i64 y13), .ro 113 y14 y15 y16, .st 42 [.sc (.int .i64 y17), .sc (.int .i64 y18)]]])] []) else bif aOk o && decide (y2.size <= 10000) then k (Res.mk (.sc (.int .i64 (apE (AP.mk y2 o)))) [.box false 98 (PV.st 98 [.st 39 [.st 34 [.sc (.int .i64 y0), .sc (.int .i64 y1)], .sc (.string (apD (AP.mk y2 o))), .ro 42 y3 y4 y5, .sc (.int .i64 y6), .ar 37 y7], .st 53 [.st 42 [.sc (.int .i64 y8), .sc (.int .i64 y9)], .sc (.int .i64 y10), .sc (.int .i64 y11), .ar 37 y12, .sc (.int .i64 y13), .ro 113 y14 y15 y16, .st 42 [.sc (.int .i64 y17), .sc (.int .i64 y18)]]])] []) else none else none else bif y13 == 2 then bif decide (zi o.length > 0) then Jcy f (fun x0_0 x1_0 x2_0 x3_0 x4_0 x5_0 x6_0 QI x8_0 x9_0 x10_0 Jp x12_0 Wo x14_0 x15_0 x16_0 x17_0 x18_0 x19_0 => k (Res.mk (.sc (.int .i64 x0_0)) [.box false 98 (PV.st 98 [.st 39 [.st 34 [.sc (.int .i64 x1_0), .sc (.int .i64 x2_0)], .sc (.string x3_0), .ro 42 x4_0 x5_0 x6_0, .sc (.int .i64 QI), .ar 37 x8_0], .st 53 [.st 42 [.sc (.int .i64 x9_0), .sc (.int .i64 x10_0)], .sc (.int .i64 Jp), .sc (.int .i64 x12_0), .ar 37 Wo, .sc (.int .i64 x14_0), .ro 113 x15_0 x16_0 x17_0, .st 42 [.sc (.int .i64 x18_0), .sc (.int .i64 x19_0)]]])] [])) f o_z o_f o y0 y1 y2 y3 y4 y5 y6 y7 y8 y9 y10 y11 y12 y13 y14 y15 y16 y17 y18 else bif pOk y5 && zOk y3 y5 then k (Res.mk (.sc (.int .i64 (adE (PH.mk y5 (AV.mk y17 y18))))) [.box false 98 (PV.st 98 [.st 39 [.st 34 [.sc (.int .i64 y0), .sc (.int .i64 y1)], .sc (.string y2), .ro 42 (adF (PH.mk y5 (AV.mk y17 y18)) && y3) (adF (PH.mk y5 (AV.mk y17 y18)) && y3) (adL (PH.mk y5 (AV.mk y17 y18))), .sc (.int .i64 y6), .ar 37 y7], .st 53 [.st 42 [.sc (.int .i64 y8), .sc (.int .i64 y9)], .sc (.int .i64 y10), .sc (.int .i64 y11), .ar 37 y12, .sc (.int .i64 y13), .ro 113 y14 y15 y16, .st 42 [.sc (.int .i64 y17), .sc (.int .i64 y18)]]])] []) else none else bif decide (zi o.length > 0) then Jcy f (fun x0_1 x1_1 x2_1 x3_1 x4_1 x5_1 x6_1 YW x8_1 x9_1 x10_1 x11_1 x12_1 x13_1 x14_1 x15_1 x16_1 x17_1 x18_1 x19_1 => k (Res.mk (.sc (.int .i64 x0_1)) [.box false 98 (PV.st 98 [.st 39 [.st 34 [.sc (.int .i64 x1_1), .sc (.int .i64 x2_1)], .sc (.string x3_1), .ro 42 x4_1 x5_1 x6_1, .sc (.int .i64 YW), .ar 37 x8_1], .st 53 [.st 42 [.sc (.int .i64 x9_1), .sc (.int .i64 x10_1)], .sc (.int .i64 x11_1), .sc (.int .i64 x12_1), .ar 37 x13_1, .sc (.int .i64 x14_1), .ro 113 x15_1 x16_1 x17_1, .st 42 [.sc (.int .i64 x18_1), .sc (.int .i64 x19_1)]]])] [])) f o_z o_f o y0 y1 y2 y3 y4 y5 y6 y7 y8 y9 y10 y11 y12 y13 y14 y15 y16 y17 y18 else bif pOk y5 && zOk y3 y5 then k (Res.mk (.sc (.int .i64 (rmE (PH.mk y5 (AV.mk y17 y18))))) [.box false 98 (PV.st 98 [.st 39 [.st 34 [.sc (.int .i64 y0), .sc (.int .i64 y1)], .sc (.string y2), .ro 42 (rmZ (PH.mk y5 (AV.mk y17 y18)) y3) (rmF (PH.mk y5 (AV.mk y17 y18)) y3) (rmL (PH.mk y5 (AV.mk y17 y18))), .sc (.int .i64 y6), .ar 37 y7], .st 53 [.st 42 [.sc (.int .i64 y8), .sc (.int .i64 y9)], .sc (.int .i64 y10), .sc (.int .i64 y11), .ar 37 y12, .sc (.int .i64 y13), .ro 113 y14 y15 y16, .st 42 [.sc (.int .i64 y17), .sc (.int .i64 y18)]]])] []) else none
theorem e40 (f : Nat) (y0 y1 : Int) (y2 : ByteArray) (y3 y4 : Bool) (y5 : List PV) (y6 : Int) (y7 : List PV) (y8 y9 y10 y11 : Int) (y12 : List PV) (y13 : Int) (y14 y15 : Bool) (y16 : List PV) (y17 y18 : Int) (o_z o_f : Bool) (o : List PV) (k : KR) : JJ tau F40 Try.f40 (Try.f40.body.get!) (JxI (JfC f)) [.ro] 0 [.ptr 0 [], .ro 113 o_z o_f o] [.box false 98 (.st 98 [.st 39 [.st 34 [.sc (.int .i64 y0), .sc (.int .i64 y1)], .sc (.string y2), .ro 42 y3 y4 y5, .sc (.int .i64 y6), .ar 37 y7], .st 53 [.st 42 [.sc (.int .i64 y8), .sc (.int .i64 y9)], .sc (.int .i64 y10), .sc (.int .i64 y11), .ar 37 y12, .sc (.int .i64 y13), .ro 113 y14 y15 y16, .st 42 [.sc (.int .i64 y17), .sc (.int .i64 y18)]]])] k = g40 f y0 y1 y2 y3 y4 y5 y6 y7 y8 y9 y10 y11 y12 y13 y14 y15 y16 y17 y18 o_z o_f o k := by kernel_rfl
theorem JOy (f : Nat) : Jf (Try.f40.body.get!) (JxI (JfC f)) = [.s Jkp JfB N40 (JfC f)] := by kernel_rfl
theorem JOz (f : Nat) : ∀ q ∈ Jf (Try.f40.body.get!) (JxI (JfC f)), q.Ok tau Try.prog 1 := by rw [JOy f]; exact JL (JD9 f) (fun _ h => nomatch h)
theorem JKJ : Try.prog.funcs[40]? = some Try.f40 := by kernel_rfl
theorem JKK : Try.f40.body = some (Try.f40.body.get!) := by kernel_rfl
theorem JOA : Enters Try.prog 40 := enters_of JKJ (by kernel_rfl) JKK
-- FN (*wavelet.doing).change
structure CX where
 (kd : Int) (w : AV) (doc : ByteArray) (l o : List PV)
def JxK (x : CX) : Int := bif x.kd == 1 then (bif ckO x.o != 0 then ckO x.o else apE ⟨x.doc, x.o⟩) else bif decide (zi x.o.length > 0) then 1 else bif x.kd == 2 then adE ⟨x.l, x.w⟩ else rmE ⟨x.l, x.w⟩
def JxL (x : CX) : ByteArray := bif x.kd == 1 then (bif ckO x.o != 0 then x.doc else apD ⟨x.doc, x.o⟩) else x.doc
def JxM (x : CX) : List PV := bif x.kd == 1 then x.l else bif decide (zi x.o.length > 0) then x.l else bif x.kd == 2 then adL ⟨x.l, x.w⟩ else rmL ⟨x.l, x.w⟩
def JxN (x : CX) (z : Bool) : Bool := bif x.kd == 1 then z else bif decide (zi x.o.length > 0) then z else bif x.kd == 2 then (adF ⟨x.l, x.w⟩ && z) else rmZ ⟨x.l, x.w⟩ z
def JEa (x : CX) (z f : Bool) : Bool := bif x.kd == 1 then f else bif decide (zi x.o.length > 0) then f else bif x.kd == 2 then (adF ⟨x.l, x.w⟩ && z) else rmF ⟨x.l, x.w⟩ z
def ccE : CX -> Int := hid JxK
def ccD : CX -> ByteArray := hid JxL
def ccL : CX -> List PV := hid JxM
def ccZ : CX -> Bool -> Bool := hid JxN
def ccF : CX -> Bool -> Bool -> Bool := hid JEa
theorem Jus (x : CX) : ccE x = JxK x := by rw [ccE, hid_eq]
theorem Jut (x : CX) : ccD x = JxL x := by rw [ccD, hid_eq]
theorem Juu (x : CX) : ccL x = JxM x := by rw [ccL, hid_eq]
theorem Juv (x : CX) (z : Bool) : ccZ x z = JxN x z := by rw [ccZ, hid_eq]
theorem JEb (x : CX) (z f : Bool) : ccF x z f = JEa x z f := by rw [ccF, hid_eq]
def doP (ih iN : Int) (doc : ByteArray) (z f : Bool) (l : List PV) (ver : Int) (hash : List PV) (aD aU dI dV : Int) (dh : List PV) (kd : Int) (pz pf : Bool) (po : List PV) (wD wU : Int) : PV :=
 .st 98 [.st 39 [.st 34 [.sc (.int .i64 ih), .sc (.int .i64 iN)], .sc (.string doc), .ro 42 z f l, .sc (.int .i64 ver), .ar 37 hash],
  .st 53 [.st 42 [.sc (.int .i64 aD), .sc (.int .i64 aU)], .sc (.int .i64 dI), .sc (.int .i64 dV), .ar 37 dh, .sc (.int .i64 kd), .ro 113 pz pf po, .st 42 [.sc (.int .i64 wD), .sc (.int .i64 wU)]]]
theorem JEc (ih iN : Int) (doc : ByteArray) (z f : Bool) (l : List PV) (ver : Int) (hash : List PV) (aD aU dI dV : Int) (dh : List PV) (kd : Int) (pz pf : Bool) (po : List PV) (wD wU : Int) (oz of : Bool) (o : List PV)
  (ho : cOk o = true) (hd : doc.size <= 10000) (hl : pOk l = true) (hz : zOk z l = true) (k : KR) :
  g40 1 ih iN doc z f l ver hash aD aU dI dV dh kd pz pf po wD wU oz of o k =
   k ⟨.sc (.int .i64 (ccE ⟨kd, ⟨wD, wU⟩, doc, l, o⟩)), [.box false 98 (doP ih iN (ccD ⟨kd, ⟨wD, wU⟩, doc, l, o⟩) (ccZ ⟨kd, ⟨wD, wU⟩, doc, l, o⟩ z) (ccF ⟨kd, ⟨wD, wU⟩, doc, l, o⟩ z f) (ccL ⟨kd, ⟨wD, wU⟩, doc, l, o⟩) ver hash aD aU dI dV dh kd pz pf po wD wU)], []⟩ := by
 have hlz : (pOk l && zOk z l) = true := by rw [hl, hz]; rfl
 unfold g40 doP
 rw [Jus, Jut, Juu, Juv, JEb, JxK, JxL, JxM, JxN, JEa]
 simp only [Jcy, JdB]
 cases h1 : (kd == 1) with
 | true =>
  simp only [cond_true]
  refine (Ja ho).trans ?_
  cases h2 : (ckO o != 0) with
  | true => rfl
  | false =>
   refine (Jd rfl).trans (Ja ?_)
   rw [Jnb ho (by simpa using h2), decide_eq_true hd]; rfl
 | false =>
  simp only [cond_false]
  cases h3 : decide (zi o.length > 0) with
  | true => cases h2 : (kd == 2) <;> rfl
  | false =>
   cases h2 : (kd == 2) <;> exact Ja hlz
def JnM : Jz
 | [.ptr 0 [], .ro 113 oz of o], [.box false 98 (.st 98 [.st 39 [.st 34 [.sc (.int .i64 ih), .sc (.int .i64 iN)], .sc (.string doc), .ro 42 z f l, .sc (.int .i64 ver), .ar 37 hash], .st 53 [.st 42 [.sc (.int .i64 aD), .sc (.int .i64 aU)], .sc (.int .i64 dI), .sc (.int .i64 dV), .ar 37 dh, .sc (.int .i64 kd), .ro 113 pz pf po, .st 42 [.sc (.int .i64 wD), .sc (.int .i64 wU)]]])], k =>
  bif cOk o && (decide (doc.size <= 10000) && (pOk l && zOk z l)) then k ⟨.sc (.int .i64 (ccE ⟨kd, ⟨wD, wU⟩, doc, l, o⟩)), [.box false 98 (.st 98 [.st 39 [.st 34 [.sc (.int .i64 ih), .sc (.int .i64 iN)], .sc (.string (ccD ⟨kd, ⟨wD, wU⟩, doc, l, o⟩)), .ro 42 (ccZ ⟨kd, ⟨wD, wU⟩, doc, l, o⟩ z) (ccF ⟨kd, ⟨wD, wU⟩, doc, l, o⟩ z f) (ccL ⟨kd, ⟨wD, wU⟩, doc, l, o⟩), .sc (.int .i64 ver), .ar 37 hash], .st 53 [.st 42 [.sc (.int .i64 aD), .sc (.int .i64 aU)], .sc (.int .i64 dI), .sc (.int .i64 dV), .ar 37 dh, .sc (.int .i64 kd), .ro 113 pz pf po, .st 42 [.sc (.int .i64 wD), .sc (.int .i64 wU)]]])], []⟩ else none
 | _, _, _ => none
def JKL : Sig := { own := [true], run := JnM }
theorem JKM : Jc tau Try.prog 40 JKL := Jc.mk' fun xs es k res hl hr => by
 change JnM xs es k = some res at hr
 unfold JnM at hr
 split at hr
 · rename_i oz of o ih iN doc z f l ver hash aD aU dI dV dh kd pz pf po wD wU
   obtain ⟨hc, hr⟩ := Jv hr
   simp only [Bool.and_eq_true, decide_eq_true_eq] at hc
   obtain ⟨c1, c2, c3, c4⟩ := hc
   exact J2 Jn Jur Jo JKJ JKK (JxI (JfC 1)) [.ro] 1 0 (JOz 1) hl rfl ((e40 1 ih iN doc z f l ver hash aD aU dI dV dh kd pz pf po wD wU oz of o k).trans ((JEc ih iN doc z f l ver hash aD aU dI dV dh kd pz pf po wD wU oz of o c1 c2 c3 c4 k).trans hr))
 · cases hr
def F14 : Fns := Jt 41 JHp (Jt 40 JKL (Jt 39 JKp (Jt 38 s38 (Jt 37 JIG (Jt 36 JCo (F0))))))
theorem JEd : Jq tau Try.prog F14 := ((((((Js).add Jzg JHX).add JIH JNr).add JOa JN9).add JKq JOj).add JKM JOA).add JHq JMR
def JEe : An := (.seq .leaf (.seq .leaf (.seq (.seq .leaf (.cond (.seq .leaf .leaf) .leaf)) (.seq .leaf (.seq (.block none (.seq .leaf (.cond (.seq .leaf .leaf) (.seq .leaf (.cond (.seq .leaf .leaf) .leaf))))) (.seq (.seq .leaf (.seq .leaf (.cond (.seq .leaf .leaf) .leaf))) (.seq (.seq .leaf (.cond (.seq .leaf .leaf) .leaf)) (.seq .leaf (.seq .leaf (.seq .leaf .leaf))))))))))
abbrev Qw (y0 : Int) (y1 : Int) := [PV.sc (.int .i64 y0), PV.sc (.int .i64 y1)]
abbrev X7 (y7 : List PV) (y10 : List PV) (y11 : List PV) (e_At : Int) (e_Op : List PV) := (JH [PV.ro 5 false false (List.take 32 y7), PV.ro 5 false false (pu IntKind.u8 (JY (EV.mk y10 y11 e_At e_Op)))])
abbrev YE (y2 : ByteArray) (y5 : List PV) (y10 : List PV) (e_Op : List PV) := (CX.mk (dF 4 y10) (AV.mk (dF 5 y10) (dF 6 y10)) y2 (List.take (0 + y5.length) y5) e_Op)
abbrev JfD (y0 : Int) (y1 : Int) (y2 : ByteArray) (y5 : List PV) (y6 : Int) (y7 : List PV) := (Res.mk (PV.tup [PV.st 39 [PV.st 34 (Qw y0 y1), PV.sc (.string y2), PV.ro 42 false false (List.take (0 + y5.length) y5), PV.sc (.int .i64 y6), PV.ar 37 y7], PV.sc (.int .i64 15)]) [] [])
abbrev JfE (y0 : Int) (y1 : Int) (y2 : ByteArray) (y6 : Int) (y7 : List PV) := (Res.mk (PV.tup [PV.st 39 [PV.st 34 (Qw y0 y1), PV.sc (.string y2), PV.ro 42 true true [], PV.sc (.int .i64 y6), PV.ar 37 y7], PV.sc (.int .i64 15)]) [] [])
abbrev YF (y2 : ByteArray) (y10 : List PV) (e_Op : List PV) := (CX.mk (dF 4 y10) (AV.mk (dF 5 y10) (dF 6 y10)) y2 [] e_Op)
def g14 (f : Nat) (y0 y1 : Int) (y2 : ByteArray) (y3 y4 : Bool) (y5 : List PV) (y6 : Int) (y7 : List PV) (y8 y9 : Bool) (y10 y11 : List PV) (e_At : Int) (y12 y13 : Bool) (e_Op y14 y15 : List PV) (k : KR) : OR := bif slB y8 y10 && byB y10 then bif dE y10 != 0 then bif y3 then k (Res.mk (.tup [.st 39 [.st 34 (Qw y0 y1), .sc (.string y2), .ro 42 true true [], .sc (.int .i64 y6), .ar 37 y7], .sc (.int .i64 (dE y10))]) [] []) else bif Je (0 + y5.length) 16 && true then k (Res.mk (.tup [.st 39 [.st 34 (Qw y0 y1), .sc (.string y2), .ro 42 false false (List.take (0 + y5.length) y5), .sc (.int .i64 y6), .ar 37 y7], .sc (.int .i64 (dE y10))]) [] []) else none else bif y3 then bif e_At != y6 then bif y3 then k (JfE y0 y1 y2 y6 y7) else bif Je (0 + y5.length) 16 && true then k (JfD y0 y1 y2 y5 y6 y7) else none else bif decide (dF 3 y10 > y6) then bif y3 then k (JfE y0 y1 y2 y6 y7) else bif Je (0 + y5.length) 16 && true then k (JfD y0 y1 y2 y5 y6 y7) else none else bif pOk y5 then bif !hasP (PH.mk y5 (AV.mk (dF 0 y10) (dF 1 y10))) then bif y3 then k (Res.mk (.tup [.st 39 [.st 34 (Qw y0 y1), .sc (.string y2), .ro 42 true true [], .sc (.int .i64 y6), .ar 37 y7], .sc (.int .i64 13)]) [] []) else bif Je (0 + y5.length) 16 && true then k (Res.mk (.tup [.st 39 [.st 34 (Qw y0 y1), .sc (.string y2), .ro 42 false false (List.take (0 + y5.length) y5), .sc (.int .i64 y6), .ar 37 y7], .sc (.int .i64 13)]) [] []) else none else bif cOk e_Op && (decide (y2.size <= 10000) && (pOk [] && zOk true [])) then bif ccE (YF y2 y10 e_Op) != 0 then bif y3 then k (Res.mk (.tup [.st 39 [.st 34 (Qw y0 y1), .sc (.string y2), .ro 42 true true [], .sc (.int .i64 y6), .ar 37 y7], .sc (.int .i64 (ccE (YF y2 y10 e_Op)))]) [] []) else bif Je (0 + y5.length) 16 && true then k (Res.mk (.tup [.st 39 [.st 34 (Qw y0 y1), .sc (.string y2), .ro 42 false false (List.take (0 + y5.length) y5), .sc (.int .i64 y6), .ar 37 y7], .sc (.int .i64 (ccE (YF y2 y10 e_Op)))]) [] []) else none else bif eOk (EV.mk y10 y11 e_At e_Op) then bif Jl IntKind.u8 (X7 y7 y10 y11 e_At e_Op) && decide ((X7 y7 y10 y11 e_At e_Op).length <= 140737488355000) then bif decide (y14.length = 32) && decide ((pu IntKind.u8 (JX (JD (X7 y7 y10 y11 e_At e_Op)))).length = 32) && Jl IntKind.u8 y14 && Jl IntKind.u8 (pu IntKind.u8 (JX (JD (X7 y7 y10 y11 e_At e_Op)))) && true then bif !J3 y14 (pu IntKind.u8 (JX (JD (X7 y7 y10 y11 e_At e_Op)))) then bif y3 then k (Res.mk (.tup [.st 39 [.st 34 (Qw y0 y1), .sc (.string y2), .ro 42 true true [], .sc (.int .i64 y6), .ar 37 y7], .sc (.int .i64 16)]) [] []) else bif Je (0 + y5.length) 16 && true then k (Res.mk (.tup [.st 39 [.st 34 (Qw y0 y1), .sc (.string y2), .ro 42 false false (List.take (0 + y5.length) y5), .sc (.int .i64 y6), .ar 37 y7], .sc (.int .i64 16)]) [] []) else none else bif ccZ (YF y2 y10 e_Op) true then k (Res.mk (.tup [.st 39 [.st 34 (Qw y0 y1), .sc (.string (ccD (YF y2 y10 e_Op))), .ro 42 true true [], .sc (.int .i64 (IntKind.i64.wrap (y6 + 1))), .ar 37 y14], .sc (.int .i64 0)]) [] []) else bif Je (0 + (ccL (YF y2 y10 e_Op)).length) 16 && true then k (Res.mk (.tup [.st 39 [.st 34 (Qw y0 y1), .sc (.string (ccD (YF y2 y10 e_Op))), .ro 42 false false (List.take (0 + (ccL (YF y2 y10 e_Op)).length) (ccL (YF y2 y10 e_Op))), .sc (.int .i64 (IntKind.i64.wrap (y6 + 1))), .ar 37 y14], .sc (.int .i64 0)]) [] []) else none else none else none else none else none else none else bif Je (0 + y5.length) 16 && true then bif e_At != y6 then bif y3 then k (JfE y0 y1 y2 y6 y7) else bif Je (0 + y5.length) 16 && true then k (JfD y0 y1 y2 y5 y6 y7) else none else bif decide (dF 3 y10 > y6) then bif y3 then k (JfE y0 y1 y2 y6 y7) else bif Je (0 + y5.length) 16 && true then k (JfD y0 y1 y2 y5 y6 y7) else none else bif pOk y5 then bif !hasP (PH.mk y5 (AV.mk (dF 0 y10) (dF 1 y10))) then bif y3 then k (Res.mk (.tup [.st 39 [.st 34 (Qw y0 y1), .sc (.string y2), .ro 42 true true [], .sc (.int .i64 y6), .ar 37 y7], .sc (.int .i64 13)]) [] []) else bif Je (0 + y5.length) 16 && true then k (Res.mk (.tup [.st 39 [.st 34 (Qw y0 y1), .sc (.string y2), .ro 42 false false (List.take (0 + y5.length) y5), .sc (.int .i64 y6), .ar 37 y7], .sc (.int .i64 13)]) [] []) else none else bif cOk e_Op && (decide (y2.size <= 10000) && (pOk (List.take (0 + y5.length) y5) && zOk false (List.take (0 + y5.length) y5))) then bif ccE (YE y2 y5 y10 e_Op) != 0 then bif y3 then k (Res.mk (.tup [.st 39 [.st 34 (Qw y0 y1), .sc (.string y2), .ro 42 true true [], .sc (.int .i64 y6), .ar 37 y7], .sc (.int .i64 (ccE (YE y2 y5 y10 e_Op)))]) [] []) else bif Je (0 + y5.length) 16 && true then k (Res.mk (.tup [.st 39 [.st 34 (Qw y0 y1), .sc (.string y2), .ro 42 false false (List.take (0 + y5.length) y5), .sc (.int .i64 y6), .ar 37 y7], .sc (.int .i64 (ccE (YE y2 y5 y10 e_Op)))]) [] []) else none else bif eOk (EV.mk y10 y11 e_At e_Op) then bif Jl IntKind.u8 (X7 y7 y10 y11 e_At e_Op) && decide ((X7 y7 y10 y11 e_At e_Op).length <= 140737488355000) then bif decide (y14.length = 32) && decide ((pu IntKind.u8 (JX (JD (X7 y7 y10 y11 e_At e_Op)))).length = 32) && Jl IntKind.u8 y14 && Jl IntKind.u8 (pu IntKind.u8 (JX (JD (X7 y7 y10 y11 e_At e_Op)))) && true then bif !J3 y14 (pu IntKind.u8 (JX (JD (X7 y7 y10 y11 e_At e_Op)))) then bif y3 then k (Res.mk (.tup [.st 39 [.st 34 (Qw y0 y1), .sc (.string y2), .ro 42 true true [], .sc (.int .i64 y6), .ar 37 y7], .sc (.int .i64 16)]) [] []) else bif Je (0 + y5.length) 16 && true then k (Res.mk (.tup [.st 39 [.st 34 (Qw y0 y1), .sc (.string y2), .ro 42 false false (List.take (0 + y5.length) y5), .sc (.int .i64 y6), .ar 37 y7], .sc (.int .i64 16)]) [] []) else none else bif ccZ (YE y2 y5 y10 e_Op) false then k (Res.mk (.tup [.st 39 [.st 34 (Qw y0 y1), .sc (.string (ccD (YE y2 y5 y10 e_Op))), .ro 42 true true [], .sc (.int .i64 (IntKind.i64.wrap (y6 + 1))), .ar 37 y14], .sc (.int .i64 0)]) [] []) else bif Je (0 + (ccL (YE y2 y5 y10 e_Op)).length) 16 && true then k (Res.mk (.tup [.st 39 [.st 34 (Qw y0 y1), .sc (.string (ccD (YE y2 y5 y10 e_Op))), .ro 42 false false (List.take (0 + (ccL (YE y2 y5 y10 e_Op)).length) (ccL (YE y2 y5 y10 e_Op))), .sc (.int .i64 (IntKind.i64.wrap (y6 + 1))), .ar 37 y14], .sc (.int .i64 0)]) [] []) else none else none else none else none else none else none else none else none
theorem e14 (f : Nat) (y0 y1 : Int) (y2 : ByteArray) (y3 y4 : Bool) (y5 : List PV) (y6 : Int) (y7 : List PV) (y8 y9 : Bool) (y10 y11 : List PV) (e_At : Int) (y12 y13 : Bool) (e_Op y14 y15 : List PV) (k : KR) : JJ tau F14 Try.f14 (Try.f14.body.get!) JEe [.ro, .ro] 0 [.st 39 [.st 34 [.sc (.int .i64 y0), .sc (.int .i64 y1)], .sc (.string y2), .ro 42 y3 y4 y5, .sc (.int .i64 y6), .ar 37 y7], .st 51 [.st 47 [.ro 5 y8 y9 y10, .ar 37 y11], .sc (.int .i64 e_At), .ro 113 y12 y13 e_Op, .ar 37 y14, .ar 37 y15]] [] k = g14 f y0 y1 y2 y3 y4 y5 y6 y7 y8 y9 y10 y11 e_At y12 y13 e_Op y14 y15 k := by kernel_rfl
theorem JOB (f : Nat) : ∀ q ∈ Jf (Try.f14.body.get!) JEe, q.Ok tau Try.prog 0 := Jw (by kernel_rfl)
theorem JKN : Try.prog.funcs[14]? = some Try.f14 := by kernel_rfl
theorem JKO : Try.f14.body = some (Try.f14.body.get!) := by kernel_rfl
theorem JOC : Enters Try.prog 14 := enters_of JKN (by kernel_rfl) JKO
-- FN wavelet.Do
def cxO (x : DX) : CX := ⟨dF 4 x.e.b, whA x.e.b, x.s.doc, x.s.l, x.e.o⟩
theorem JKP (x : DX) : ccE (cxO x) = chE x := by
 rw [Jus]
 unfold JxK chE cxO
 cases dF 4 x.e.b == 1 with
 | false => rfl
 | true => simp only [cond_true, bne]; cases ckO x.e.o == 0 <;> rfl
theorem JKQ {x : DX} (h : chE x = 0) : ccD (cxO x) = chD x := by
 rw [Jut]
 unfold JxL chD cxO
 unfold chE at h
 cases h1 : dF 4 x.e.b == 1 with
 | false => rfl
 | true =>
  rw [h1] at h
  simp only [cond_true, bne] at h ⊢
  cases h2 : ckO x.e.o == 0 with
  | true => rfl
  | false => rw [h2] at h; simp only [cond_false] at h; rw [h] at h2; exact absurd h2 (by decide)
theorem Juw {x : DX} (h : chE x = 0) : decide (zi x.e.o.length > 0) = true -> (dF 4 x.e.b == 1) = true := by
 intro g
 unfold chE at h
 cases h1 : dF 4 x.e.b == 1 with
 | true => rfl
 | false => rw [h1, g] at h; exact absurd (show (1 : Int) = 0 from h) (by decide)
theorem JKR {x : DX} (h : chE x = 0) : ccL (cxO x) = chL x := by
 rw [Juu]
 have g := Juw h
 unfold JxM chL cxO
 cases h1 : dF 4 x.e.b == 1 with
 | true => rfl
 | false =>
  simp only [cond_false]
  cases h2 : decide (zi x.e.o.length > 0) with
  | false => rfl
  | true => rw [g h2] at h1; cases h1
theorem JKS {x : DX} (h : chE x = 0) (z : Bool) : ccZ (cxO x) z = chZ x z := by
 rw [Juv]
 have g := Juw h
 unfold JxN chZ cxO
 cases h1 : dF 4 x.e.b == 1 with
 | true => rfl
 | false =>
  simp only [cond_false]
  cases h2 : decide (zi x.e.o.length > 0) with
  | false => rfl
  | true => rw [g h2] at h1; cases h1
theorem JnN {x : DX} {z : Bool} (hz : z = true -> x.s.l = []) : chZ x z = true -> chL x = [] := by
 unfold chZ chL
 cases dF 4 x.e.b == 1 with
 | true => exact hz
 | false =>
  simp only [cond_false]
  cases dF 4 x.e.b == 2 with
  | true =>
   simp only [cond_true, Jnn, Jco]
   cases JbJ ⟨x.s.l, whA x.e.b⟩ == 0 with
   | true => intro h; cases h
   | false => exact hz
  | false =>
   simp only [cond_false, Jno, Jcp]
   cases hasL x.s.l (whA x.e.b) with
   | true => exact fun h => List.isEmpty_iff.1 h
   | false => exact hz
theorem Jkq {x : DX} (h : pOk x.s.l = true) : (chL x).length <= 9 := by
 have h3 : x.s.l.length <= 8 := (QF.1 h).2.2
 unfold chL
 cases dF 4 x.e.b == 1 with
 | true => show x.s.l.length <= 9; omega
 | false =>
  simp only [cond_false]
  cases dF 4 x.e.b == 2 with
  | true =>
   simp only [cond_true, Jco]
   cases JbJ ⟨x.s.l, whA x.e.b⟩ == 0 with
   | true => show (G0 x.s.l _).length <= 9; rw [Vu]; omega
   | false => show x.s.l.length <= 9; omega
  | false =>
   simp only [cond_false, Jcp]
   cases hasL x.s.l (whA x.e.b) with
   | true => show (List.filter _ x.s.l).length <= 9; have := List.length_filter_le (fun p => !eqA (av p) (whA x.e.b)) x.s.l; exact Nat.le_trans this (by omega)
   | false => show x.s.l.length <= 9; omega
def wsP (s : SV) (z f : Bool) : PV := .st 39 [.st 34 [.sc (.int .i64 s.ih), .sc (.int .i64 s.iN)], .sc (.string s.doc), .ro 42 z f s.l, .sc (.int .i64 s.ver), .ar 37 s.hash]
def dwP (x : DX) (z : Bool) : PV := .tup [wsP (dsS x) (dsZ x z) (dsZ x z), .sc (.int .i64 (dsE x))]
theorem JiV {x : DX} {e : Int} (h : dsE0 x = e) (h0 : (e == 0) = false) (z : Bool) : dwP x z = .tup [wsP x.s z z, .sc (.int .i64 e)] := by
 have h1 : (dsE0 x == 0) = false := by rw [h]; exact h0
 unfold dwP; rw [JiC h1, Jfp, JiA, h, h0]; rfl
theorem Jux {x : DX} (h : dsE0 x = 0) (z : Bool) : dwP x z = .tup [wsP ⟨x.s.ih, x.s.iN, chD x, chL x, x.s.ver + 1, x.e.h⟩ (chZ x z) (chZ x z), .sc (.int .i64 0)] := by
 unfold dwP dsS; rw [JiB, Jfo, G3, Jcr, Jfp, JiA, h]; rfl
theorem cl3 {z : Bool} {l : List PV} (hz : z = true -> l = []) (hl : l.length <= 1000) (K : Bool -> Bool -> List PV -> OR) : (bif z then K true true [] else bif Je l.length 16 && true then K false false l else none) = K z z l := by
 cases z with
 | true => rw [hz rfl]; rfl
 | false => exact (Jd rfl).trans (Ja (by simp [Je]; omega))
theorem JEf (ih iN : Int) (doc : ByteArray) (z f : Bool) (l : List PV) (ver : Int) (hash : List PV) (bz bf : Bool) (b m : List PV) (at1 : Int) (oz of : Bool) (o h mc : List PV)
  (hs : sOk ⟨ih, iN, doc, l, ver, hash⟩ = true) (he : eD ⟨b, m, at1, o, h, mc⟩ = true) (hzk : zOk z l = true) (hsl : slB bz b = true) (k : KR) :
  g14 0 ih iN doc z f l ver hash bz bf b m at1 oz of o h mc k = k ⟨dwP ⟨⟨ih, iN, doc, l, ver, hash⟩, ⟨b, m, at1, o, h, mc⟩⟩ z, [], []⟩ := by
 obtain ⟨s1, s2, s3, s4, s5, s6⟩ := Ys.1 hs
 obtain ⟨e1, e2, e3, e4⟩ := Jcs.1 he
 simp only at s1 s2 s3 s4 s5 e1 e3 e4
 have e2 : eOk ⟨b, m, at1, o⟩ = true := e2
 obtain ⟨hh1, hh2⟩ := h32_iff.1 e4
 obtain ⟨ha1, ha2⟩ := h32_iff.1 s2
 have hz := JdA.1 hzk
 have hl8 : l.length <= 8 := (QF.1 s1).2.2
 have w1 : IntKind.i64.wrap (ver + 1) = ver + 1 := wrap_i64 (by omega) (by omega)
 have hnl : (pu .u8 (nxP ⟨hash, ⟨b, m, at1, o⟩⟩)).length = 32 := by rw [JI]; exact Zv _
 have htk : List.take 32 hash = hash := by rw [← ha2]; exact List.take_length
 have hfl : JH [.ro 5 false false (List.take 32 hash), .ro 5 false false (pu .u8 (JY ⟨b, m, at1, o⟩))] = hash ++ pu .u8 (JY ⟨b, m, at1, o⟩) := by rw [htk]; simp [PV.els]
 have hnx : JX (JD (hash ++ pu .u8 (JY ⟨b, m, at1, o⟩))) = nxP ⟨hash, ⟨b, m, at1, o⟩⟩ := by
  rw [Jff, Jc6, Q9]
 have hcl := XC e2
 obtain ⟨q1, q2, q3, q4, q5, q6⟩ := Xd.1 e2
 have hfa : (Jl .u8 (hash ++ pu .u8 (JY ⟨b, m, at1, o⟩)) && decide ((hash ++ pu .u8 (JY ⟨b, m, at1, o⟩)).length <= 140737488355000)) = true := by
  rw [Q6, ha1, JO, List.length_append, JI, hcl, ha2]
  simp only at q2 q6 ⊢
  exact decide_eq_true (by omega)
 unfold g14 YF JfE JfD YE X7 Qw
 simp only [Nat.zero_add, List.take_length, w1]
 refine (Ja (by rw [hsl, e1]; rfl)).trans ?_
 cases h1 : (dE b != 0) with
 | true =>
  refine (Ja rfl).trans ?_
  rw [JiV (x := ⟨⟨ih, iN, doc, l, ver, hash⟩, ⟨b, m, at1, o, h, mc⟩⟩) (e := dE b) (Ja h1) (by simpa [bne] using h1)]
  exact cl3 hz (by omega) (fun a c q => k ⟨.tup [wsP ⟨ih, iN, doc, q, ver, hash⟩ a c, .sc (.int .i64 (dE b))], [], []⟩)
 | false =>
 refine (Jd rfl).trans ?_
 cases z with
 | true =>
  obtain rfl : l = [] := hz rfl
  refine (Ja rfl).trans ?_
  have hau : AV.mk (dF 0 b) (dF 1 b) = auA b := rfl
  have hcx : CX.mk (dF 4 b) (AV.mk (dF 5 b) (dF 6 b)) doc [] o = cxO ⟨⟨ih, iN, doc, [], ver, hash⟩, ⟨b, m, at1, o, h, mc⟩⟩ := rfl
  simp only [hau, hcx, hfl, hnx, JKP]
  have BAD : ∀ (e : Int), dsE0 ⟨⟨ih, iN, doc, [], ver, hash⟩, ⟨b, m, at1, o, h, mc⟩⟩ = e -> (e == 0) = false -> (bif true then k ⟨.tup [wsP ⟨ih, iN, doc, [], ver, hash⟩ true true, .sc (.int .i64 e)], [], []⟩ else bif Je ([] : List PV).length 16 && true then k ⟨.tup [wsP ⟨ih, iN, doc, [], ver, hash⟩ false false, .sc (.int .i64 e)], [], []⟩ else none) = k ⟨dwP ⟨⟨ih, iN, doc, [], ver, hash⟩, ⟨b, m, at1, o, h, mc⟩⟩ true, [], []⟩ := fun e h1 h0 => by
   rw [JiV h1 h0]
   exact cl3 (z := true) (l := []) (by intro _; rfl) (by exact Nat.zero_le _) (fun a c q => k ⟨.tup [wsP ⟨ih, iN, doc, q, ver, hash⟩ a c, .sc (.int .i64 e)], [], []⟩)
  cases h2 : (at1 != ver) with
  | true => exact (Ja rfl).trans (BAD 15 ((Jd h1).trans (Ja h2)) rfl)
  | false =>
  refine (Jd rfl).trans ?_
  cases h3 : decide (dF 3 b > ver) with
  | true => exact (Ja rfl).trans (BAD 15 ((Jd h1).trans ((Jd h2).trans (Ja h3))) rfl)
  | false =>
  refine (Jd rfl).trans ((Ja s1).trans ?_)
  cases h4 : (!hasP ⟨[], auA b⟩) with
  | true => exact (Ja rfl).trans (BAD 13 ((Jd h1).trans ((Jd h2).trans ((Jd h3).trans (Ja h4)))) rfl)
  | false =>
  refine (Jd rfl).trans ((Ja (by rw [e3, decide_eq_true (show doc.size <= 10000 by omega), s1, hzk]; rfl)).trans ?_)
  cases h5 : (chE ⟨⟨ih, iN, doc, [], ver, hash⟩, ⟨b, m, at1, o, h, mc⟩⟩ != 0) with
  | true => exact (Ja rfl).trans (BAD _ ((Jd h1).trans ((Jd h2).trans ((Jd h3).trans ((Jd h4).trans (Ja h5))))) (by simpa [bne] using h5))
  | false =>
  have hc0 : chE ⟨⟨ih, iN, doc, [], ver, hash⟩, ⟨b, m, at1, o, h, mc⟩⟩ = 0 := by simpa [bne] using h5
  refine (Jd rfl).trans ((Ja e2).trans ((Ja hfa).trans ((Ja (by rw [hh2, hnl, hh1, JO]; rfl)).trans ?_)))
  cases h6 : (!J3 h (pu .u8 (nxP ⟨hash, ⟨b, m, at1, o⟩⟩))) with
  | true => exact (Ja rfl).trans (BAD 16 ((Jd h1).trans ((Jd h2).trans ((Jd h3).trans ((Jd h4).trans ((Jd h5).trans (Ja h6)))))) rfl)
  | false =>
  refine (Jd rfl).trans ?_
  rw [JKS hc0, JKQ hc0, JKR hc0, Jux (x := ⟨⟨ih, iN, doc, [], ver, hash⟩, ⟨b, m, at1, o, h, mc⟩⟩) ((Jd h1).trans ((Jd h2).trans ((Jd h3).trans ((Jd h4).trans ((Jd h5).trans (Jd h6))))))]
  have hsm := Jkq (x := ⟨⟨ih, iN, doc, [], ver, hash⟩, ⟨b, m, at1, o, h, mc⟩⟩) s1
  exact cl3 (JnN (x := ⟨⟨ih, iN, doc, [], ver, hash⟩, ⟨b, m, at1, o, h, mc⟩⟩) (z := true) (by intro _; rfl)) (by omega) (fun a c q => k ⟨.tup [wsP ⟨ih, iN, chD ⟨⟨ih, iN, doc, [], ver, hash⟩, ⟨b, m, at1, o, h, mc⟩⟩, q, ver + 1, h⟩ a c, .sc (.int .i64 0)], [], []⟩)
 | false =>
  refine (Jd rfl).trans ((Ja (by simp [Je]; omega)).trans ?_)
  have hau : AV.mk (dF 0 b) (dF 1 b) = auA b := rfl
  have hcx : CX.mk (dF 4 b) (AV.mk (dF 5 b) (dF 6 b)) doc l o = cxO ⟨⟨ih, iN, doc, l, ver, hash⟩, ⟨b, m, at1, o, h, mc⟩⟩ := rfl
  simp only [hau, hcx, hfl, hnx, JKP]
  have BAD : ∀ (e : Int), dsE0 ⟨⟨ih, iN, doc, l, ver, hash⟩, ⟨b, m, at1, o, h, mc⟩⟩ = e -> (e == 0) = false -> (bif false then k ⟨.tup [wsP ⟨ih, iN, doc, [], ver, hash⟩ true true, .sc (.int .i64 e)], [], []⟩ else bif Je (l : List PV).length 16 && true then k ⟨.tup [wsP ⟨ih, iN, doc, l, ver, hash⟩ false false, .sc (.int .i64 e)], [], []⟩ else none) = k ⟨dwP ⟨⟨ih, iN, doc, l, ver, hash⟩, ⟨b, m, at1, o, h, mc⟩⟩ false, [], []⟩ := fun e h1 h0 => by
   rw [JiV h1 h0]
   exact cl3 (z := false) (l := l) (by intro q; cases q) (by omega) (fun a c q => k ⟨.tup [wsP ⟨ih, iN, doc, q, ver, hash⟩ a c, .sc (.int .i64 e)], [], []⟩)
  cases h2 : (at1 != ver) with
  | true => exact (Ja rfl).trans (BAD 15 ((Jd h1).trans (Ja h2)) rfl)
  | false =>
  refine (Jd rfl).trans ?_
  cases h3 : decide (dF 3 b > ver) with
  | true => exact (Ja rfl).trans (BAD 15 ((Jd h1).trans ((Jd h2).trans (Ja h3))) rfl)
  | false =>
  refine (Jd rfl).trans ((Ja s1).trans ?_)
  cases h4 : (!hasP ⟨l, auA b⟩) with
  | true => exact (Ja rfl).trans (BAD 13 ((Jd h1).trans ((Jd h2).trans ((Jd h3).trans (Ja h4)))) rfl)
  | false =>
  refine (Jd rfl).trans ((Ja (by rw [e3, decide_eq_true (show doc.size <= 10000 by omega), s1, hzk]; rfl)).trans ?_)
  cases h5 : (chE ⟨⟨ih, iN, doc, l, ver, hash⟩, ⟨b, m, at1, o, h, mc⟩⟩ != 0) with
  | true => exact (Ja rfl).trans (BAD _ ((Jd h1).trans ((Jd h2).trans ((Jd h3).trans ((Jd h4).trans (Ja h5))))) (by simpa [bne] using h5))
  | false =>
  have hc0 : chE ⟨⟨ih, iN, doc, l, ver, hash⟩, ⟨b, m, at1, o, h, mc⟩⟩ = 0 := by simpa [bne] using h5
  refine (Jd rfl).trans ((Ja e2).trans ((Ja hfa).trans ((Ja (by rw [hh2, hnl, hh1, JO]; rfl)).trans ?_)))
  cases h6 : (!J3 h (pu .u8 (nxP ⟨hash, ⟨b, m, at1, o⟩⟩))) with
  | true => exact (Ja rfl).trans (BAD 16 ((Jd h1).trans ((Jd h2).trans ((Jd h3).trans ((Jd h4).trans ((Jd h5).trans (Ja h6)))))) rfl)
  | false =>
  refine (Jd rfl).trans ?_
  rw [JKS hc0, JKQ hc0, JKR hc0, Jux (x := ⟨⟨ih, iN, doc, l, ver, hash⟩, ⟨b, m, at1, o, h, mc⟩⟩) ((Jd h1).trans ((Jd h2).trans ((Jd h3).trans ((Jd h4).trans ((Jd h5).trans (Jd h6))))))]
  have hsm := Jkq (x := ⟨⟨ih, iN, doc, l, ver, hash⟩, ⟨b, m, at1, o, h, mc⟩⟩) s1
  exact cl3 (JnN (x := ⟨⟨ih, iN, doc, l, ver, hash⟩, ⟨b, m, at1, o, h, mc⟩⟩) (z := false) (by intro q; cases q)) (by omega) (fun a c q => k ⟨.tup [wsP ⟨ih, iN, chD ⟨⟨ih, iN, doc, l, ver, hash⟩, ⟨b, m, at1, o, h, mc⟩⟩, q, ver + 1, h⟩ a c, .sc (.int .i64 0)], [], []⟩)
def JnO : Jz
 | [.st 39 [.st 34 [.sc (.int .i64 ih), .sc (.int .i64 iN)], .sc (.string doc), .ro 42 z f l, .sc (.int .i64 ver), .ar 37 hash], .st 51 [.st 47 [.ro 5 bz bf b, .ar 37 m], .sc (.int .i64 at1), .ro 113 oz of o, .ar 37 h, .ar 37 mc]], [], k =>
  bif sOk ⟨ih, iN, doc, l, ver, hash⟩ && eD ⟨b, m, at1, o, h, mc⟩ && (zOk z l && slB bz b) then k ⟨.tup [.st 39 [.st 34 [.sc (.int .i64 ih), .sc (.int .i64 iN)], .sc (.string (dsD ⟨⟨ih, iN, doc, l, ver, hash⟩, ⟨b, m, at1, o, h, mc⟩⟩)), .ro 42 (dsZ ⟨⟨ih, iN, doc, l, ver, hash⟩, ⟨b, m, at1, o, h, mc⟩⟩ z) (dsZ ⟨⟨ih, iN, doc, l, ver, hash⟩, ⟨b, m, at1, o, h, mc⟩⟩ z) (dsL ⟨⟨ih, iN, doc, l, ver, hash⟩, ⟨b, m, at1, o, h, mc⟩⟩), .sc (.int .i64 (dsV ⟨⟨ih, iN, doc, l, ver, hash⟩, ⟨b, m, at1, o, h, mc⟩⟩)), .ar 37 (dsH ⟨⟨ih, iN, doc, l, ver, hash⟩, ⟨b, m, at1, o, h, mc⟩⟩)], .sc (.int .i64 (dsE ⟨⟨ih, iN, doc, l, ver, hash⟩, ⟨b, m, at1, o, h, mc⟩⟩))], [], []⟩ else none
 | _, _, _ => none
def JKT : Sig := { own := [], run := JnO }
theorem JKU : Jc tau Try.prog 14 JKT := Jc.mk' fun xs es k res hl hr => by
 change JnO xs es k = some res at hr
 unfold JnO at hr
 split at hr
 · rename_i ih iN doc z f l ver hash bz bf b m at1 oz of o h mc
   obtain ⟨hc, hr⟩ := Jv hr
   simp only [Bool.and_eq_true] at hc
   obtain ⟨⟨c1, c2⟩, c3, c4⟩ := hc
   exact J2 Jn JEd Jo JKN JKO JEe [.ro, .ro] 0 0 (JOB 0) hl rfl ((e14 0 ih iN doc z f l ver hash bz bf b m at1 oz of o h mc k).trans ((JEf ih iN doc z f l ver hash bz bf b m at1 oz of o h mc c1 c2 c3 c4 k).trans hr))
 · cases hr
def F17 : Fns := Jt 53 Jwj (Jt 51 JwW (F0))
theorem JEg : Jq tau Try.prog F17 := ((Js).add Js9 JC5).add Jsv Jv9
def JEh : An := (.seq .leaf (.seq .leaf (.seq .leaf (.seq .leaf .leaf))))
abbrev JnP (y0 : Int) (id_N : Int) (y1 : Int) (y2 : Int) := (List.take (apI (apI (apI (apI [] y0) id_N) y1) y2).length (apI (apI (apI (apI [] y0) id_N) y1) y2))
def g17 (f : Nat) (y0 id_N y1 y2 : Int) (k : KR) : OR := bif okL (apI [] y0).length (apI [] y0) then bif okL (apI (apI [] y0) id_N).length (apI (apI [] y0) id_N) then bif okL (apI (apI (apI [] y0) id_N) y1).length (apI (apI (apI [] y0) id_N) y1) then bif Jl IntKind.u8 (JnP y0 id_N y1 y2) && decide ((JnP y0 id_N y1 y2).length <= 140737488355000) then k (Res.mk (.st 58 [.st 34 [.sc (.int .i64 y0), .sc (.int .i64 id_N)], .sc (.string (ByteArray.mk #[])), .ro 42 false false [.st 42 [.sc (.int .i64 y1), .sc (.int .i64 y2)]], .sc (.int .i64 0), .ar 37 (pu IntKind.u8 (JX (JD (JnP y0 id_N y1 y2))))]) [] []) else none else none else none else none
theorem e17 (f : Nat) (y0 id_N y1 y2 : Int) (k : KR) : JJ tau F17 Try.f17 (Try.f17.body.get!) JEh [.ro] 0 [.st 34 [.sc (.int .i64 y0), .sc (.int .i64 id_N)], .st 42 [.sc (.int .i64 y1), .sc (.int .i64 y2)]] [] k = g17 f y0 id_N y1 y2 k := by kernel_rfl
theorem JOD (f : Nat) : ∀ q ∈ Jf (Try.f17.body.get!) JEh, q.Ok tau Try.prog 0 := Jw (by kernel_rfl)
theorem JKV : Try.prog.funcs[17]? = some Try.f17 := by kernel_rfl
theorem JKW : Try.f17.body = some (Try.f17.body.get!) := by kernel_rfl
theorem JOE : Enters Try.prog 17 := enters_of JKV (by kernel_rfl) JKW
def Juy : Jz
 | [.st 34 [.sc (.int .i64 y0), .sc (.int .i64 id_N)], .st 42 [.sc (.int .i64 y1), .sc (.int .i64 y2)]], [], k => g17 0 y0 id_N y1 y2 k
 | _, _, _ => none
def s17 : Sig := { own := [], run := Juy }
theorem JOF : Jc tau Try.prog 17 s17 := JN Jn JEg Jo JKV JKW JEh [.ro] 0 [] Juy (JOD 0) fun xs es k res hr => by
 unfold Juy at hr
 split at hr
 · exact ⟨rfl, 0, (e17 0 _ _ _ _  _).trans hr⟩
 · cases hr
def F18 : Fns := F0
theorem JEi : Jq tau Try.prog F18 := Js
def JEj : An := (.seq .leaf (.seq .leaf (.seq (.seq .leaf (.cond .leaf .leaf)) (.seq .leaf .leaf))))
def g18 (f : Nat) (at1 n : Int) (k : KR) : OR := bif !decide (n = 0) && true then bif decide (at1.tmod n < 0) then k (Res.mk (.sc (.int .i64 (IntKind.i64.wrap (at1.tmod n + n)))) [] []) else k (Res.mk (.sc (.int .i64 (at1.tmod n))) [] []) else none
theorem e18 (f : Nat) (at1 n : Int) (k : KR) : JJ tau F18 Try.f18 (Try.f18.body.get!) JEj [.ro] 0 [.sc (.int .i64 at1), .sc (.int .i64 n)] [] k = g18 f at1 n k := by kernel_rfl
theorem JOG (f : Nat) : ∀ q ∈ Jf (Try.f18.body.get!) JEj, q.Ok tau Try.prog 0 := Jw (by kernel_rfl)
theorem JKX : Try.prog.funcs[18]? = some Try.f18 := by kernel_rfl
theorem JKY : Try.f18.body = some (Try.f18.body.get!) := by kernel_rfl
theorem JEk : Enters Try.prog 18 := enters_of JKX (by kernel_rfl) JKY
def Juz : Jz
 | [.sc (.int .i64 at1), .sc (.int .i64 n)], [], k => g18 0 at1 n k
 | _, _, _ => none
def s18 : Sig := { own := [], run := Juz }
theorem JOH : Jc tau Try.prog 18 s18 := JN Jn JEi Jo JKX JKY JEj [.ro] 0 [] Juz (JOG 0) fun xs es k res hr => by
 unfold Juz at hr
 split at hr
 · exact ⟨rfl, 0, (e18 0 _ _  _).trans hr⟩
 · cases hr
-- FN law13.within
def JnQ : Jz
 | [.sc (.int .i64 a), .sc (.int .i64 n)], [], k => bif okW n then k ⟨.sc (.int .i64 (a % n)), [], []⟩ else none
 | _, _, _ => none
def JxO : Sig := { own := [], run := JnQ }
theorem JEl (a n : Int) (h : 0 < n) (h2 : n < 1000000000000) (k : KR) : g18 0 a n k = k ⟨.sc (.int .i64 (a % n)), [], []⟩ := by
 have hn : (n == 0) = false := by simp; omega
 have e := Int.tmod_eq_emod (a := a) (b := n)
 have e0 := Int.emod_nonneg a (show n ≠ 0 by omega)
 have e1 := Int.emod_lt_of_pos a h
 have hna : (n.natAbs : Int) = n := by omega
 unfold g18
 refine (Ja (by simp; omega)).trans ?_
 by_cases hc : a.tmod n < 0
 · refine (Ja (by simpa using hc)).trans ?_
   have : IntKind.i64.wrap (a.tmod n + n) = a % n := by
    split at e <;> (rw [wrap_i64 (by omega) (by omega)]; omega)
   rw [this]
 · refine (Jd (by simpa using hc)).trans ?_
   have : a.tmod n = a % n := by split at e <;> omega
   rw [this]
theorem JuA : Jc tau Try.prog 18 JxO := JOH.of fun xs es k res hr => by
 change JnQ xs es k = some res at hr
 unfold JnQ at hr
 split at hr
 · obtain ⟨hc, hr⟩ := Jv hr
   simp only [GV, Bool.and_eq_true, decide_eq_true_eq] at hc
   exact (JEl _ _ hc.1 hc.2 _).trans hr
 · cases hr
def F20 : Fns := F0
theorem JEm : Jq tau Try.prog F20 := Js
def JEn : An := (.seq .leaf (.seq .leaf .leaf))
def g20 (f : Nat) (y0 y1 : Int) (y2 : ByteArray) (y3 y4 : Bool) (y5 : List PV) (y6 : Int) (y7 : List PV) (k : KR) : OR := k (Res.mk (.st 39 [.st 34 [.sc (.int .i64 y0), .sc (.int .i64 y1)], .sc (.string y2), .ro 42 y3 y4 y5, .sc (.int .i64 y6), .ar 37 y7]) [] [])
theorem e20 (f : Nat) (y0 y1 : Int) (y2 : ByteArray) (y3 y4 : Bool) (y5 : List PV) (y6 : Int) (y7 : List PV) (k : KR) : JJ tau F20 Try.f20 (Try.f20.body.get!) JEn [.ro] 0 [.st 58 [.st 34 [.sc (.int .i64 y0), .sc (.int .i64 y1)], .sc (.string y2), .ro 42 y3 y4 y5, .sc (.int .i64 y6), .ar 37 y7]] [] k = g20 f y0 y1 y2 y3 y4 y5 y6 y7 k := by kernel_rfl
theorem JOI (f : Nat) : ∀ q ∈ Jf (Try.f20.body.get!) JEn, q.Ok tau Try.prog 0 := Jw (by kernel_rfl)
theorem JKZ : Try.prog.funcs[20]? = some Try.f20 := by kernel_rfl
theorem JK0 : Try.f20.body = some (Try.f20.body.get!) := by kernel_rfl
theorem JOJ : Enters Try.prog 20 := enters_of JKZ (by kernel_rfl) JK0
def JuB : Jz
 | [.st 58 [.st 34 [.sc (.int .i64 y0), .sc (.int .i64 y1)], .sc (.string y2), .ro 42 y3 y4 y5, .sc (.int .i64 y6), .ar 37 y7]], [], k => g20 0 y0 y1 y2 y3 y4 y5 y6 y7 k
 | _, _, _ => none
def s20 : Sig := { own := [], run := JuB }
theorem JOK : Jc tau Try.prog 20 s20 := JN Jn JEm Jo JKZ JK0 JEn [.ro] 0 [] JuB (JOI 0) fun xs es k res hr => by
 unfold JuB at hr
 split at hr
 · exact ⟨rfl, 0, (e20 0 _ _ _ _ _ _ _ _  _).trans hr⟩
 · cases hr
def F21 : Fns := F0
theorem JEo : Jq tau Try.prog F21 := Js
def JEp : An := (.seq .leaf (.seq .leaf .leaf))
def g21 (f : Nat) (y0 y1 : Int) (y2 : ByteArray) (y3 y4 : Bool) (y5 : List PV) (y6 : Int) (y7 : List PV) (k : KR) : OR := k (Res.mk (.st 58 [.st 34 [.sc (.int .i64 y0), .sc (.int .i64 y1)], .sc (.string y2), .ro 42 y3 y4 y5, .sc (.int .i64 y6), .ar 37 y7]) [] [])
theorem e21 (f : Nat) (y0 y1 : Int) (y2 : ByteArray) (y3 y4 : Bool) (y5 : List PV) (y6 : Int) (y7 : List PV) (k : KR) : JJ tau F21 Try.f21 (Try.f21.body.get!) JEp [.ro] 0 [.st 39 [.st 34 [.sc (.int .i64 y0), .sc (.int .i64 y1)], .sc (.string y2), .ro 42 y3 y4 y5, .sc (.int .i64 y6), .ar 37 y7]] [] k = g21 f y0 y1 y2 y3 y4 y5 y6 y7 k := by kernel_rfl
theorem JOL (f : Nat) : ∀ q ∈ Jf (Try.f21.body.get!) JEp, q.Ok tau Try.prog 0 := Jw (by kernel_rfl)
theorem JK1 : Try.prog.funcs[21]? = some Try.f21 := by kernel_rfl
theorem JK2 : Try.f21.body = some (Try.f21.body.get!) := by kernel_rfl
theorem JOM : Enters Try.prog 21 := enters_of JK1 (by kernel_rfl) JK2
def JuC : Jz
 | [.st 39 [.st 34 [.sc (.int .i64 y0), .sc (.int .i64 y1)], .sc (.string y2), .ro 42 y3 y4 y5, .sc (.int .i64 y6), .ar 37 y7]], [], k => g21 0 y0 y1 y2 y3 y4 y5 y6 y7 k
 | _, _, _ => none
def s21 : Sig := { own := [], run := JuC }
theorem JON : Jc tau Try.prog 21 s21 := JN Jn JEo Jo JK1 JK2 JEp [.ro] 0 [] JuC (JOL 0) fun xs es k res hr => by
 unfold JuC at hr
 split at hr
 · exact ⟨rfl, 0, (e21 0 _ _ _ _ _ _ _ _  _).trans hr⟩
 · cases hr
def N22 : Nat := 59
def F22 : Fns := F0
theorem JuD : Jq tau Try.prog F22 := Js
def JpU : Code := Qd (Try.f22.body.get!) [1, 1, 0, 1, 0, 0]
def JfF : Nm := [(2, .any), (3, .any), (5, .any)]
def JiW : Nm := [(4, .any)]
def JuE : An := (.seq (.seq .leaf (.cond .leaf .leaf)) (.seq (.block none (.seq .leaf (.cond (.seq .leaf .leaf) .leaf))) .leaf))
def JxP (r0 : Qr) : An := (.seq .leaf (.seq (.seq .leaf (.cond (.seq .leaf .leaf) .leaf)) (.seq (.seq .leaf (.block none (.sum JfF N22 r0))) (.seq .leaf .leaf))))
def JbU (f : Nat) (rc : Int -> Int -> Int -> ByteArray -> Bool -> Bool -> List PV -> Int -> List PV -> Int -> Int -> ByteArray -> Bool -> Bool -> List PV -> Int -> List PV -> OR) (k0 : Bool -> OR) (k1 : OR) (v0 v1 v2 : Int) (v3 : ByteArray) (v4 v5 : Bool) (v6 : List PV) (v7 : Int) (v8 : List PV) (v9 v10 : Int) (v11 : ByteArray) (v12 v13 : Bool) (v14 : List PV) (v15 : Int) (v16 : List PV) : OR := bif decide (v0 < zi v6.length) then bif decide (0 <= v0) && decide (v0 < zi v6.length) && (PV.isSt 42 #[Field.mk "D" 3 0 false "" "" 0, Field.mk "U" 3 1 false "" "" 8].size (v6.getD v0.toNat PV.top) && (PV.isInt IntKind.i64 (PV.child 0 (v6.getD v0.toNat PV.top)) && (PV.isInt IntKind.i64 (PV.child (0 + 1) (v6.getD v0.toNat PV.top)) && true))) && true then bif decide (0 <= v0) && decide (v0 < zi v14.length) && (PV.isSt 42 #[Field.mk "D" 3 0 false "" "" 0, Field.mk "U" 3 1 false "" "" 8].size (v14.getD v0.toNat PV.top) && (PV.isInt IntKind.i64 (PV.child 0 (v14.getD v0.toNat PV.top)) && (PV.isInt IntKind.i64 (PV.child (0 + 1) (v14.getD v0.toNat PV.top)) && true))) && true then bif !((PV.child 0 (v6.getD v0.toNat PV.top)).int == (PV.child 0 (v14.getD v0.toNat PV.top)).int && ((PV.child (0 + 1) (v6.getD v0.toNat PV.top)).int == (PV.child (0 + 1) (v14.getD v0.toNat PV.top)).int && true)) then k0 false else rc (IntKind.i64.wrap (v0 + 1)) v1 v2 v3 v4 v5 v6 v7 v8 v9 v10 v11 v12 v13 v14 v15 v16 else none else none else k1
def Jab (f : Nat) (k0 : Bool -> OR) (k1 : OR) : Nat -> Int -> Int -> Int -> ByteArray -> Bool -> Bool -> List
 PV -> Int -> List PV -> Int -> Int -> ByteArray -> Bool -> Bool -> List PV -> Int -> List PV -> OR
 | 0, _, _, _, _, _, _, _, _, _, _, _, _, _, _, _, _, _ => none
 | n + 1, v0, v1, v2, v3, v4, v5, v6, v7, v8, v9, v10, v11, v12, v13, v14, v15, v16 => JbU f (Jab f k0 k1 n) k0 k1 v0 v1 v2 v3 v4 v5 v6 v7 v8 v9 v10 v11 v12 v13 v14 v15 v16
def JbV (k : Kont) := fun x0 => k Ex.ret (Ji JiW N22 [.sc (.bool x0)] [])
def JbW (k : Kont) := k (Ex.exit 0) (Ji JiW N22 [PV.top] [])
def JnR (f : Nat) (k : Kont) (n : Nat) (v0 v1 v2 : Int) (v3 : ByteArray) (v4 v5 : Bool) (v6 : List PV) (v7 : Int) (v8 : List PV) (v9 v10 : Int) (v11 : ByteArray) (v12 v13 : Bool) (v14 : List PV) (v15 : Int) (v16 : List PV) : OR := Jy tau 0 JfF (fun s k => ev tau F22 0 0 JpU (JuE ) s k) n (Ji JfF N22 [.ptr 960 [], .ptr 961 [], .sc (.int .i64 v0)] [(960, .box false 58 (PV.st 58 [.st 34 [.sc (.int .i64 v1), .sc (.int .i64 v2)], .sc (.string v3), .ro 42 v4 v5 v6, .sc (.int .i64 v7), .ar 37 v8])), (961, .box false 58 (PV.st 58 [.st 34 [.sc (.int .i64 v9), .sc (.int .i64 v10)], .sc (.string v11), .ro 42 v12 v13 v14, .sc (.int .i64 v15), .ar 37 v16]))]) (JG tau 0 JiW k)
theorem JxQ (f : Nat) (k : Kont) (n : Nat) (v0 v1 v2 : Int) (v3 : ByteArray) (v4 v5 : Bool) (v6 : List PV) (v7 : Int) (v8 : List PV) (v9 v10 : Int) (v11 : ByteArray) (v12 v13 : Bool) (v14 : List PV) (v15 : Int) (v16 : List PV) : JnR f k (n + 1) v0 v1 v2 v3 v4 v5 v6 v7 v8 v9 v10 v11 v12 v13 v14 v15 v16 = JbU f (JnR f k n) (JbV k) (JbW k) v0 v1 v2 v3 v4 v5 v6 v7 v8 v9 v10 v11 v12 v13 v14 v15 v16 := by kernel_rfl
theorem JpV (f : Nat) (k : Kont) : ∀ (n : Nat) (v0 v1 v2 : Int) (v3 : ByteArray) (v4 v5 : Bool) (v6 : List PV) (v7 : Int) (v8 : List PV) (v9 v10 : Int) (v11 : ByteArray) (v12 v13 : Bool) (v14 : List PV) (v15 : Int) (v16 : List PV), JnR f k n v0 v1 v2 v3 v4 v5 v6 v7 v8 v9 v10 v11 v12 v13 v14 v15 v16 = Jab f (JbV k) (JbW k) n v0 v1 v2 v3 v4 v5 v6 v7 v8 v9 v10 v11 v12 v13 v14 v15 v16 | 0, _, _, _, _, _, _, _, _, _, _, _, _, _, _, _, _, _ => rfl | n + 1, v0, v1, v2, v3, v4, v5, v6, v7, v8, v9, v10, v11, v12, v13, v14, v15, v16 => (JxQ f k n v0 v1 v2 v3 v4 v5 v6 v7 v8 v9 v10 v11 v12 v13 v14 v15 v16).trans (congrArg (fun r => JbU f r (JbV k) (JbW k) v0 v1 v2 v3 v4 v5 v6 v7 v8 v9 v10 v11 v12 v13 v14 v15 v16) (by funext v0 v1 v2 v3 v4 v5 v6 v7 v8 v9 v10 v11 v12 v13 v14 v15 v16; exact JpV f k n v0 v1 v2 v3 v4 v5 v6 v7 v8 v9 v10 v11 v12 v13 v14 v15 v16))
def JfG (f : Nat) : List PV -> List (Nat × Ent) -> Kont -> OR
 | [.ptr 960 [], .ptr 961 [],
 PV.sc
  (Value.int IntKind.i64
   v0)], [(960,
  Ent.box false 58
   (PV.st 58 [.st 34 [.sc (.int .i64 v1), .sc (.int .i64 v2)], .sc (.string v3), .ro 42 v4 v5 v6, .sc (.int .i64 v7), .ar 37 v8])),
 (961,
  Ent.box false 58
   (PV.st 58
    [.st 34 [.sc (.int .i64 v9), .sc (.int .i64 v10)], .sc (.string v11), .ro 42 v12 v13 v14, .sc (.int .i64 v15),
     PV.ar 37
      v16]))], k => Jab f (JbV k) (JbW k) f v0 v1 v2 v3 v4 v5 v6 v7 v8 v9 v10 v11 v12 v13 v14 v15 v16
 | _, _, _ => none
theorem JEq (f : Nat) : Jf JpU JuE = [] := by kernel_rfl
theorem JEr (f : Nat) : (Item.l JpU JfF N22 (JfG f)).Ok tau Try.prog 0 := Ju Jn JuD Jo (x := JuE) (nm2 := JiW) (Jk _ _ (by rw [JEq f]; intro q hq; cases hq)) fun vs hp k res hr => by
 unfold JfG at hr
 split at hr
 · exact ⟨f, 0, (JpV f _ f _ _ _ _ _ _ _ _ _ _ _ _ _ _ _ _ _ ).trans hr⟩
 · cases hr
def g22 (f : Nat) (y0 y1 : Int) (y2 : ByteArray) (y3 y4 : Bool) (y5 : List PV) (y6 : Int) (y7 : List PV) (y8 y9 : Int) (y10 : ByteArray) (y11 y12 : Bool) (y13 : List PV) (y14 : Int) (y15 : List PV) (k : KR) : OR := bif !(y0 == y8 && (y1 == y9 && true)) then k (Res.mk (.sc (.bool false)) [] []) else bif !XN y2 y10 then k (Res.mk (.sc (.bool false)) [] []) else bif zi y5.length != zi y13.length then k (Res.mk (.sc (.bool false)) [] []) else bif y6 != y14 then k (Res.mk (.sc (.bool false)) [] []) else bif decide (y7.length = 32) && decide (y15.length = 32) && Jl IntKind.u8 y7 && Jl IntKind.u8 y15 && true then bif !J3 y7 y15 then k (Res.mk (.sc (.bool false)) [] []) else Jab f (fun x0_0 => k (Res.mk (.sc (.bool x0_0)) [] [])) (k (Res.mk (.sc (.bool true)) [] [])) f (0) y0 y1 y2 y3 y4 y5 y6 y7 y8 y9 y10 y11 y12 y13 y14 y15 else none
theorem e22 (f : Nat) (y0 y1 : Int) (y2 : ByteArray) (y3 y4 : Bool) (y5 : List PV) (y6 : Int) (y7 : List PV) (y8 y9 : Int) (y10 : ByteArray) (y11 y12 : Bool) (y13 : List PV) (y14 : Int) (y15 : List PV) (k : KR) : JJ tau F22 Try.f22 (Try.f22.body.get!) (JxP (JfG f)) [.ro] 0 [.st 58 [.st 34 [.sc (.int .i64 y0), .sc (.int .i64 y1)], .sc (.string y2), .ro 42 y3 y4 y5, .sc (.int .i64 y6), .ar 37 y7], .st 58 [.st 34 [.sc (.int .i64 y8), .sc (.int .i64 y9)], .sc (.string y10), .ro 42 y11 y12 y13, .sc (.int .i64 y14), .ar 37 y15]] [] k = g22 f y0 y1 y2 y3 y4 y5 y6 y7 y8 y9 y10 y11 y12 y13 y14 y15 k := by kernel_rfl
theorem JOO (f : Nat) : Jf (Try.f22.body.get!) (JxP (JfG f)) = [.l JpU JfF N22 (JfG f)] := by kernel_rfl
theorem JOP (f : Nat) : ∀ q ∈ Jf (Try.f22.body.get!) (JxP (JfG f)), q.Ok tau Try.prog 0 := by rw [JOO f]; exact JL (JEr f) (fun _ h => nomatch h)
theorem JK3 : Try.prog.funcs[22]? = some Try.f22 := by kernel_rfl
theorem JK4 : Try.f22.body = some (Try.f22.body.get!) := by kernel_rfl
theorem JOQ : Enters Try.prog 22 := enters_of JK3 (by kernel_rfl) JK4
-- FN ref13.Same
theorem Jz6 (s t : SV) (ha : s.l.all X9 = true) (hb : t.l.all X9 = true) (hl : s.l.length = t.l.length) (h2 : s.l.length <= 1000) (f : Nat) (k0 : Bool -> OR) (k1 : OR) (z fl z' fl' : Bool) : ∀ (d i n : Nat), i + d = s.l.length -> d < n ->
  Jab f k0 k1 n (i : Int) s.ih s.iN s.doc z fl s.l s.ver s.hash t.ih t.iN t.doc z' fl' t.l t.ver t.hash = bif Va (s.l.drop i) (t.l.drop i) then k1 else k0 false
 | 0, i, n + 1, hi, hn => by
   rw [List.drop_of_length_le (l := s.l) (by omega), List.drop_of_length_le (l := t.l) (by omega)]
   simp only [Jab, JbU]
   exact Jd (by simp [zi]; omega)
 | d + 1, i, n + 1, hi, hn => by
   have g1 : ((i : Int)).toNat = i := by omega
   have w1 : IntKind.i64.wrap ((i : Int) + 1) = ((i + 1 : Nat) : Int) := by rw [wrap_i64 (by omega) (by omega)]; omega
   have hro : ∀ l : List PV, l.all X9 = true -> l.length = s.l.length -> (decide (0 <= (i : Int)) && decide ((i : Int) < zi l.length) && (PV.isSt 42 #[Field.mk "D" 3 0 false "" "" 0, Field.mk "U" 3 1 false "" "" 8].size (l.getD i PV.top) && (PV.isInt IntKind.i64 (PV.child 0 (l.getD i PV.top)) && (PV.isInt IntKind.i64 (PV.child (0 + 1) (l.getD i PV.top)) && true))) && true) = true := by
    intro l h1 h3
    have hq := Wm (Wn h1 (i := i) (by omega))
    unfold Zg at hq
    rw [hq]; simp [zi]; omega
   have hs : ((PV.child 0 (s.l.getD i PV.top)).int == (PV.child 0 (t.l.getD i PV.top)).int && ((PV.child (0 + 1) (s.l.getD i PV.top)).int == (PV.child (0 + 1) (t.l.getD i PV.top)).int && true)) = eqA (av (s.l.getD i .top)) (av (t.l.getD i .top)) := rfl
   simp only [Jab, JbU, g1, w1, hs]
   refine (Ja (by simp [zi]; omega)).trans ((Ja (hro s.l ha rfl)).trans ((Ja (hro t.l hb hl.symm)).trans ?_))
   rw [JW (l := s.l) (i := i) (by omega), JW (l := t.l) (i := i) (by omega), Va]
   cases eqA (av (s.l.getD i .top)) (av (t.l.getD i .top)) with
   | false => rfl
   | true =>
    rw [Bool.true_and]
    exact (Jd rfl).trans (Jz6 s t ha hb hl h2 f k0 k1 z fl z' fl' d (i + 1) n (by omega) (by omega))
def JnS : Jz
 | [.st 58 [.st 34 [.sc (.int .i64 ih), .sc (.int .i64 iN)], .sc (.string doc), .ro 42 z f l, .sc (.int .i64 ver), .ar 37 hash], .st 58 [.st 34 [.sc (.int .i64 ih2), .sc (.int .i64 iN2)], .sc (.string doc2), .ro 42 z2 f2 l2, .sc (.int .i64 ver2), .ar 37 hash2]], [], k =>
  bif wOk ⟨ih, iN, doc, l, ver, hash⟩ && wOk ⟨ih2, iN2, doc2, l2, ver2, hash2⟩ then k ⟨.sc (.bool (JbL ⟨⟨ih, iN, doc, l, ver, hash⟩, ⟨ih2, iN2, doc2, l2, ver2, hash2⟩⟩)), [], []⟩ else none
 | _, _, _ => none
def JK5 : Sig := { own := [], run := JnS }
theorem JEs (s t : SV) (z f z' f' : Bool) (ha : wOk s = true) (hb : wOk t = true) (k : KR) : g22 (s.l.length + 2) s.ih s.iN s.doc z f s.l s.ver s.hash t.ih t.iN t.doc z' f' t.l t.ver t.hash k = k ⟨.sc (.bool (JbL ⟨s, t⟩)), [], []⟩ := by
 obtain ⟨a1, a2⟩ := VV.1 ha
 obtain ⟨b1, b2⟩ := VV.1 hb
 obtain ⟨a3, a4⟩ := Xm.1 a1
 obtain ⟨b3, b4⟩ := Xm.1 b1
 obtain ⟨a5, a6⟩ := h32_iff.1 a2
 obtain ⟨b5, b6⟩ := h32_iff.1 b2
 unfold g22
 rw [Jfq]
 simp only [a5, a6, b5, b6, decide_true, Bool.and_true, cond_true]
 cases (s.ih == t.ih && s.iN == t.iN) with
 | false => rfl
 | true =>
 cases XN s.doc t.doc with
 | false => rfl
 | true =>
 simp only [Bool.not_true, cond_false, Bool.true_and]
 by_cases hl : s.l.length = t.l.length
 · refine (Jd (by simp [zi, hl])).trans ?_
   rw [Jdu]
   show (bif !(s.ver == t.ver) then _ else _) = _
   cases s.ver == t.ver with
   | false => rw [Bool.false_and, Bool.and_false]; rfl
   | true =>
   cases J3 s.hash t.hash with
   | false => rw [Bool.and_false, Bool.and_false]; rfl
   | true =>
   simp only [Bool.not_true, cond_false, Bool.and_true]
   refine (Jz6 s t a3 b3 hl a4 (s.l.length + 2) _ _ z f z' f' s.l.length 0 (s.l.length + 2) (by omega) (by omega)).trans ?_
   rw [List.drop_zero, List.drop_zero]
   cases Va s.l t.l <;> rfl
 · have hs : Jh8 ⟨s.l, t.l⟩ = false := by
    rw [Jdu]
    exact Bool.eq_false_iff.2 fun h => hl (JeL h)
   rw [hs, Bool.false_and]
   exact Ja (by simp [zi]; omega)
theorem JK6 : Jc tau Try.prog 22 JK5 := Jc.mk' fun xs es k res hl hr => by
 change JnS xs es k = some res at hr
 unfold JnS at hr
 split at hr
 · rename_i ih iN doc z f l ver hash ih2 iN2 doc2 z2 f2 l2 ver2 hash2
   obtain ⟨hc, hr⟩ := Jv hr
   rw [Bool.and_eq_true] at hc
   exact J2 Jn JuD Jo JK3 JK4 (JxP (JfG (l.length + 2))) [.ro] 0 0 (JOP (l.length + 2)) hl rfl ((e22 (l.length + 2) ih iN doc z f l ver hash ih2 iN2 doc2 z2 f2 l2 ver2 hash2 k).trans ((JEs ⟨ih, iN, doc, l, ver, hash⟩ ⟨ih2, iN2, doc2, l2, ver2, hash2⟩ z f z2 f2 hc.1 hc.2 k).trans hr))
 · cases hr
def F56 : Fns := Jt 18 JxO (F0)
theorem JEt : Jq tau Try.prog F56 := (Js).add JuA JEk
def JEu : An := (.seq .leaf (.seq .leaf .leaf))
def g56 (f : Nat) (n : Int) (k : KR) : OR := bif okW 3 then bif okW 4 then k (Res.mk (.st 42 [.sc (.int .i64 (n % 3)), .sc (.int .i64 (IntKind.i64.wrap (n.tdiv 3) % 4))]) [] []) else none else none
theorem e56 (f : Nat) (n : Int) (k : KR) : JJ tau F56 Try.f56 (Try.f56.body.get!) JEu [.ro] 0 [.sc (.int .i64 n)] [] k = g56 f n k := by kernel_rfl
theorem JOR (f : Nat) : ∀ q ∈ Jf (Try.f56.body.get!) JEu, q.Ok tau Try.prog 0 := Jw (by kernel_rfl)
theorem JK7 : Try.prog.funcs[56]? = some Try.f56 := by kernel_rfl
theorem JK8 : Try.f56.body = some (Try.f56.body.get!) := by kernel_rfl
theorem JOS : Enters Try.prog 56 := enters_of JK7 (by kernel_rfl) JK8
def JuF : Jz
 | [.sc (.int .i64 n)], [], k => g56 0 n k
 | _, _, _ => none
def s56 : Sig := { own := [], run := JuF }
theorem JOT : Jc tau Try.prog 56 s56 := JN Jn JEt Jo JK7 JK8 JEu [.ro] 0 [] JuF (JOR 0) fun xs es k res hr => by
 unfold JuF at hr
 split at hr
 · exact ⟨rfl, 0, (e56 0 _  _).trans hr⟩
 · cases hr
def JK9 : Fns := F0
theorem JxR : Jq tau Try.prog JK9 := Js
def JuG : An := (.seq .leaf (.seq .leaf (.seq (.seq .leaf (.cond .leaf .leaf)) (.seq .leaf .leaf))))
def JxS (f : Nat) (at1 n : Int) (k : KR) : OR := bif !decide (n = 0) && true then bif decide (at1.tmod n < 0) then k (Res.mk (.sc (.int .i64 (IntKind.i64.wrap (at1.tmod n + n)))) [] []) else k (Res.mk (.sc (.int .i64 (at1.tmod n))) [] []) else none
theorem JOU (f : Nat) (at1 n : Int) (k : KR) : JJ tau JK9 Try.f100 (Try.f100.body.get!) JuG [.ro] 0 [.sc (.int .i64 at1), .sc (.int .i64 n)] [] k = JxS f at1 n k := by kernel_rfl
theorem JLa (f : Nat) : ∀ q ∈ Jf (Try.f100.body.get!) JuG, q.Ok tau Try.prog 0 := Jw (by kernel_rfl)
theorem Jz7 : Try.prog.funcs[100]? = some Try.f100 := by kernel_rfl
theorem Jz8 : Try.f100.body = some (Try.f100.body.get!) := by kernel_rfl
theorem JLb : Enters Try.prog 100 := enters_of Jz7 (by kernel_rfl) Jz8
def JnT : Jz
 | [.sc (.int .i64 at1), .sc (.int .i64 n)], [], k => JxS 0 at1 n k
 | _, _, _ => none
def JOV : Sig := { own := [], run := JnT }
theorem JLc : Jc tau Try.prog 100 JOV := JN Jn JxR Jo Jz7 Jz8 JuG [.ro] 0 [] JnT (JLa 0) fun xs es k res hr => by
 unfold JnT at hr
 split at hr
 · exact ⟨rfl, 0, (JOU 0 _ _  _).trans hr⟩
 · cases hr
-- FN law4.within
def JiX : Jz
 | [.sc (.int .i64 a), .sc (.int .i64 n)], [], k => bif okW n then k ⟨.sc (.int .i64 (a % n)), [], []⟩ else none
 | _, _, _ => none
def Jz9 : Sig := { own := [], run := JiX }
theorem JxT (a n : Int) (h : 0 < n) (h2 : n < 1000000000000) (k : KR) : JxS 0 a n k = k ⟨.sc (.int .i64 (a % n)), [], []⟩ := by
 have hn : (n == 0) = false := by simp; omega
 have e := Int.tmod_eq_emod (a := a) (b := n)
 have e0 := Int.emod_nonneg a (show n ≠ 0 by omega)
 have e1 := Int.emod_lt_of_pos a h
 have hna : (n.natAbs : Int) = n := by omega
 unfold JxS
 refine (Ja (by simp; omega)).trans ?_
 by_cases hc : a.tmod n < 0
 · refine (Ja (by simpa using hc)).trans ?_
   have : IntKind.i64.wrap (a.tmod n + n) = a % n := by
    split at e <;> (rw [wrap_i64 (by omega) (by omega)]; omega)
   rw [this]
 · refine (Jd (by simpa using hc)).trans ?_
   have : a.tmod n = a % n := by split at e <;> omega
   rw [this]
theorem JEv : Jc tau Try.prog 100 Jz9 := JLc.of fun xs es k res hr => by
 change JiX xs es k = some res at hr
 unfold JiX at hr
 split at hr
 · obtain ⟨hc, hr⟩ := Jv hr
   simp only [GV, Bool.and_eq_true, decide_eq_true_eq] at hc
   exact (JxT _ _ hc.1 hc.2 _).trans hr
 · cases hr
def N57 : Nat := 114
def F57 : Fns := Jt 100 Jz9 (F0)
theorem JuH : Jq tau Try.prog F57 := (Js).add JEv JLb
def JpW : Code := Qd (Try.f57.body.get!) [1, 1, 1, 0, 1, 0, 0]
def JfH : Nm := [(0, .any), (1, .any), (5, .own), (6, .any), (7, .any)]
def JnU : Nm := [(0, .any), (1, .any), (5, .any), (6, .any)]
def JuI : An := (.seq (.seq .leaf (.cond .leaf .leaf)) (.seq (.block none (.seq .leaf (.seq .leaf (.block none (.seq (.seq .leaf (.cond .leaf .leaf)) (.cond (.seq .leaf .leaf) (.seq .leaf (.cond (.seq .leaf .leaf) (.seq .leaf (.cond (.seq .leaf (.seq .leaf (.cond (.seq .leaf .leaf) .leaf))) .leaf)))))))))) .leaf))
def JxU (r0 : Qr) : An := (.seq .leaf (.seq .leaf (.seq .leaf (.seq (.seq .leaf (.block none (.sum JfH N57 r0))) (.seq (.seq .leaf (.cond .leaf .leaf)) (.seq (.seq .leaf (.cond .leaf .leaf)) (.seq .leaf .leaf)))))))
abbrev QY (v3 : List PV) (v6 : Int) := (1 + IntKind.i64.wrap ((v3.getD v6.toNat PV.top).int.tdiv 7) % 5)
abbrev QG (v3 : List PV) (v6 : Int) := ((ByteArray.mk (Array.mk (u8l [97, 98, 99, 100, 101, 102, 103, 104, 105, 106]))).extract 0 (IntKind.i64.wrap (QY v3 v6)).toNat)
abbrev Qx (v0 : Int) (v3 : List PV) (v6 : Int) := (1 + IntKind.i64.wrap ((v3.getD v6.toNat PV.top).int.tdiv 7) % Qf v0 9)
abbrev Wg (v0 : Int) (v3 : List PV) (v6 : Int) := (IntKind.i64.wrap (v0 - IntKind.i64.wrap (Qx v0 v3 v6)))
def V2 (f : Nat) (rc : Int -> Bool -> Bool -> List PV -> Nat -> Int -> Int -> Bool -> List PV -> OR) (k0 : Int -> Bool -> Bool -> List PV -> Nat -> Int -> Bool -> List PV -> OR) (v0 : Int) (v1 v2 : Bool) (v3 : List PV) (v4 : Nat) (v5 v6 : Int) (v7 : Bool) (v8 : List PV) : OR := bif decide (v6 < zi v3.length) then bif decide (v6 < 12) then bif decide (v0 > 0) then bif decide (0 <= v6) && decide (v6 < zi v3.length) && PV.isInt IntKind.i64 (v3.getD v6.toNat PV.top) && true then bif okW (Qf v0 9) then bif decide (0 <= v6) && decide (v6 < zi v3.length) && PV.isInt IntKind.i64 (v3.getD v6.toNat PV.top) && true then bif okW 4 then bif (v3.getD v6.toNat PV.top).int % 4 == 0 then bif (v3.getD v6.toNat PV.top).int % 4 == 0 then bif Je (v4 + 1) 32 && true then rc (Wg v0 v3 v6) v1 v2 v3 (v4 + 1) v5 (IntKind.i64.wrap (v6 + 1)) (v7 && false) (List.take v4 v8 ++ [.st 113 [.sc (.int .i64 1), .sc (.int .i64 (IntKind.i64.wrap (Qx v0 v3 v6))), .sc (.string (ByteArray.mk #[]))]]) else none else bif (v3.getD v6.toNat PV.top).int % 4 == 2 then bif Je (v4 + 1) 32 && true then rc (Wg v0 v3 v6) v1 v2 v3 (v4 + 1) (IntKind.i64.wrap (v5 - IntKind.i64.wrap (Qx v0 v3 v6))) (IntKind.i64.wrap (v6 + 1)) (v7 && false) (List.take v4 v8 ++ [.st 113 [.sc (.int .i64 3), .sc (.int .i64 (IntKind.i64.wrap (Qx v0 v3 v6))), .sc (.string (ByteArray.mk #[]))]]) else none else bif (v3.getD v6.toNat PV.top).int % 4 == 3 then bif decide (0 <= v6) && decide (v6 < zi v3.length) && PV.isInt IntKind.i64 (v3.getD v6.toNat PV.top) && true then bif okW 5 then bif decide (0 <= IntKind.i64.wrap (QY v3 v6)) && true && decide ((IntKind.i64.wrap (QY v3 v6)).toNat <= 10) && true then bif decide (IntKind.i64.wrap (v5 + zi (QG v3 v6).size) <= 120) then bif Je (v4 + 1) 32 && true then rc v0 v1 v2 v3 (v4 + 1) (IntKind.i64.wrap (v5 + zi (QG v3 v6).size)) (IntKind.i64.wrap (v6 + 1)) (v7 && false) (List.take v4 v8 ++ [.st 113 [.sc (.int .i64 2), .sc (.int .i64 0), .sc (.string (QG v3 v6))]]) else none else rc v0 v1 v2 v3 v4 v5 (IntKind.i64.wrap (v6 + 1)) v7 v8 else none else none else none else rc v0 v1 v2 v3 v4 v5 (IntKind.i64.wrap (v6 + 1)) v7 v8 else bif (v3.getD v6.toNat PV.top).int % 4 == 1 then bif Je (v4 + 1) 32 && true then rc (Wg v0 v3 v6) v1 v2 v3 (v4 + 1) v5 (IntKind.i64.wrap (v6 + 1)) (v7 && false) (List.take v4 v8 ++ [.st 113 [.sc (.int .i64 1), .sc (.int .i64 (IntKind.i64.wrap (Qx v0 v3 v6))), .sc (.string (ByteArray.mk #[]))]]) else none else bif (v3.getD v6.toNat PV.top).int % 4 == 2 then bif Je (v4 + 1) 32 && true then rc (Wg v0 v3 v6) v1 v2 v3 (v4 + 1) (IntKind.i64.wrap (v5 - IntKind.i64.wrap (Qx v0 v3 v6))) (IntKind.i64.wrap (v6 + 1)) (v7 && false) (List.take v4 v8 ++ [.st 113 [.sc (.int .i64 3), .sc (.int .i64 (IntKind.i64.wrap (Qx v0 v3 v6))), .sc (.string (ByteArray.mk #[]))]]) else none else bif (v3.getD v6.toNat PV.top).int % 4 == 3 then bif decide (0 <= v6) && decide (v6 < zi v3.length) && PV.isInt IntKind.i64 (v3.getD v6.toNat PV.top) && true then bif okW 5 then bif decide (0 <= IntKind.i64.wrap (QY v3 v6)) && true && decide ((IntKind.i64.wrap (QY v3 v6)).toNat <= 10) && true then bif decide (IntKind.i64.wrap (v5 + zi (QG v3 v6).size) <= 120) then bif Je (v4 + 1) 32 && true then rc v0 v1 v2 v3 (v4 + 1) (IntKind.i64.wrap (v5 + zi (QG v3 v6).size)) (IntKind.i64.wrap (v6 + 1)) (v7 && false) (List.take v4 v8 ++ [.st 113 [.sc (.int .i64 2), .sc (.int .i64 0), .sc (.string (QG v3 v6))]]) else none else rc v0 v1 v2 v3 v4 v5 (IntKind.i64.wrap (v6 + 1)) v7 v8 else none else none else none else rc v0 v1 v2 v3 v4 v5 (IntKind.i64.wrap (v6 + 1)) v7 v8 else none else none else none else none else k0 v0 v1 v2 v3 v4 v5 v7 v8 else k0 v0 v1 v2 v3 v4 v5 v7 v8 else k0 v0 v1 v2 v3 v4 v5 v7 v8
def YG (f : Nat) (k0 : Int -> Bool -> Bool -> List PV -> Nat -> Int -> Bool -> List PV -> OR) : Nat -> Int -> Bool -> Bool -> List PV -> Nat -> Int -> Int -> Bool -> List PV -> OR
 | 0, _, _, _, _, _, _, _, _, _ => none
 | n + 1, v0, v1, v2, v3, v4, v5, v6, v7, v8 => V2 f (YG f k0 n) k0 v0 v1 v2 v3 v4 v5 v6 v7 v8
def JbX (k : Kont) := fun x0 x1 x2 x3 x4 x5 x6 x7 => k (Ex.exit 0) (Ji JnU N57 [.sc (.int .i64 x0), .ro 3 x1 x2 x3, .ow 113 1840 [] 0 x4 none, .sc (.int .i64 x5)] [(1840, .vec false 113 x6 x7)])
def JnV (f : Nat) (k : Kont) (n : Nat) (v0 : Int) (v1 v2 : Bool) (v3 : List PV) (v4 : Nat) (v5 v6 : Int) (v7 : Bool) (v8 : List PV) : OR := Jy tau 0 JfH (fun s k => ev tau F57 0 0 JpW (JuI ) s k) n (Ji JfH N57 [.sc (.int .i64 v0), .ro 3 v1 v2 v3, .ow 113 1840 [] 0 v4 none, .sc (.int .i64 v5), .sc (.int .i64 v6)] [(1840, .vec false 113 v7 v8)]) (JG tau 0 JnU k)
theorem JxV (f : Nat) (k : Kont) (n : Nat) (v0 : Int) (v1 v2 : Bool) (v3 : List PV) (v4 : Nat) (v5 v6 : Int) (v7 : Bool) (v8 : List PV) : JnV f k (n + 1) v0 v1 v2 v3 v4 v5 v6 v7 v8 = V2 f (JnV f k n) (JbX k) v0 v1 v2 v3 v4 v5 v6 v7 v8 := by kernel_rfl
theorem JpX (f : Nat) (k : Kont) : ∀ (n : Nat) (v0 : Int) (v1 v2 : Bool) (v3 : List PV) (v4 : Nat) (v5 v6 : Int) (v7 : Bool) (v8 : List PV), JnV f k n v0 v1 v2 v3 v4 v5 v6 v7 v8 = YG f (JbX k) n v0 v1 v2 v3 v4 v5 v6 v7 v8 | 0, _, _, _, _, _, _, _, _, _ => rfl | n + 1, v0, v1, v2, v3, v4, v5, v6, v7, v8 => (JxV f k n v0 v1 v2 v3 v4 v5 v6 v7 v8).trans (congrArg (fun r => V2 f r (JbX k) v0 v1 v2 v3 v4 v5 v6 v7 v8) (by funext v0 v1 v2 v3 v4 v5 v6 v7 v8; exact JpX f k n v0 v1 v2 v3 v4 v5 v6 v7 v8))
def JfI (f : Nat) : List PV -> List (Nat × Ent) -> Kont -> OR
 | [.sc (.int .i64 v0), .ro 3 v1 v2 v3, .ow 113 1840 [] 0 v4 none, .sc (.int .i64 v5),
 PV.sc
  (Value.int IntKind.i64
   v6)], [(1840,
  Ent.vec false 113 v7
   v8)], k => YG f (JbX k) f v0 v1 v2 v3 v4 v5 v6 v7 v8
 | _, _, _ => none
theorem JEw (f : Nat) : Jf JpW JuI = [] := by kernel_rfl
theorem JEx (f : Nat) : (Item.l JpW JfH N57 (JfI f)).Ok tau Try.prog 0 := Ju Jn JuH Jo (x := JuI) (nm2 := JnU) (Jk _ _ (by rw [JEw f]; intro q hq; cases hq)) fun vs hp k res hr => by
 unfold JfI at hr
 split at hr
 · exact ⟨f, 0, (JpX f _ f _ _ _ _ _ _ _ _ _ ).trans hr⟩
 · cases hr
abbrev JfJ := [PV.sc (.int .i64 2), PV.sc (.int .i64 0), PV.sc (.string (ByteArray.mk (Array.mk (u8l [122]))))]
def g57 (f : Nat) (n : Int) (ns_z ns_f : Bool) (ns : List PV) (k : KR) : OR := YG f (fun x0_0 _ _ x3_0 x4_0 x5_0 x6_0 QI => bif decide (x0_0 > 0) then bif Je (x4_0 + 1) 32 && true then bif decide (zi x3_0.length > 0) then bif decide (0 < zi x3_0.length) && PV.isInt IntKind.i64 (x3_0.getD 0 PV.top) && true then bif okW 3 then bif IntKind.i64.wrap ((x3_0.getD 0 PV.top).int.tdiv 3) % 3 == 0 then bif decide (x5_0 <= 115) then bif Je (x4_0 + 1 + 1) 32 && true then k (Res.mk (.ro 113 (Ent.vec false 113 (x6_0 && false && false) (List.take (x4_0 + 1) (List.take x4_0 QI ++ [.st 113 [.sc (.int .i64 1), .sc (.int .i64 x0_0), .sc (.string (ByteArray.mk #[]))]]) ++ [.st 113 JfJ])).nil false (List.take (x4_0 + 1 + 1) (List.take (x4_0 + 1) (List.take x4_0 QI ++ [.st 113 [.sc (.int .i64 1), .sc (.int .i64 x0_0), .sc (.string (ByteArray.mk #[]))]]) ++ [.st 113 JfJ]))) [] []) else none else k (Res.mk (.ro 113 (Ent.vec false 113 (x6_0 && false) (List.take x4_0 QI ++ [.st 113 [.sc (.int .i64 1), .sc (.int .i64 x0_0), .sc (.string (ByteArray.mk #[]))]])).nil false (List.take (x4_0 + 1) (List.take x4_0 QI ++ [.st 113 [.sc (.int .i64 1), .sc (.int .i64 x0_0), .sc (.string (ByteArray.mk #[]))]]))) [] []) else k (Res.mk (.ro 113 (Ent.vec false 113 (x6_0 && false) (List.take x4_0 QI ++ [.st 113 [.sc (.int .i64 1), .sc (.int .i64 x0_0), .sc (.string (ByteArray.mk #[]))]])).nil false (List.take (x4_0 + 1) (List.take x4_0 QI ++ [.st 113 [.sc (.int .i64 1), .sc (.int .i64 x0_0), .sc (.string (ByteArray.mk #[]))]]))) [] []) else none else none else k (Res.mk (.ro 113 (Ent.vec false 113 (x6_0 && false) (List.take x4_0 QI ++ [.st 113 [.sc (.int .i64 1), .sc (.int .i64 x0_0), .sc (.string (ByteArray.mk #[]))]])).nil false (List.take (x4_0 + 1) (List.take x4_0 QI ++ [.st 113 [.sc (.int .i64 1), .sc (.int .i64 x0_0), .sc (.string (ByteArray.mk #[]))]]))) [] []) else none else bif decide (zi x3_0.length > 0) then bif decide (0 < zi x3_0.length) && PV.isInt IntKind.i64 (x3_0.getD 0 PV.top) && true then bif okW 3 then bif IntKind.i64.wrap ((x3_0.getD 0 PV.top).int.tdiv 3) % 3 == 0 then bif decide (x5_0 <= 115) then bif Je (x4_0 + 1) 32 && true then k (Res.mk (.ro 113 (Ent.vec false 113 (x6_0 && false) (List.take x4_0 QI ++ [.st 113 JfJ])).nil false (List.take (x4_0 + 1) (List.take x4_0 QI ++ [.st 113 JfJ]))) [] []) else none else k (Res.mk (.ro 113 (Ent.vec false 113 x6_0 QI).nil false (List.take x4_0 QI)) [] []) else k (Res.mk (.ro 113 (Ent.vec false 113 x6_0 QI).nil false (List.take x4_0 QI)) [] []) else none else none else k (Res.mk (.ro 113 (Ent.vec false 113 x6_0 QI).nil false (List.take x4_0 QI)) [] [])) f n ns_z ns_f ns (0) n (0) true ([])
theorem e57 (f : Nat) (n : Int) (ns_z ns_f : Bool) (ns : List PV) (k : KR) : JJ tau F57 Try.f57 (Try.f57.body.get!) (JxU (JfI f)) [.ro] 0 [.sc (.int .i64 n), .ro 3 ns_z ns_f ns] [] k = g57 f n ns_z ns_f ns k := by kernel_rfl
theorem JOW (f : Nat) : Jf (Try.f57.body.get!) (JxU (JfI f)) = [.l JpW JfH N57 (JfI f)] := by kernel_rfl
theorem JOX (f : Nat) : ∀ q ∈ Jf (Try.f57.body.get!) (JxU (JfI f)), q.Ok tau Try.prog 0 := by rw [JOW f]; exact JL (JEx f) (fun _ h => nomatch h)
theorem JLd : Try.prog.funcs[57]? = some Try.f57 := by kernel_rfl
theorem JLe : Try.f57.body = some (Try.f57.body.get!) := by kernel_rfl
theorem JOY : Enters Try.prog 57 := enters_of JLd (by kernel_rfl) JLe
-- FN law4.Make
theorem Vz {l : List PV} (h : Jl .i64 l = true) {i : Nat} (hi : i < l.length) : (l.getD i .top).isInt .i64 = true := by
 induction l generalizing i with
 | nil => simp at hi
 | cons p ps ih =>
  have e : Jl .i64 (p :: ps) = (p.isInt .i64 && Jl .i64 ps) := rfl
  rw [e, Bool.and_eq_true] at h
  cases i with
  | zero => exact h.1
  | succ i => simpa using ih h.2 (by simpa using hi)
theorem isE (L : List PV) (x : PV) : (L ++ [x]).isEmpty = false := by cases L <;> rfl
theorem Jkr (L : List PV) (x y : PV) : (L ++ [x, y]).isEmpty = false := by cases L <;> rfl
theorem JuJ (c z fl : Bool) (ns : List PV) (hns : Jl .i64 ns = true) (h2 : ns.length <= 9223372036854775807) (f : Nat) (k0 : Int -> Bool -> Bool -> List PV -> Nat -> Int -> Bool -> List PV -> OR) (R : List PV -> OR)
  (hk : ∀ (n out : Int) (L : List PV), 0 <= n -> n <= out -> out <= 120 -> L.length <= 12 -> k0 n z fl ns L.length out L.isEmpty L = R (L ++ mkE c n out)) :
  ∀ (b i m : Nat) (n out : Int) (L : List PV), i + b = 12 -> b < m -> 0 <= n -> n <= out -> out <= 120 -> L.length <= i ->
   YG f k0 m n z fl ns L.length out (i : Int) L.isEmpty L = R (L ++ YS c b n out (ns.drop i))
 | 0, i, m + 1, n, out, L, hi, hm, h3, h4, h5, hL => by
   have e : YS c 0 n out (ns.drop i) = mkE c n out := rfl
   rw [e]
   simp only [YG, V2, Wg, Qx, QG, QY]
   by_cases hc : i < ns.length
   · refine (Ja (by simp [zi]; omega)).trans ((Jd (by simp; omega)).trans (hk n out L h3 h4 h5 (by omega)))
   · exact (Jd (by simp [zi]; omega)).trans (hk n out L h3 h4 h5 (by omega))
 | b + 1, i, m + 1, n, out, L, hi, hm, h3, h4, h5, hL => by
   by_cases hc : ¬ i < ns.length
   · rw [List.drop_of_length_le (by omega)]
     simp only [YG, V2, Wg, Qx, QG, QY]
     exact (Jd (by simp [zi]; omega)).trans (hk n out L h3 h4 h5 (by omega))
   have hc := Decidable.not_not.1 hc
   rw [JW hc]
   have g1 : ((i : Int)).toNat = i := by omega
   have w1 : IntKind.i64.wrap ((i : Int) + 1) = ((i + 1 : Nat) : Int) := by rw [wrap_i64 (by omega) (by omega)]; omega
   have hin := Vz hns hc
   have tk : List.take L.length L = L := List.take_length
   have e1 : ∀ x : PV, L.length + 1 = (L ++ [x]).length := fun x => by simp
   have e2 : ∀ x : PV, (L.isEmpty && false) = (L ++ [x]).isEmpty := fun x => by simp
   simp only [YG, V2, Wg, Qx, QG, QY, g1, w1, hin, tk]
   generalize ns.getD i .top = p at *
   refine (Ja (by simp [zi]; omega)).trans ((Ja (by simp; omega)).trans ?_)
   have hrd : (decide (0 <= (i : Int)) && decide ((i : Int) < zi ns.length) && true && true) = true := by simp [zi]; omega
   have hro : (Je (L.length + 1) 32 && true) = true := by simp [Je]; omega
   by_cases hn : ¬ n > 0
   · refine (Jd (by simp; omega)).trans ((hk n out L h3 h4 h5 (by omega)).trans ?_)
     have : YS c (b + 1) n out (p :: ns.drop (i + 1)) = mkE c n out := by simp only [YS]; exact Jd (by simp; omega)
     rw [this]
   have hn := Decidable.not_not.1 hn
   obtain ⟨k1, k2, k3⟩ := Jtr (x := p.int) hn
   obtain ⟨m1, m2, m3⟩ := Jpq hn
   obtain ⟨s1, s2⟩ := Jts p.int
   have wK : IntKind.i64.wrap (1 + IntKind.i64.wrap (p.int.tdiv 7) % Qf n 9) = mkK p.int n := wrap_i64 (by show _ <= mkK p.int n; omega) (by show mkK p.int n < _; omega)
   have wS : IntKind.i64.wrap (1 + IntKind.i64.wrap (p.int.tdiv 7) % 5) = mkS p.int := wrap_i64 (by show _ <= mkS p.int; omega) (by show mkS p.int < _; omega)
   have wN : IntKind.i64.wrap (n - mkK p.int n) = n - mkK p.int n := wrap_i64 (by omega) (by omega)
   have wO : IntKind.i64.wrap (out - mkK p.int n) = out - mkK p.int n := wrap_i64 (by omega) (by omega)
   have hab : (ByteArray.mk (Array.mk (u8l [97, 98, 99, 100, 101, 102, 103, 104, 105, 106]))).extract 0 (mkS p.int).toNat = JfW (mkS p.int) := rfl
   have hsz : zi (JfW (mkS p.int)).size = mkS p.int := JgH (by omega) (by omega)
   have wP : IntKind.i64.wrap (out + mkS p.int) = out + mkS p.int := wrap_i64 (by omega) (by omega)
   simp only [wK, wS, wN, wO, hab, hsz, wP]
   refine (Ja (by simpa using hn)).trans ((Ja hrd).trans ((Ja (by rw [GV, Bool.and_eq_true, decide_eq_true_eq, decide_eq_true_eq]; omega)).trans ((Ja hrd).trans ((Ja (by rw [GV]; rfl)).trans ?_))))
   have hmk : YS c (b + 1) n out (p :: ns.drop (i + 1)) = (bif p.int % 4 == 0 || p.int % 4 == 1 then kpP (mkK p.int n) :: YS c b (n - mkK p.int n) out (ns.drop (i + 1))
     else bif p.int % 4 == 2 then ctP (mkK p.int n) :: YS c b (n - mkK p.int n) (out - mkK p.int n) (ns.drop (i + 1))
     else bif decide (out + mkS p.int <= 120) then ptP (JfW (mkS p.int)) :: YS c b n (out + mkS p.int) (ns.drop (i + 1))
     else YS c b n out (ns.drop (i + 1))) := by simp only [YS]; exact Ja (by simpa using hn)
   have A : ∀ (x : PV) (n' out' : Int), 0 <= n' -> n' <= out' -> out' <= 120 -> YG f k0 m n' z fl ns (L.length + 1) out' ((i + 1 : Nat) : Int) (L.isEmpty && false) (L ++ [x]) = R (L ++ x :: YS c b n' out' (ns.drop (i + 1))) := fun x n' out' a1 a2 a3 => by
     rw [e1 x, e2 x, JuJ c z fl ns hns h2 f k0 R hk b (i + 1) m n' out' (L ++ [x]) (by omega) (by omega) a1 a2 a3 (by simp; omega), List.append_assoc]; rfl
   have B : YG f k0 m n z fl ns L.length out ((i + 1 : Nat) : Int) L.isEmpty L = R (L ++ YS c b n out (ns.drop (i + 1))) :=
     JuJ c z fl ns hns h2 f k0 R hk b (i + 1) m n out L (by omega) (by omega) h3 h4 h5 (by omega)
   rw [hmk]
   have q0 := Int.emod_nonneg p.int (show (4 : Int) ≠ 0 by omega)
   have q1 := Int.emod_lt_of_pos p.int (show (0 : Int) < 4 by omega)
   have : p.int % 4 = 0 ∨ p.int % 4 = 1 ∨ p.int % 4 = 2 ∨ p.int % 4 = 3 := by omega
   rcases this with hq | hq | hq | hq
   · rw [hq]
     exact (Ja rfl).trans ((Ja rfl).trans ((Ja hro).trans (A _ _ _ (by omega) (by omega) h5)))
   · rw [hq]
     exact (Jd rfl).trans ((Ja rfl).trans ((Ja hro).trans (A _ _ _ (by omega) (by omega) h5)))
   · rw [hq]
     exact (Jd rfl).trans ((Jd rfl).trans ((Ja rfl).trans ((Ja hro).trans (A _ _ _ (by omega) (by omega) (by omega)))))
   · rw [hq]
     refine (Jd rfl).trans ((Jd rfl).trans ((Jd rfl).trans ((Ja rfl).trans ((Ja hrd).trans ((Ja (by rw [GV]; rfl)).trans ((Ja (by simp; omega)).trans ?_))))))
     by_cases hz : out + mkS p.int <= 120
     · refine (Ja (decide_eq_true hz)).trans ((Ja hro).trans ((A _ _ _ (by omega) (by omega) hz).trans ?_))
       rw [decide_eq_true hz]; rfl
     · refine (Jd (decide_eq_false hz)).trans (B.trans ?_)
       rw [decide_eq_false hz]; rfl
def JnW : Jz
 | [.sc (.int .i64 n), .ro 3 z f ns], [], k => bif Jiw n ns then k ⟨.ro 113 (WG ⟨n, ns⟩).isEmpty false (WG ⟨n, ns⟩), [], []⟩ else none
 | _, _, _ => none
def JLf : Sig := { own := [], run := JnW }
theorem JEy (n : Int) (z f : Bool) (ns : List PV) (h : Jiw n ns = true) (k : KR) : g57 20 n z f ns k = k ⟨.ro 113 (WG ⟨n, ns⟩).isEmpty false (WG ⟨n, ns⟩), [], []⟩ := by
 obtain ⟨h1, h2, h3, h4⟩ := Jkd.1 h
 unfold g57 JfJ
 rw [Jkc]
 refine (JuJ (mkC ns) z f ns h3 h4 20 _ (fun M => k ⟨.ro 113 M.isEmpty false M, [], []⟩) ?_ 12 0 20 n n [] rfl (by omega) h1 (by omega) h2 (by simp)).trans ?_
 · intro n' out L a1 a2 a3 a4
   have tk : List.take L.length L = L := List.take_length
   have tk1 : ∀ x : PV, List.take (L.length + 1) (L ++ [x]) = L ++ [x] := fun x => List.take_of_length_le (by simp)
   have tk2 : ∀ x y : PV, List.take (L.length + 1 + 1) (L ++ [x] ++ [y]) = L ++ [x] ++ [y] := fun x y => List.take_of_length_le (by simp)
   have hro : (Je (L.length + 1) 32 && true) = true := by simp [Je]; omega
   have hro2 : (Je (L.length + 1 + 1) 32 && true) = true := by simp [Je]; omega
   have em : ∀ x : PV, (L.isEmpty && false) = (L ++ [x]).isEmpty := fun x => by simp
   have hz : PV.st 113 [PV.sc (Value.int IntKind.i64 2), PV.sc (Value.int IntKind.i64 0), PV.sc (Value.string (ByteArray.mk (Array.mk (u8l [122]))))] = ptP zed := rfl
   have hk' : PV.st 113 [PV.sc (Value.int IntKind.i64 1), PV.sc (Value.int IntKind.i64 n'), PV.sc (Value.string (ByteArray.mk #[]))] = kpP n' := rfl
   have okw : okW 3 = true := by rw [GV]; rfl
   simp only [tk, tk1, tk2, hz, hk', Ent.nil, okw, hro, hro2]
   unfold mkE mkC
   cases hn : decide (n' > 0) with
   | true =>
    refine (Ja rfl).trans ((Ja rfl).trans ?_)
    by_cases hl : ns.length > 0
    · have hl' : decide (zi ns.length > 0) = true := by simp [zi]; omega
      have hin := Vz h3 hl
      rw [hl', decide_eq_true hl]
      refine (Ja rfl).trans ((Ja (by rw [hin]; simp [zi, hl])).trans ((Ja rfl).trans ?_))
      cases hc : (IntKind.i64.wrap ((ns.getD 0 PV.top).int.tdiv 3) % 3 == 0) with
      | false => refine (Jd rfl).trans ?_; simp only [List.append_assoc, List.singleton_append, List.append_nil, Bool.and_false, Bool.and_true, Bool.false_and, Bool.true_and, cond_true, cond_false, isE, Jkr, List.cons_append, List.nil_append]
      | true =>
       refine (Ja rfl).trans ?_
       cases ho : decide (out <= 115) with
       | false => refine (Jd rfl).trans ?_; simp only [List.append_assoc, List.singleton_append, List.append_nil, Bool.and_false, Bool.and_true, Bool.false_and, Bool.true_and, cond_true, cond_false, isE, Jkr, List.cons_append, List.nil_append]
       | true => refine (Ja rfl).trans ((Ja rfl).trans ?_); simp [isE, Jkr]
    · have hl' : decide (zi ns.length > 0) = false := decide_eq_false (by simp only [zi]; omega)
      rw [hl', decide_eq_false hl]
      refine (Jd rfl).trans ?_; simp only [List.append_assoc, List.singleton_append, List.append_nil, Bool.and_false, Bool.and_true, Bool.false_and, Bool.true_and, cond_true, cond_false, isE, Jkr, List.cons_append, List.nil_append]
   | false =>
    refine (Jd rfl).trans ?_
    by_cases hl : ns.length > 0
    · have hl' : decide (zi ns.length > 0) = true := by simp [zi]; omega
      have hin := Vz h3 hl
      rw [hl', decide_eq_true hl]
      refine (Ja rfl).trans ((Ja (by rw [hin]; simp [zi, hl])).trans ((Ja rfl).trans ?_))
      cases hc : (IntKind.i64.wrap ((ns.getD 0 PV.top).int.tdiv 3) % 3 == 0) with
      | false => refine (Jd rfl).trans ?_; simp only [List.append_assoc, List.singleton_append, List.append_nil, Bool.and_false, Bool.and_true, Bool.false_and, Bool.true_and, cond_true, cond_false, isE, Jkr, List.cons_append, List.nil_append]
      | true =>
       refine (Ja rfl).trans ?_
       cases ho : decide (out <= 115) with
       | false => refine (Jd rfl).trans ?_; simp only [List.append_assoc, List.singleton_append, List.append_nil, Bool.and_false, Bool.and_true, Bool.false_and, Bool.true_and, cond_true, cond_false, isE, Jkr, List.cons_append, List.nil_append]
       | true => refine (Ja rfl).trans ((Ja rfl).trans ?_); simp [isE, Jkr]
    · have hl' : decide (zi ns.length > 0) = false := decide_eq_false (by simp only [zi]; omega)
      rw [hl', decide_eq_false hl]
      refine (Jd rfl).trans ?_; simp only [List.append_assoc, List.singleton_append, List.append_nil, Bool.and_false, Bool.and_true, Bool.false_and, Bool.true_and, cond_true, cond_false, isE, Jkr, List.cons_append, List.nil_append]
 · simp
theorem JLg : Jc tau Try.prog 57 JLf := Jc.mk' fun xs es k res hl hr => by
 change JnW xs es k = some res at hr
 unfold JnW at hr
 split at hr
 · rename_i n z f ns
   obtain ⟨hc, hr⟩ := Jv hr
   exact J2 Jn JuH Jo JLd JLe (JxU (JfI 20)) [.ro] 0 0 (JOX 20) hl rfl ((e57 20 n z f ns k).trans ((JEy n z f ns hc k).trans hr))
 · cases hr
def F23 : Fns := Jt 57 JLf (Jt 56 s56 (Jt 55 JJe (Jt 54 JJg (Jt 18 JxO (F0)))))
theorem JEz : Jq tau Try.prog F23 := (((((Js).add JuA JEk).add JJh JNK).add JJf JNG).add JOT JOS).add JLg JOY
def JEA : An := (.seq .leaf (.seq .leaf (.seq (.seq .leaf (.cond .leaf .leaf)) (.seq .leaf (.seq (.seq .leaf (.block none (.seq .leaf (.cond .leaf (.seq .leaf (.cond .leaf (.seq .leaf .leaf))))))) (.seq .leaf .leaf))))))
abbrev QH (p_By : Int) (y9 : List PV) := (y9.getD (p_By % zi y9.length).toNat PV.top)
abbrev ZC (p_By : Int) (p_Ns : List PV) (y6 : ByteArray) (y10 : Int) (y11 : List PV) (id : Int) := (DV.mk (p_By % 3) (IntKind.i64.wrap (p_By.tdiv 3) % 4) id y10 y11 1 (WG (MN.mk (zi y6.size) p_Ns)) 0 0)
abbrev Jcz (p_By : Int) (p_Ns : List PV) (k0_z : Bool) (k0_f : Bool) (k0 : List PV) (k1_z : Bool) (k1_f : Bool) (k1 : List PV) (k2_z : Bool) (k2_f : Bool) (k2 : List PV) (y6 : ByteArray) (y10 : Int) (y11 : List PV) (id : Int) := (EV.mk (pu IntKind.u8 (dlB (ZC p_By p_Ns y6 y10 y11 id))) (pu IntKind.u8 (mcK (MK.mk [PV.ro 5 k0_z k0_f k0, PV.ro 5 k1_z k1_f k1, PV.ro 5 k2_z k2_f k2] (p_By % 3) (dlB (ZC p_By p_Ns y6 y10 y11 id))))) y10 (WG (MN.mk (zi y6.size) p_Ns)))
abbrev Jac (p_By : Int) (y1 : Int) (y10 : Int) (y11 : List PV) (id : Int) := (DV.mk (p_By % 3) (IntKind.i64.wrap (p_By.tdiv 3) % 4) id y10 y11 2 [] (y1 % 3) (IntKind.i64.wrap (y1.tdiv 3) % 4))
abbrev JcA (p_By : Int) (y1 : Int) (k0_z : Bool) (k0_f : Bool) (k0 : List PV) (k1_z : Bool) (k1_f : Bool) (k1 : List PV) (k2_z : Bool) (k2_f : Bool) (k2 : List PV) (y10 : Int) (y11 : List PV) (id : Int) := (EV.mk (pu IntKind.u8 (dlB (Jac p_By y1 y10 y11 id))) (pu IntKind.u8 (mcK (MK.mk [PV.ro 5 k0_z k0_f k0, PV.ro 5 k1_z k1_f k1, PV.ro 5 k2_z k2_f k2] (p_By % 3) (dlB (Jac p_By y1 y10 y11 id))))) y10 [])
abbrev Jad (p_By : Int) (y1 : Int) (y10 : Int) (y11 : List PV) (id : Int) := (DV.mk (p_By % 3) (IntKind.i64.wrap (p_By.tdiv 3) % 4) id y10 y11 3 [] (y1 % 3) (IntKind.i64.wrap (y1.tdiv 3) % 4))
abbrev JcB (p_By : Int) (y1 : Int) (k0_z : Bool) (k0_f : Bool) (k0 : List PV) (k1_z : Bool) (k1_f : Bool) (k1 : List PV) (k2_z : Bool) (k2_f : Bool) (k2 : List PV) (y10 : Int) (y11 : List PV) (id : Int) := (EV.mk (pu IntKind.u8 (dlB (Jad p_By y1 y10 y11 id))) (pu IntKind.u8 (mcK (MK.mk [PV.ro 5 k0_z k0_f k0, PV.ro 5 k1_z k1_f k1, PV.ro 5 k2_z k2_f k2] (p_By % 3) (dlB (Jad p_By y1 y10 y11 id))))) y10 [])
abbrev JcC (p_By : Int) (y1 : Int) (y9 : List PV) (y10 : Int) (y11 : List PV) (id : Int) := (DV.mk (PV.child 0 (QH p_By y9)).int (PV.child (0 + 1) (QH p_By y9)).int id y10 y11 2 [] (y1 % 3) (IntKind.i64.wrap (y1.tdiv 3) % 4))
abbrev JcD (p_By : Int) (y1 : Int) (y9 : List PV) (y10 : Int) (y11 : List PV) (id : Int) := (DV.mk (PV.child 0 (QH p_By y9)).int (PV.child (0 + 1) (QH p_By y9)).int id y10 y11 3 [] (y1 % 3) (IntKind.i64.wrap (y1.tdiv 3) % 4))
abbrev V3 (p_By : Int) (p_Ns : List PV) (y6 : ByteArray) (y9 : List PV) (y10 : Int) (y11 : List PV) (id : Int) := (DV.mk (PV.child 0 (QH p_By y9)).int (PV.child (0 + 1) (QH p_By y9)).int id y10 y11 1 (WG (MN.mk (zi y6.size) p_Ns)) 0 0)
abbrev JfK (p_By : Int) (p_Ns : List PV) (k0_z : Bool) (k0_f : Bool) (k0 : List PV) (k1_z : Bool) (k1_f : Bool) (k1 : List PV) (k2_z : Bool) (k2_f : Bool) (k2 : List PV) (y6 : ByteArray) (y9 : List PV) (y10 : Int) (y11 : List PV) (id : Int) := (EV.mk (pu IntKind.u8 (dlB (V3 p_By p_Ns y6 y9 y10 y11 id))) (pu IntKind.u8 (mcK (MK.mk [PV.ro 5 k0_z k0_f k0, PV.ro 5 k1_z k1_f k1, PV.ro 5 k2_z k2_f k2] (PV.child 0 (QH p_By y9)).int (dlB (V3 p_By p_Ns y6 y9 y10 y11 id))))) y10 (WG (MN.mk (zi y6.size) p_Ns)))
abbrev JnX (p_By : Int) (p_Ns : List PV) (k0_z : Bool) (k0_f : Bool) (k0 : List PV) (k1_z : Bool) (k1_f : Bool) (k1 : List PV) (k2_z : Bool) (k2_f : Bool) (k2 : List PV) (y4 : Int) (y6 : ByteArray) (y10 : Int) (y11 : List PV) (id : Int) := (Res.mk (PV.st 51 [PV.st 47 [PV.ro 5 false false (pu IntKind.u8 (dlB (ZC p_By p_Ns y6 y10 y11 id))), PV.ar 37 (pu IntKind.u8 (mcK (MK.mk [PV.ro 5 k0_z k0_f k0, PV.ro 5 k1_z k1_f k1, PV.ro 5 k2_z k2_f k2] (p_By % 3) (dlB (ZC p_By p_Ns y6 y10 y11 id)))))], PV.sc (.int .i64 y10), PV.ro 113 false false (WG (MN.mk (zi y6.size) p_Ns)), PV.ar 37 (pu IntKind.u8 (nxP (NX.mk y11 (Jcz p_By p_Ns k0_z k0_f k0 k1_z k1_f k1 k2_z k2_f k2 y6 y10 y11 id)))), PV.ar 37 (pu IntKind.u8 (emP (EM.mk [PV.ro 5 k0_z k0_f k0, PV.ro 5 k1_z k1_f k1, PV.ro 5 k2_z k2_f k2] y4 (Jcz p_By p_Ns k0_z k0_f k0 k1_z k1_f k1 k2_z k2_f k2 y6 y10 y11 id) (pu IntKind.u8 (nxP (NX.mk y11 (Jcz p_By p_Ns k0_z k0_f k0 k1_z k1_f k1 k2_z k2_f k2 y6 y10 y11 id)))))))]) [] [])
abbrev JiY (p_By : Int) (y1 : Int) (k0_z : Bool) (k0_f : Bool) (k0 : List PV) (k1_z : Bool) (k1_f : Bool) (k1 : List PV) (k2_z : Bool) (k2_f : Bool) (k2 : List PV) (y4 : Int) (y10 : Int) (y11 : List PV) (id : Int) := (Res.mk (PV.st 51 [PV.st 47 [PV.ro 5 false false (pu IntKind.u8 (dlB (Jac p_By y1 y10 y11 id))), PV.ar 37 (pu IntKind.u8 (mcK (MK.mk [PV.ro 5 k0_z k0_f k0, PV.ro 5 k1_z k1_f k1, PV.ro 5 k2_z k2_f k2] (p_By % 3) (dlB (Jac p_By y1 y10 y11 id)))))], PV.sc (.int .i64 y10), PV.ro 113 false false [], PV.ar 37 (pu IntKind.u8 (nxP (NX.mk y11 (JcA p_By y1 k0_z k0_f k0 k1_z k1_f k1 k2_z k2_f k2 y10 y11 id)))), PV.ar 37 (pu IntKind.u8 (emP (EM.mk [PV.ro 5 k0_z k0_f k0, PV.ro 5 k1_z k1_f k1, PV.ro 5 k2_z k2_f k2] y4 (JcA p_By y1 k0_z k0_f k0 k1_z k1_f k1 k2_z k2_f k2 y10 y11 id) (pu IntKind.u8 (nxP (NX.mk y11 (JcA p_By y1 k0_z k0_f k0 k1_z k1_f k1 k2_z k2_f k2 y10 y11 id)))))))]) [] [])
abbrev JiZ (p_By : Int) (y1 : Int) (k0_z : Bool) (k0_f : Bool) (k0 : List PV) (k1_z : Bool) (k1_f : Bool) (k1 : List PV) (k2_z : Bool) (k2_f : Bool) (k2 : List PV) (y4 : Int) (y10 : Int) (y11 : List PV) (id : Int) := (Res.mk (PV.st 51 [PV.st 47 [PV.ro 5 false false (pu IntKind.u8 (dlB (Jad p_By y1 y10 y11 id))), PV.ar 37 (pu IntKind.u8 (mcK (MK.mk [PV.ro 5 k0_z k0_f k0, PV.ro 5 k1_z k1_f k1, PV.ro 5 k2_z k2_f k2] (p_By % 3) (dlB (Jad p_By y1 y10 y11 id)))))], PV.sc (.int .i64 y10), PV.ro 113 false false [], PV.ar 37 (pu IntKind.u8 (nxP (NX.mk y11 (JcB p_By y1 k0_z k0_f k0 k1_z k1_f k1 k2_z k2_f k2 y10 y11 id)))), PV.ar 37 (pu IntKind.u8 (emP (EM.mk [PV.ro 5 k0_z k0_f k0, PV.ro 5 k1_z k1_f k1, PV.ro 5 k2_z k2_f k2] y4 (JcB p_By y1 k0_z k0_f k0 k1_z k1_f k1 k2_z k2_f k2 y10 y11 id) (pu IntKind.u8 (nxP (NX.mk y11 (JcB p_By y1 k0_z k0_f k0 k1_z k1_f k1 k2_z k2_f k2 y10 y11 id)))))))]) [] [])
abbrev JbY (p_By : Int) (y1 : Int) (k0_z : Bool) (k0_f : Bool) (k0 : List PV) (k1_z : Bool) (k1_f : Bool) (k1 : List PV) (k2_z : Bool) (k2_f : Bool) (k2 : List PV) (y9 : List PV) (y10 : Int) (y11 : List PV) (id : Int) := (EV.mk (pu IntKind.u8 (dlB (JcC p_By y1 y9 y10 y11 id))) (pu IntKind.u8 (mcK (MK.mk [PV.ro 5 k0_z k0_f k0, PV.ro 5 k1_z k1_f k1, PV.ro 5 k2_z k2_f k2] (PV.child 0 (QH p_By y9)).int (dlB (JcC p_By y1 y9 y10 y11 id))))) y10 [])
abbrev JbZ (p_By : Int) (y1 : Int) (k0_z : Bool) (k0_f : Bool) (k0 : List PV) (k1_z : Bool) (k1_f : Bool) (k1 : List PV) (k2_z : Bool) (k2_f : Bool) (k2 : List PV) (y9 : List PV) (y10 : Int) (y11 : List PV) (id : Int) := (EV.mk (pu IntKind.u8 (dlB (JcD p_By y1 y9 y10 y11 id))) (pu IntKind.u8 (mcK (MK.mk [PV.ro 5 k0_z k0_f k0, PV.ro 5 k1_z k1_f k1, PV.ro 5 k2_z k2_f k2] (PV.child 0 (QH p_By y9)).int (dlB (JcD p_By y1 y9 y10 y11 id))))) y10 [])
def g23 (f : Nat) (y0 p_By y1 : Int) (y2 y3 : Bool) (p_Ns : List PV) (k0_z k0_f : Bool) (k0 : List PV) (k1_z k1_f : Bool) (k1 : List PV) (k2_z k2_f : Bool) (k2 : List PV) (y4 y5 : Int) (y6 : ByteArray) (y7 y8 : Bool) (y9 : List PV) (y10 : Int) (y11 : List PV) (id : Int) (k : KR) : OR := bif okW 3 then bif okW 4 then bif decide (zi y9.length > 0) then bif okW 9 then bif decide (p_By % 9 > 0) then bif okW (zi y9.length) then bif decide (0 <= p_By % zi y9.length) && decide (p_By % zi y9.length < zi y9.length) && (PV.isSt 42 #[Field.mk "D" 3 0 false "" "" 0, Field.mk "U" 3 1 false "" "" 8].size (QH p_By y9) && (PV.isInt IntKind.i64 (PV.child 0 (QH p_By y9)) && (PV.isInt IntKind.i64 (PV.child (0 + 1) (QH p_By y9)) && true))) && true then bif okW 6 then bif y0 % 6 == 4 then bif okW 3 then bif okW 4 then bif dOk (JcC p_By y1 y9 y10 y11 id) && (kO3 [.ro 5 k0_z k0_f k0, .ro 5 k1_z k1_f k1, .ro 5 k2_z k2_f k2] && kIn (PV.child 0 (QH p_By y9)).int) then bif kIn y4 && eOk (JbY p_By y1 k0_z k0_f k0 k1_z k1_f k1 k2_z k2_f k2 y9 y10 y11 id) && (h32 y11 && kO3 [.ro 5 k0_z k0_f k0, .ro 5 k1_z k1_f k1, .ro 5 k2_z k2_f k2]) then k (Res.mk (.st 51 [.st 47 [.ro 5 false false (pu IntKind.u8 (dlB (JcC p_By y1 y9 y10 y11 id))), .ar 37 (pu IntKind.u8 (mcK (MK.mk [.ro 5 k0_z k0_f k0, .ro 5 k1_z k1_f k1, .ro 5 k2_z k2_f k2] (PV.child 0 (QH p_By y9)).int (dlB (JcC p_By y1 y9 y10 y11 id)))))], .sc (.int .i64 y10), .ro 113 false false [], .ar 37 (pu IntKind.u8 (nxP (NX.mk y11 (JbY p_By y1 k0_z k0_f k0 k1_z k1_f k1 k2_z k2_f k2 y9 y10 y11 id)))), .ar 37 (pu IntKind.u8 (emP (EM.mk [.ro 5 k0_z k0_f k0, .ro 5 k1_z k1_f k1, .ro 5 k2_z k2_f k2] y4 (JbY p_By y1 k0_z k0_f k0 k1_z k1_f k1 k2_z k2_f k2 y9 y10 y11 id) (pu IntKind.u8 (nxP (NX.mk y11 (JbY p_By y1 k0_z k0_f k0 k1_z k1_f k1 k2_z k2_f k2 y9 y10 y11 id)))))))]) [] []) else none else none else none else none else bif y0 % 6 == 5 then bif okW 3 then bif okW 4 then bif dOk (JcD p_By y1 y9 y10 y11 id) && (kO3 [.ro 5 k0_z k0_f k0, .ro 5 k1_z k1_f k1, .ro 5 k2_z k2_f k2] && kIn (PV.child 0 (QH p_By y9)).int) then bif kIn y4 && eOk (JbZ p_By y1 k0_z k0_f k0 k1_z k1_f k1 k2_z k2_f k2 y9 y10 y11 id) && (h32 y11 && kO3 [.ro 5 k0_z k0_f k0, .ro 5 k1_z k1_f k1, .ro 5 k2_z k2_f k2]) then k (Res.mk (.st 51 [.st 47 [.ro 5 false false (pu IntKind.u8 (dlB (JcD p_By y1 y9 y10 y11 id))), .ar 37 (pu IntKind.u8 (mcK (MK.mk [.ro 5 k0_z k0_f k0, .ro 5 k1_z k1_f k1, .ro 5 k2_z k2_f k2] (PV.child 0 (QH p_By y9)).int (dlB (JcD p_By y1 y9 y10 y11 id)))))], .sc (.int .i64 y10), .ro 113 false false [], .ar 37 (pu IntKind.u8 (nxP (NX.mk y11 (JbZ p_By y1 k0_z k0_f k0 k1_z k1_f k1 k2_z k2_f k2 y9 y10 y11 id)))), .ar 37 (pu IntKind.u8 (emP (EM.mk [.ro 5 k0_z k0_f k0, .ro 5 k1_z k1_f k1, .ro 5 k2_z k2_f k2] y4 (JbZ p_By y1 k0_z k0_f k0 k1_z k1_f k1 k2_z k2_f k2 y9 y10 y11 id) (pu IntKind.u8 (nxP (NX.mk y11 (JbZ p_By y1 k0_z k0_f k0 k1_z k1_f k1 k2_z k2_f k2 y9 y10 y11 id)))))))]) [] []) else none else none else none else none else bif Jiw (zi y6.size) p_Ns then bif dOk (V3 p_By p_Ns y6 y9 y10 y11 id) && (kO3 [.ro 5 k0_z k0_f k0, .ro 5 k1_z k1_f k1, .ro 5 k2_z k2_f k2] && kIn (PV.child 0 (QH p_By y9)).int) then bif kIn y4 && eOk (JfK p_By p_Ns k0_z k0_f k0 k1_z k1_f k1 k2_z k2_f k2 y6 y9 y10 y11 id) && (h32 y11 && kO3 [.ro 5 k0_z k0_f k0, .ro 5 k1_z k1_f k1, .ro 5 k2_z k2_f k2]) then k (Res.mk (.st 51 [.st 47 [.ro 5 false false (pu IntKind.u8 (dlB (V3 p_By p_Ns y6 y9 y10 y11 id))), .ar 37 (pu IntKind.u8 (mcK (MK.mk [.ro 5 k0_z k0_f k0, .ro 5 k1_z k1_f k1, .ro 5 k2_z k2_f k2] (PV.child 0 (QH p_By y9)).int (dlB (V3 p_By p_Ns y6 y9 y10 y11 id)))))], .sc (.int .i64 y10), .ro 113 false false (WG (MN.mk (zi y6.size) p_Ns)), .ar 37 (pu IntKind.u8 (nxP (NX.mk y11 (JfK p_By p_Ns k0_z k0_f k0 k1_z k1_f k1 k2_z k2_f k2 y6 y9 y10 y11 id)))), .ar 37 (pu IntKind.u8 (emP (EM.mk [.ro 5 k0_z k0_f k0, .ro 5 k1_z k1_f k1, .ro 5 k2_z k2_f k2] y4 (JfK p_By p_Ns k0_z k0_f k0 k1_z k1_f k1 k2_z k2_f k2 y6 y9 y10 y11 id) (pu IntKind.u8 (nxP (NX.mk y11 (JfK p_By p_Ns k0_z k0_f k0 k1_z k1_f k1 k2_z k2_f k2 y6 y9 y10 y11 id)))))))]) [] []) else none else none else none else none else none else none else bif okW 6 then bif y0 % 6 == 4 then bif okW 3 then bif okW 4 then bif dOk (Jac p_By y1 y10 y11 id) && (kO3 [.ro 5 k0_z k0_f k0, .ro 5 k1_z k1_f k1, .ro 5 k2_z k2_f k2] && kIn (p_By % 3)) then bif kIn y4 && eOk (JcA p_By y1 k0_z k0_f k0 k1_z k1_f k1 k2_z k2_f k2 y10 y11 id) && (h32 y11 && kO3 [.ro 5 k0_z k0_f k0, .ro 5 k1_z k1_f k1, .ro 5 k2_z k2_f k2]) then k (JiY p_By y1 k0_z k0_f k0 k1_z k1_f k1 k2_z k2_f k2 y4 y10 y11 id) else none else none else none else none else bif y0 % 6 == 5 then bif okW 3 then bif okW 4 then bif dOk (Jad p_By y1 y10 y11 id) && (kO3 [.ro 5 k0_z k0_f k0, .ro 5 k1_z k1_f k1, .ro 5 k2_z k2_f k2] && kIn (p_By % 3)) then bif kIn y4 && eOk (JcB p_By y1 k0_z k0_f k0 k1_z k1_f k1 k2_z k2_f k2 y10 y11 id) && (h32 y11 && kO3 [.ro 5 k0_z k0_f k0, .ro 5 k1_z k1_f k1, .ro 5 k2_z k2_f k2]) then k (JiZ p_By y1 k0_z k0_f k0 k1_z k1_f k1 k2_z k2_f k2 y4 y10 y11 id) else none else none else none else none else bif Jiw (zi y6.size) p_Ns then bif dOk (ZC p_By p_Ns y6 y10 y11 id) && (kO3 [.ro 5 k0_z k0_f k0, .ro 5 k1_z k1_f k1, .ro 5 k2_z k2_f k2] && kIn (p_By % 3)) then bif kIn y4 && eOk (Jcz p_By p_Ns k0_z k0_f k0 k1_z k1_f k1 k2_z k2_f k2 y6 y10 y11 id) && (h32 y11 && kO3 [.ro 5 k0_z k0_f k0, .ro 5 k1_z k1_f k1, .ro 5 k2_z k2_f k2]) then k (JnX p_By p_Ns k0_z k0_f k0 k1_z k1_f k1 k2_z k2_f k2 y4 y6 y10 y11 id) else none else none else none else none else none else bif okW 6 then bif y0 % 6 == 4 then bif okW 3 then bif okW 4 then bif dOk (Jac p_By y1 y10 y11 id) && (kO3 [.ro 5 k0_z k0_f k0, .ro 5 k1_z k1_f k1, .ro 5 k2_z k2_f k2] && kIn (p_By % 3)) then bif kIn y4 && eOk (JcA p_By y1 k0_z k0_f k0 k1_z k1_f k1 k2_z k2_f k2 y10 y11 id) && (h32 y11 && kO3 [.ro 5 k0_z k0_f k0, .ro 5 k1_z k1_f k1, .ro 5 k2_z k2_f k2]) then k (JiY p_By y1 k0_z k0_f k0 k1_z k1_f k1 k2_z k2_f k2 y4 y10 y11 id) else none else none else none else none else bif y0 % 6 == 5 then bif okW 3 then bif okW 4 then bif dOk (Jad p_By y1 y10 y11 id) && (kO3 [.ro 5 k0_z k0_f k0, .ro 5 k1_z k1_f k1, .ro 5 k2_z k2_f k2] && kIn (p_By % 3)) then bif kIn y4 && eOk (JcB p_By y1 k0_z k0_f k0 k1_z k1_f k1 k2_z k2_f k2 y10 y11 id) && (h32 y11 && kO3 [.ro 5 k0_z k0_f k0, .ro 5 k1_z k1_f k1, .ro 5 k2_z k2_f k2]) then k (JiZ p_By y1 k0_z k0_f k0 k1_z k1_f k1 k2_z k2_f k2 y4 y10 y11 id) else none else none else none else none else bif Jiw (zi y6.size) p_Ns then bif dOk (ZC p_By p_Ns y6 y10 y11 id) && (kO3 [.ro 5 k0_z k0_f k0, .ro 5 k1_z k1_f k1, .ro 5 k2_z k2_f k2] && kIn (p_By % 3)) then bif kIn y4 && eOk (Jcz p_By p_Ns k0_z k0_f k0 k1_z k1_f k1 k2_z k2_f k2 y6 y10 y11 id) && (h32 y11 && kO3 [.ro 5 k0_z k0_f k0, .ro 5 k1_z k1_f k1, .ro 5 k2_z k2_f k2]) then k (JnX p_By p_Ns k0_z k0_f k0 k1_z k1_f k1 k2_z k2_f k2 y4 y6 y10 y11 id) else none else none else none else none else none else none
theorem e23 (f : Nat) (y0 p_By y1 : Int) (y2 y3 : Bool) (p_Ns : List PV) (k0_z k0_f : Bool) (k0 : List PV) (k1_z k1_f : Bool) (k1 : List PV) (k2_z k2_f : Bool) (k2 : List PV) (y4 y5 : Int) (y6 : ByteArray) (y7 y8 : Bool) (y9 : List PV) (y10 : Int) (y11 : List PV) (id : Int) (k : KR) : JJ tau F23 Try.f23 (Try.f23.body.get!) JEA [.ro] 0 [.st 69 [.sc (.int .i64 y0), .sc (.int .i64 p_By), .sc (.int .i64 y1), .ro 3 y2 y3 p_Ns], .st 31 [.ro 5 k0_z k0_f k0, .ro 5 k1_z k1_f k1, .ro 5 k2_z k2_f k2], .st 58 [.st 34 [.sc (.int .i64 y4), .sc (.int .i64 y5)], .sc (.string y6), .ro 42 y7 y8 y9, .sc (.int .i64 y10), .ar 37 y11], .sc (.int .i64 id)] [] k = g23 f y0 p_By y1 y2 y3 p_Ns k0_z k0_f k0 k1_z k1_f k1 k2_z k2_f k2 y4 y5 y6 y7 y8 y9 y10 y11 id k := by kernel_rfl
theorem JOZ (f : Nat) : ∀ q ∈ Jf (Try.f23.body.get!) JEA, q.Ok tau Try.prog 0 := Jw (by kernel_rfl)
theorem JLh : Try.prog.funcs[23]? = some Try.f23 := by kernel_rfl
theorem JLi : Try.f23.body = some (Try.f23.body.get!) := by kernel_rfl
theorem JO0 : Enters Try.prog 23 := enters_of JLh (by kernel_rfl) JLi
def JuK : Jz
 | [.st 69 [.sc (.int .i64 y0), .sc (.int .i64 p_By), .sc (.int .i64 y1), .ro 3 y2 y3 p_Ns], .st 31 [.ro 5 k0_z k0_f k0, .ro 5 k1_z k1_f k1, .ro 5 k2_z k2_f k2], .st 58 [.st 34 [.sc (.int .i64 y4), .sc (.int .i64 y5)], .sc (.string y6), .ro 42 y7 y8 y9, .sc (.int .i64 y10), .ar 37 y11], .sc (.int .i64 id)], [], k => g23 0 y0 p_By y1 y2 y3 p_Ns k0_z k0_f k0 k1_z k1_f k1 k2_z k2_f k2 y4 y5 y6 y7 y8 y9 y10 y11 id k
 | _, _, _ => none
def s23 : Sig := { own := [], run := JuK }
theorem JO1 : Jc tau Try.prog 23 s23 := JN Jn JEz Jo JLh JLi JEA [.ro] 0 [] JuK (JOZ 0) fun xs es k res hr => by
 unfold JuK at hr
 split at hr
 · exact ⟨rfl, 0, (e23 0 _ _ _ _ _ _ _ _ _ _ _ _ _ _ _ _ _ _ _ _ _ _ _ _  _).trans hr⟩
 · cases hr
-- FN
-- FN
theorem JEB (d : DV) (h : byB d.h = true := by rfl) : byB (pu .u8 (dlB d)) = true := by
 rw [Jlp]
 intro x hx
 rw [Jml] at hx
 simp only [JsA, List.mem_append, List.mem_singleton] at hx
 rcases hx with h1 | h1 | h1 | h1 | h1 | h1 | h1 | h1 | h1
 · exact VN _ x h1
 · exact VN _ x h1
 · exact VN _ x h1
 · exact VN _ x h1
 · exact (Xb.1 h).2 x h1
 · rw [h1]; exact Jdq _
 · exact Jsp _ x h1
 · exact VN _ x h1
 · exact VN _ x h1
-- FN (law13.Step).Entry
structure SP where
 (kd by1 who : Int) (ns : List PV)
structure SX where
 (p : SP) (K : List PV) (s : SV) (id : Int)
def spOk : SP -> Bool := hid fun p => Jl .i64 p.ns && decide (p.ns.length <= 9223372036854775807)
theorem JfL {p : SP} : spOk p = true ↔ Jl .i64 p.ns = true /\ p.ns.length <= 9223372036854775807 := by
 rw [spOk, hid_eq]; simp only [Bool.and_eq_true, decide_eq_true_eq]
def twA (n : Int) : AV := ⟨n % 3, IntKind.i64.wrap (n.tdiv 3) % 4⟩
def seA (p : SP) (l : List PV) : AV := bif decide (zi l.length > 0) && decide (p.by1 % 9 > 0) then av (l.getD (p.by1 % zi l.length).toNat .top) else twA p.by1
def seV (x : SX) : DV :=
 bif x.p.kd % 6 == 4 then ⟨(seA x.p x.s.l).d, (seA x.p x.s.l).u, x.id, x.s.ver, x.s.hash, 2, [], (twA x.p.who).d, (twA x.p.who).u⟩
 else bif x.p.kd % 6 == 5 then ⟨(seA x.p x.s.l).d, (seA x.p x.s.l).u, x.id, x.s.ver, x.s.hash, 3, [], (twA x.p.who).d, (twA x.p.who).u⟩
 else ⟨(seA x.p x.s.l).d, (seA x.p x.s.l).u, x.id, x.s.ver, x.s.hash, 1, WG ⟨zi x.s.doc.size, x.p.ns⟩, 0, 0⟩
def enV (K : List PV) (s : SV) (d : DV) : EV := ⟨pu .u8 (dlB d), pu .u8 (mcK ⟨K, d.ad, dlB d⟩), s.ver, d.o⟩
def enW (K : List PV) (s : SV) (d : DV) : EW := ⟨pu .u8 (dlB d), pu .u8 (mcK ⟨K, d.ad, dlB d⟩), s.ver, d.o, pu .u8 (nxP ⟨s.hash, enV K s d⟩), pu .u8 (emP ⟨K, s.ih, enV K s d, pu .u8 (nxP ⟨s.hash, enV K s d⟩)⟩)⟩
def ewP (w : EW) : PV := .st 51 [.st 47 [.ro 5 false false w.b, .ar 37 w.m], .sc (.int .i64 w.at1), .ro 113 false false w.o, .ar 37 w.h, .ar 37 w.mc]
def seW (x : SX) : EW := enW x.K x.s (seV x)
def seB : SX -> List PV := hid fun x => (seW x).b
def seS : SX -> List PV := hid fun x => (seW x).m
def seO : SX -> List PV := hid fun x => (seW x).o
def seH : SX -> List PV := hid fun x => (seW x).h
def seM : SX -> List PV := hid fun x => (seW x).mc
theorem JgN (x : SX) : EW.mk (seB x) (seS x) x.s.ver (seO x) (seH x) (seM x) = seW x := by
 rw [seB, seS, seO, seH, seM, hid_eq, hid_eq, hid_eq, hid_eq, hid_eq]; rfl
theorem JuL {d u : Int} (h : inA [d, 2, u, 7] = true) : (0 <= d /\ d <= 2) /\ 0 <= u /\ u <= 7 := by
 rw [JjH] at h
 simp only [Ja2, Bool.and_eq_true, decide_eq_true_eq] at h
 omega
theorem JEC {p : SP} {l : List PV} (h : uOk l = true) : (0 <= (seA p l).d /\ (seA p l).d <= 2) /\ 0 <= (seA p l).u /\ (seA p l).u <= 7 := by
 unfold seA
 cases hc : (decide (zi l.length > 0) && decide (p.by1 % 9 > 0)) with
 | false =>
  obtain ⟨a, b⟩ := Yr p.by1 (m := 3) (by decide)
  obtain ⟨c, d⟩ := Yr (IntKind.i64.wrap (p.by1.tdiv 3)) (m := 4) (by decide)
  simp only [cond_false, twA]; omega
 | true =>
  rw [Bool.and_eq_true, decide_eq_true_eq] at hc
  have hz : zi l.length = (l.length : Int) := rfl
  obtain ⟨a, b⟩ := Yr p.by1 (m := zi l.length) (by omega)
  have hi : (p.by1 % zi l.length).toNat < l.length := by omega
  rw [cond_true, List.getD_eq_getElem?_getD, List.getElem?_eq_getElem hi]
  exact JuL (List.all_eq_true.1 h _ (List.getElem_mem hi))
theorem JuM {x : SX} (hs : sOk x.s = true) (hp : spOk x.p = true) : dOk (seV x) = true /\ (opB (seV x).o).length <= 400 /\ cBy (seV x).o = true /\ cOk (seV x).o = true /\ kIn (seV x).ad = true /\ (seV x).h = x.s.hash := by
 obtain ⟨s1, s2, s3, s4, s5, s6⟩ := Ys.1 hs
 obtain ⟨p1, p2⟩ := JfL.1 hp
 have ha := JEC (p := x.p) s6
 have hk : kIn (seA x.p x.s.l).d = true := by rw [Jfe]; simp only [Xy, Bool.and_eq_true, decide_eq_true_eq]; omega
 obtain ⟨h1, h2⟩ := h32_iff.1 s2
 have nil := Jix (done := 0) (by decide)
 have n1 := Jtv (ZG nil (by decide : (0 : Int) <= 14))
 have n2 := Jtw (ZG nil (by decide : (0 : Int) <= 14))
 have mk := Jtt (n := zi x.s.doc.size) x.p.ns (by simp only [zi]; omega) (by simp only [zi]; omega)
 have m1 := Jtv mk
 have m2 := Jtw mk
 have m3 : cOk (WG ⟨zi x.s.doc.size, x.p.ns⟩) = true := Yf.2 ⟨List.all_eq_true.2 mk.cp, by have := mk.len; omega⟩
 unfold seV
 cases x.p.kd % 6 == 4 with
 | true => exact ⟨Zf.2 ⟨h1, h2, n1, by show (opB []).length <= _; omega⟩, n2, n1, Yf.2 ⟨rfl, Nat.zero_le _⟩, hk, rfl⟩
 | false =>
  cases x.p.kd % 6 == 5 with
  | true => exact ⟨Zf.2 ⟨h1, h2, n1, by show (opB []).length <= _; omega⟩, n2, n1, Yf.2 ⟨rfl, Nat.zero_le _⟩, hk, rfl⟩
  | false => exact ⟨Zf.2 ⟨h1, h2, m1, by show (opB (WG ⟨zi x.s.doc.size, x.p.ns⟩)).length <= _; omega⟩, m2, m1, m3, hk, rfl⟩
theorem JuN {K : List PV} {s : SV} {d : DV} (h : dOk d = true) (h2 : (opB d.o).length <= 400) (h3 : cBy d.o = true) : eOk (enV K s d) = true :=
 Xd.2 ⟨JO _ _, by show (pu .u8 (dlB d)).length <= _; rw [JI, GF h]; omega, JO _ _, by show (pu .u8 (mcK ⟨K, d.ad, dlB d⟩)).length = 32; rw [JI]; exact Jm4 _, h3, by show (opB d.o).length <= _; omega⟩
theorem JnY {x : SX} (hs : sOk x.s = true) (hp : spOk x.p = true) (hb : byB x.s.hash = true) : eD (seW x) = true := by
 obtain ⟨v1, v2, v3, v4, v5, v6⟩ := JuM hs hp
 refine Jcs.2 ⟨JEB _ (by rw [v6]; exact hb), JuN v1 v2 v3, v4, h32_iff.2 ⟨JO _ _, ?_⟩⟩
 show (pu .u8 (nxP ⟨x.s.hash, enV x.K x.s (seV x)⟩)).length = 32
 rw [JI]; exact Zv _
def JnZ : Jz
 | [.st 69 [.sc (.int .i64 kd), .sc (.int .i64 by1), .sc (.int .i64 who), .ro 3 nz nf ns], .st 31 [.ro 5 z0 f0 k0, .ro 5 z1 f1 k1, .ro 5 z2 f2 k2], .st 58 [.st 34 [.sc (.int .i64 ih), .sc (.int .i64 iN)], .sc (.string doc), .ro 42 z f l, .sc (.int .i64 ver), .ar 37 hash], .sc (.int .i64 id1)], [], k =>
  bif (sOk ⟨ih, iN, doc, l, ver, hash⟩ && spOk ⟨kd, by1, who, ns⟩) && (kO3 [.ro 5 z0 f0 k0, .ro 5 z1 f1 k1, .ro 5 z2 f2 k2] && kIn ih) then
   k ⟨.st 51 [.st 47 [.ro 5 false false (seB ⟨⟨kd, by1, who, ns⟩, [.ro 5 z0 f0 k0, .ro 5 z1 f1 k1, .ro 5 z2 f2 k2], ⟨ih, iN, doc, l, ver, hash⟩, id1⟩), .ar 37 (seS ⟨⟨kd, by1, who, ns⟩, [.ro 5 z0 f0 k0, .ro 5 z1 f1 k1, .ro 5 z2 f2 k2], ⟨ih, iN, doc, l, ver, hash⟩, id1⟩)], .sc (.int .i64 ver), .ro 113 false false (seO ⟨⟨kd, by1, who, ns⟩, [.ro 5 z0 f0 k0, .ro 5 z1 f1 k1, .ro 5 z2 f2 k2], ⟨ih, iN, doc, l, ver, hash⟩, id1⟩), .ar 37 (seH ⟨⟨kd, by1, who, ns⟩, [.ro 5 z0 f0 k0, .ro 5 z1 f1 k1, .ro 5 z2 f2 k2], ⟨ih, iN, doc, l, ver, hash⟩, id1⟩), .ar 37 (seM ⟨⟨kd, by1, who, ns⟩, [.ro 5 z0 f0 k0, .ro 5 z1 f1 k1, .ro 5 z2 f2 k2], ⟨ih, iN, doc, l, ver, hash⟩, id1⟩)], [], []⟩ else none
 | _, _, _ => none
def JLj : Sig := { own := [], run := JnZ }
theorem JED (p : SP) (s : SV) (id1 : Int) (nz nf z0 f0 : Bool) (k0 : List PV) (z1 f1 : Bool) (k1 : List PV) (z2 f2 : Bool) (k2 : List PV) (z f : Bool) (hs : sOk s = true) (hp : spOk p = true) (hK : kO3 [.ro 5 z0 f0 k0, .ro 5 z1 f1 k1, .ro 5 z2 f2 k2] = true) (hi : kIn s.ih = true) (k : KR) :
  g23 0 p.kd p.by1 p.who nz nf p.ns z0 f0 k0 z1 f1 k1 z2 f2 k2 s.ih s.iN s.doc z f s.l s.ver s.hash id1 k = k ⟨ewP (seW ⟨p, [.ro 5 z0 f0 k0, .ro 5 z1 f1 k1, .ro 5 z2 f2 k2], s, id1⟩), [], []⟩ := by
 unfold g23 JbZ JbY JiZ JiY JnX JfK V3 JcD JcC JcB Jad JcA Jac Jcz ZC QH
 generalize [PV.ro 5 z0 f0 k0, .ro 5 z1 f1 k1, .ro 5 z2 f2 k2] = K at *
 obtain ⟨s1, s2, s3, s4, s5, s6⟩ := Ys.1 hs
 obtain ⟨p1, p2⟩ := JfL.1 hp
 obtain ⟨v1, v2, v3, v4, v5, v6⟩ := JuM (x := ⟨p, K, s, id1⟩) hs hp
 have he := JuN (K := K) (s := s) v1 v2 v3
 have w : ∀ n : Int, 0 < n -> n < 1000000000000 -> okW n = true := fun n h h2 => JzI h h2
 have T : ∀ d : DV, seV ⟨p, K, s, id1⟩ = d -> (bif dOk d && (kO3 K && kIn d.ad) then bif kIn s.ih && eOk (enV K s d) && (h32 s.hash && kO3 K) then k ⟨ewP (enW K s d), [], []⟩ else none else none) = k ⟨ewP (seW ⟨p, K, s, id1⟩), [], []⟩ := fun d hd => by
  subst hd
  exact (Ja (by rw [v1, hK, v5]; rfl)).trans (Ja (by rw [hi, he, s2, hK]; rfl))
 have hns : Jiw (zi s.doc.size) p.ns = true := Jkd.2 ⟨by simp only [zi]; omega, by simp only [zi]; omega, p1, p2⟩
 have M : ∀ a : AV, seA p s.l = a -> (bif okW 6 then bif p.kd % 6 == 4 then bif okW 3 then bif okW 4 then bif dOk ⟨a.d, a.u, id1, s.ver, s.hash, 2, [], p.who % 3, IntKind.i64.wrap (p.who.tdiv 3) % 4⟩ && (kO3 K && kIn a.d) then bif kIn s.ih && eOk (enV K s ⟨a.d, a.u, id1, s.ver, s.hash, 2, [], p.who % 3, IntKind.i64.wrap (p.who.tdiv 3) % 4⟩) && (h32 s.hash && kO3 K) then k ⟨ewP (enW K s ⟨a.d, a.u, id1, s.ver, s.hash, 2, [], p.who % 3, IntKind.i64.wrap (p.who.tdiv 3) % 4⟩), [], []⟩ else none else none else none else none
   else bif p.kd % 6 == 5 then bif okW 3 then bif okW 4 then bif dOk ⟨a.d, a.u, id1, s.ver, s.hash, 3, [], p.who % 3, IntKind.i64.wrap (p.who.tdiv 3) % 4⟩ && (kO3 K && kIn a.d) then bif kIn s.ih && eOk (enV K s ⟨a.d, a.u, id1, s.ver, s.hash, 3, [], p.who % 3, IntKind.i64.wrap (p.who.tdiv 3) % 4⟩) && (h32 s.hash && kO3 K) then k ⟨ewP (enW K s ⟨a.d, a.u, id1, s.ver, s.hash, 3, [], p.who % 3, IntKind.i64.wrap (p.who.tdiv 3) % 4⟩), [], []⟩ else none else none else none else none
   else bif Jiw (zi s.doc.size) p.ns then bif dOk ⟨a.d, a.u, id1, s.ver, s.hash, 1, WG ⟨zi s.doc.size, p.ns⟩, 0, 0⟩ && (kO3 K && kIn a.d) then bif kIn s.ih && eOk (enV K s ⟨a.d, a.u, id1, s.ver, s.hash, 1, WG ⟨zi s.doc.size, p.ns⟩, 0, 0⟩) && (h32 s.hash && kO3 K) then k ⟨ewP (enW K s ⟨a.d, a.u, id1, s.ver, s.hash, 1, WG ⟨zi s.doc.size, p.ns⟩, 0, 0⟩), [], []⟩ else none else none else none else none) = k ⟨ewP (seW ⟨p, K, s, id1⟩), [], []⟩ := fun a ha => by
  refine (Ja (w _ (by decide) (by decide))).trans ?_
  cases h4 : (p.kd % 6 == 4) with
  | true =>
   refine (Ja rfl).trans ((Ja (w _ (by decide) (by decide))).trans ((Ja (w _ (by decide) (by decide))).trans (T _ ?_)))
   unfold seV; rw [ha]; exact Ja h4
  | false =>
   refine (Jd rfl).trans ?_
   cases h5 : (p.kd % 6 == 5) with
   | true =>
    refine (Ja rfl).trans ((Ja (w _ (by decide) (by decide))).trans ((Ja (w _ (by decide) (by decide))).trans (T _ ?_)))
    unfold seV; rw [ha]; exact (Jd h4).trans (Ja h5)
   | false =>
    refine (Jd rfl).trans ((Ja hns).trans (T _ ?_))
    unfold seV; rw [ha]; exact (Jd h4).trans (Jd h5)
 refine (Ja (w _ (by decide) (by decide))).trans ((Ja (w _ (by decide) (by decide))).trans ?_)
 have hz : zi s.l.length = (s.l.length : Int) := rfl
 obtain ⟨q1, q2, q3⟩ := QF.1 s1
 cases h1 : decide (zi s.l.length > 0) with
 | false => exact (Jd rfl).trans (M (twA p.by1) (by unfold seA; rw [h1]; rfl))
 | true =>
  have h1' := of_decide_eq_true h1
  refine (Ja rfl).trans ((Ja (w _ (by decide) (by decide))).trans ?_)
  cases h2 : decide (p.by1 % 9 > 0) with
  | false => exact (Jd rfl).trans (M (twA p.by1) (by unfold seA; rw [h1, h2]; rfl))
  | true =>
   obtain ⟨m1, m2⟩ := Yr p.by1 (m := zi s.l.length) h1'
   have hidx : (p.by1 % zi s.l.length).toNat < s.l.length := by omega
   have hc := Wm (Wn q1 hidx)
   unfold Zg at hc
   refine (Ja rfl).trans ((Ja (w _ h1' (by omega))).trans ((Ja (by rw [hc, decide_eq_true m1, decide_eq_true m2]; rfl)).trans ?_))
   exact M (av (s.l.getD (p.by1 % zi s.l.length).toNat .top)) (by unfold seA; rw [h1, h2]; rfl)
theorem JLk : Jc tau Try.prog 23 JLj := JO1.of fun xs es k res hr => by
 change JnZ xs es k = some res at hr
 unfold JnZ at hr
 split at hr
 · rename_i kd by1 who nz nf ns z0 f0 k0 z1 f1 k1 z2 f2 k2 ih iN doc z f l ver hash id1
   obtain ⟨hc, hr⟩ := Jv hr
   simp only [Bool.and_eq_true] at hc
   obtain ⟨⟨c1, c2⟩, c3, c4⟩ := hc
   refine (JED ⟨kd, by1, who, ns⟩ ⟨ih, iN, doc, l, ver, hash⟩ id1 nz nf z0 f0 k0 z1 f1 k1 z2 f2 k2 z f c1 c2 c3 c4 k).trans (Eq.trans ?_ hr)
   rw [← JgN]; rfl
 · cases hr
end
end Go.Proofs.Ythpmachmnoljeaa.Rx
