/- What the functions of this law compute, and their plain laws. Conditions: none. -/
import Derived.Test.YtcklhipdldpkhaaSignOpensP2
namespace Go.Proofs.Ytcklhipdldpkhaa.Rx
open Go
set_option linter.unusedVariables false
set_option linter.unusedSimpArgs false
set_option maxRecDepth 100000
set_option maxHeartbeats 0
-- FN ref2.Sum
theorem Jlr (v : PV) : Jj v [] = v := rfl
theorem W6 {R : List Int} (h : R.length = 8) (j : Nat) (hj : j < 8) : (pu .u32 R).getD j .top = .sc (.int .u32 (R.getD j 0)) := YR (by omega)
theorem Jqc (f : Nat) (a b : Bool) (c x y w : List PV) (k0 : Bool → Bool → List PV → Nat → List PV → List PV → List PV → List PV → Option Res) : ∀ (d n : Nat) (L : List Int), zs L.length = d → d < n → L.length + d ≤ 140737488355200 →
    Vc f k0 n a b c L.length x y w (pu .u8 L) = k0 a b c (L.length + d) x y w (pu .u8 (L ++ List.replicate d 0))
  | 0, n + 1, L, hd, hn, hL => by
      simp only [Vc, V2, Jbh]
      refine (JK (by simp [zs] at hd ⊢; omega)).trans ?_
      simp
  | d + 1, n + 1, L, hd, hn, hL => by
      have hlt : d + 1 < 64 := by rw [← hd]; unfold zs; omega
      have c3 : Jn (L.length + 1) 1 = true := by simp [Jn]; omega
      simp only [Vc, V2, Jbh, c3, Bool.and_true, cond_true, Xc]
      refine (Jc (by simp [zs] at hd ⊢; omega)).trans ?_
      rw [List.take_of_length_le (Nat.le_refl _)]
      have := Jqc f a b c x y w k0 d n (L ++ [0]) (by simp [zs] at hd ⊢; omega) (by omega) (by simp; omega)
      simp only [List.length_append, List.length_cons, List.length_nil, Nat.zero_add, JZ] at this
      refine this.trans ?_
      rw [show L.length + 1 + d = L.length + (d + 1) from by omega, List.replicate_succ]
      simp
def Jn0 (N : Int) (i : Nat) : Int := IntKind.u8.wrap (JF .u64 N (56 - 8 * (i : Int)))
theorem Jqd (f : Nat) (N : Int) (x y w : List PV) (k0 : Nat → List PV → List PV → List PV → List PV → Option Res) (L : List Int) (hL : L.length ≤ 140737488355300) : ∀ (d i n : Nat), i + d = 8 → d < n →
    Vd f k0 n (L.length + i) N (7 - (i : Int)) x y w (pu .u8 (L ++ (List.range i).map (Jn0 N))) = k0 (L.length + 8) x y w (pu .u8 (L ++ (List.range 8).map (Jn0 N)))
  | 0, i, n + 1, h, hn => by
      obtain rfl : i = 8 := by omega
      simp only [Vd, V3]
      exact JK (by decide)
  | d + 1, i, n + 1, h, hn => by
      have h1 : IntKind.i64.wrap (7 - (i : Int) - 1) = 7 - ((i + 1 : Nat) : Int) := by rw [wrap_i64 (by omega) (by omega)]; omega
      have h8 : IntKind.u64.wrap (7 - (i : Int)) = 7 - (i : Int) := by rw [Qv]; omega
      have h9 : IntKind.u64.wrap (8 * (7 - (i : Int))) = 56 - 8 * (i : Int) := by rw [Qv]; omega
      have c1 : decide (7 - (i : Int) ≥ 0) = true := by simp; omega
      have c2 : decide (0 ≤ 56 - 8 * (i : Int)) = true := by simp; omega
      have c3 : Jn (L.length + i + 1) 1 = true := by simp [Jn]; omega
      have hlen : (L ++ (List.range i).map (Jn0 N)).length = L.length + i := by simp
      simp only [Vd, V3, h1, h8, h9, c1, c2, c3, Bool.and_true, cond_true, Xc]
      rw [List.take_of_length_le (by omega)]
      have := Jqd f N x y w k0 L hL d (i + 1) n (by omega) (by omega)
      rw [List.range_succ, List.map_append, ← List.append_assoc, JZ] at this
      exact this
theorem Jaz (P : List Int) (q j : Nat) (hj : j < 64) : ((P.drop (64 * q)).take 64).getD j 0 = P.getD (64 * q + j) 0 := by
  simp [List.getD_eq_getElem?_getD, hj, List.getElem?_drop]
theorem Jqe (P : List Int) (q : Nat) (hq : 64 * q + 64 ≤ P.length) (hP : P.length ≤ 140737488356000) (T : List Int) (hT : T.length = 64) (f : Nat) (x y w : List PV) (k0 : Nat → Int → List PV → List PV → List PV → List PV → List PV → Option Res) : ∀ (d i n : Nat), i + d = 16 → d < n →
    Ve f k0 n P.length ((64 * q : Nat) : Int) (i : Int) x y w (pu .u8 P) (pu .u32 (Qz (Jb1 ((P.drop (64 * q)).take 64)) T i)) = k0 P.length ((64 * q : Nat) : Int) x y w (pu .u8 P) (pu .u32 (Qz (Jb1 ((P.drop (64 * q)).take 64)) T 16))
  | 0, i, n + 1, h, hn => by
      obtain rfl : i = 16 := by omega
      simp only [Ve, V4]
      exact JK (by decide)
  | d + 1, i, n + 1, h, hn => by
      have h4 : IntKind.i64.wrap (4 * (i : Int)) = ((4 * i : Nat) : Int) := by rw [wrap_i64 (by omega) (by omega)]; omega
      have h40 : IntKind.i64.wrap (((64 * q : Nat) : Int) + ((4 * i : Nat) : Int)) = ((64 * q + 4 * i : Nat) : Int) := by rw [wrap_i64 (by omega) (by omega)]; omega
      have h41 : IntKind.i64.wrap (((64 * q + 4 * i : Nat) : Int) + 1) = ((64 * q + (4 * i + 1) : Nat) : Int) := by rw [wrap_i64 (by omega) (by omega)]; omega
      have h42 : IntKind.i64.wrap (((64 * q + 4 * i : Nat) : Int) + 2) = ((64 * q + (4 * i + 2) : Nat) : Int) := by rw [wrap_i64 (by omega) (by omega)]; omega
      have h43 : IntKind.i64.wrap (((64 * q + 4 * i : Nat) : Int) + 3) = ((64 * q + (4 * i + 3) : Nat) : Int) := by rw [wrap_i64 (by omega) (by omega)]; omega
      have h5 : IntKind.i64.wrap ((i : Int) + 1) = ((i + 1 : Nat) : Int) := by rw [wrap_i64 (by omega) (by omega)]; omega
      simp only [Ve, V4, h4, h40, h41, h42, h43, h5, Int.toNat_natCast, Nat.zero_add, Jlr, zi]
      rw [JV (by omega), JV (by omega), JV (by omega), JV (by omega), Qn (by omega), Qn (by omega), Qn (by omega), Qn (by omega), Wm]
      refine (Jc (by simp; omega)).trans ?_
      refine (Jc (by simp only [Bool.and_true, Bool.and_eq_true, decide_eq_true_eq]; omega)).trans ?_
      refine (Jc rfl).trans ?_
      refine (Jc (by simp only [Bool.and_true, Bool.and_eq_true, decide_eq_true_eq]; omega)).trans ?_
      refine (Jc rfl).trans ?_
      refine (Jc (by simp only [Bool.and_true, Bool.and_eq_true, decide_eq_true_eq]; omega)).trans ?_
      refine (Jc rfl).trans ?_
      refine (Jc (by simp only [Bool.and_true, Bool.and_eq_true, decide_eq_true_eq]; omega)).trans ?_
      refine (Jc rfl).trans ?_
      refine (Jc (by simp only [Bool.and_true, Bool.and_eq_true, decide_eq_true_eq]; omega)).trans ?_
      have := Jqe P q hq hP T hT f x y w k0 d (i + 1) n (by omega) (by omega)
      rw [← Qs _ T i (by omega), Jb1, Jaz P q _ (by omega), Jaz P q _ (by omega), Jaz P q _ (by omega), Jaz P q _ (by omega)] at this
      exact this
def ZV (bs T : List Int) (i : Nat) : List Int := Qo bs i ++ T.drop (16 + i)
theorem JdU (bs T : List Int) (hT : T.length = 64) (i : Nat) (h : i ≤ 48) : (ZV bs T i).length = 64 := by simp [ZV, JW, hT]; omega
theorem ZJ (bs T : List Int) (i j : Nat) (h : j < 16 + i) : (ZV bs T i).getD j 0 = (Qo bs i).getD j 0 := by
  simp only [ZV, List.getD_eq_getElem?_getD]
  rw [List.getElem?_append_left (by rw [JW]; exact h)]
theorem JjU (bs T : List Int) (hT : T.length = 64) (i : Nat) (h : i < 48) (x : Int) : (ZV bs T i).set (i + 16) x = (Qo bs i ++ [x]) ++ T.drop (16 + (i + 1)) := by
  rw [ZV, List.set_append_right _ _ (by rw [JW]; omega), JW, List.drop_eq_getElem_cons (by omega), show i + 16 - (16 + i) = 0 from by omega, List.set_cons_zero]
  simp [Nat.add_assoc]
theorem Jn1 (w16 w15 w7 w2 : Int) : ww (ww (ww (sg1 w2 + w7) + sg0 w15) + w16) = Jnh w16 w15 w7 w2 := by
  simp only [Jnh, ww, JeU]; omega
theorem Jqf (bs T : List Int) (hT : T.length = 64) (f : Nat) (l : Nat) (p : Int) (x y w e : List PV) (k0 : Nat → Int → List PV → List PV → List PV → List PV → List PV → Option Res) : ∀ (d i n : Nat), i + d = 48 → d < n →
    Vf f k0 n l p ((i + 16 : Nat) : Int) x y w e (pu .u32 (ZV bs T i)) = k0 l p x y w e (pu .u32 (Qh bs))
  | 0, i, n + 1, h, hn => by
      obtain rfl : i = 48 := by omega
      simp only [Vf, V5]
      refine (JK (by decide)).trans ?_
      rw [ZV, List.drop_of_length_le (by omega), List.append_nil]; rfl
  | d + 1, i, n + 1, h, hn => by
      have h15 : IntKind.i64.wrap (((i + 16 : Nat) : Int) - 15) = ((i + 1 : Nat) : Int) := by rw [wrap_i64 (by omega) (by omega)]; omega
      have h2 : IntKind.i64.wrap (((i + 16 : Nat) : Int) - 2) = ((i + 14 : Nat) : Int) := by rw [wrap_i64 (by omega) (by omega)]; omega
      have h16 : IntKind.i64.wrap (((i + 16 : Nat) : Int) - 16) = ((i : Nat) : Int) := by rw [wrap_i64 (by omega) (by omega)]; omega
      have h7 : IntKind.i64.wrap (((i + 16 : Nat) : Int) - 7) = ((i + 9 : Nat) : Int) := by rw [wrap_i64 (by omega) (by omega)]; omega
      have h1 : IntKind.i64.wrap (((i + 16 : Nat) : Int) + 1) = ((i + 1 + 16 : Nat) : Int) := by rw [wrap_i64 (by omega) (by omega)]; omega
      have hl := JdU bs T hT i (by omega)
      simp only [Vf, V5, h15, h2, h16, h7, h1, Int.toNat_natCast, zi, WE]
      rw [JV (by omega), JV (by omega), JV (by omega), JV (by omega), Qn (by omega), Qn (by omega), Qn (by omega), Qn (by omega), Wm]
      refine (Jc (by simp; omega)).trans ?_
      refine (Jc (by simp; omega)).trans ?_
      refine (Jc rfl).trans ?_
      refine (Jc (by simp; omega)).trans ?_
      refine (Jc rfl).trans ?_
      refine (Jc (by simp; omega)).trans ?_
      refine (Jc rfl).trans ?_
      refine (Jc (by simp; omega)).trans ?_
      refine (Jc rfl).trans ?_
      refine (Jc (by simp; omega)).trans ?_
      have := Jqf bs T hT f l p x y w e k0 d (i + 1) n (by omega) (by omega)
      rw [ZJ bs T i i (by omega), ZJ bs T i (i + 1) (by omega), ZJ bs T i (i + 9) (by omega), ZJ bs T i (i + 14) (by omega), JjU bs T hT i (by omega)]
      have hn := Jn1 ((Qo bs i).getD i 0) ((Qo bs i).getD (i + 1) 0) ((Qo bs i).getD (i + 9) 0) ((Qo bs i).getD (i + 14) 0)
      rw [ZV, Qo, ← hn] at this
      exact this
theorem Jqg (W s : List Int) (hW : W.length = 64) (hs : s.length = 8) (f : Nat) (l : Nat) (p : Int) (x w e : List PV) (k0 : Nat → Int → List PV → List PV → List PV → List PV → List PV → List PV → Option Res) : ∀ (d i n : Nat), i + d = 64 → d < n →
    Vg f k0 n l p (i : Int) x (pu .u32 kks) w e (pu .u32 W) (pu .u32 (YZ W s i)) = k0 l p x (pu .u32 kks) w e (pu .u32 W) (pu .u32 (YZ W s 64))
  | 0, i, n + 1, h, hn => by
      obtain rfl : i = 64 := by omega
      simp only [Vg, V6]
      exact JK (by decide)
  | d + 1, i, n + 1, h, hn => by
      have hl := Xj W s hs i
      have h1 : IntKind.i64.wrap ((i : Int) + 1) = ((i + 1 : Nat) : Int) := by rw [wrap_i64 (by omega) (by omega)]; omega
      have hk : (pu .u32 kks).getD i .top = .sc (.int .u32 (kks.getD i 0)) := YR (by show i < 64; omega)
      have hw : (pu .u32 W).getD i .top = .sc (.int .u32 (W.getD i 0)) := YR (by omega)
      have c1 : decide ((i : Int) < 64) = true := by simp; omega
      have c2 : decide (0 ≤ (i : Int)) = true := by simp
      have c3 : decide ((i : Int) < zi 64) = true := by simp; omega
      simp only [Vg, V6, WE, Int.toNat_natCast, h1, hk, hw, c1, c2, c3, W6 hl 0 (by omega), W6 hl 1 (by omega), W6 hl 2 (by omega), W6 hl 3 (by omega), W6 hl 4 (by omega), W6 hl 5 (by omega), W6 hl 6 (by omega), W6 hl 7 (by omega), PV.isInt, PV.int, decide_true, Bool.and_true, cond_true]
      exact Jqg W s hW hs f l p x w e k0 d (i + 1) n (by omega) (by omega)
theorem Jqh (t s : List Int) (ht : t.length = 8) (hs : s.length = 8) (f : Nat) (l : Nat) (p : Int) (x y e u : List PV) (k0 : Nat → Int → List PV → List PV → List PV → List PV → List PV → Option Res) : ∀ (d i n : Nat), i + d = 8 → d < n →
    Vh f k0 n l p (i : Int) x y (pu .u32 (Qz (fun j => ww (t.getD j 0 + s.getD j 0)) s i)) e u (pu .u32 t) = k0 l p x y (pu .u32 ((List.range 8).map fun j => ww (t.getD j 0 + s.getD j 0))) e u
  | 0, i, n + 1, h, hn => by
      obtain rfl : i = 8 := by omega
      simp only [Vh, V7]
      refine (JK (by decide)).trans ?_
      have := Q0 (fun j => ww (t.getD j 0 + s.getD j 0)) s
      rw [hs] at this; rw [this]
  | d + 1, i, n + 1, h, hn => by
      have hl : (Qz (fun j => ww (t.getD j 0 + s.getD j 0)) s i).length = 8 := by rw [X6 _ _ _ (by omega), hs]
      have h1 : IntKind.i64.wrap ((i : Int) + 1) = ((i + 1 : Nat) : Int) := by rw [wrap_i64 (by omega) (by omega)]; omega
      have c1 : decide ((i : Int) < 8) = true := by simp; omega
      have c2 : decide (0 ≤ (i : Int)) = true := by simp
      have c3 : decide ((i : Int) < zi 8) = true := by simp; omega
      have g1 : ((i : Int)).toNat = i := by omega
      simp only [Vh, V7, WE, g1, h1, c1, c2, c3, W6 hl i (by omega), W6 ht i (by omega), GB _ s i (by omega), PV.isInt, PV.int, decide_true, Bool.and_true, cond_true, Wm]
      have := Jqh t s ht hs f l p x y e u k0 d (i + 1) n (by omega) (by omega)
      rw [← Qs _ s i (by omega), Int.add_comm (t.getD i 0)] at this
      exact this
theorem Jww (s : List Int) (i : Nat) : YC s (4 * i) = IntKind.u8.wrap (JF .u32 (s.getD i 0) 24) := by
  rw [YC, show 4 * i / 4 = i from by omega, show 4 * i % 4 = 0 from by omega]; rfl
theorem Jwx (s : List Int) (i : Nat) : YC s (4 * i + 1) = IntKind.u8.wrap (JF .u32 (s.getD i 0) 16) := by
  rw [YC, show (4 * i + 1) / 4 = i from by omega, show (4 * i + 1) % 4 = 1 from by omega]; rfl
theorem Jwy (s : List Int) (i : Nat) : YC s (4 * i + 2) = IntKind.u8.wrap (JF .u32 (s.getD i 0) 8) := by
  rw [YC, show (4 * i + 2) / 4 = i from by omega, show (4 * i + 2) % 4 = 2 from by omega]; rfl
theorem Jwz (s : List Int) (i : Nat) : YC s (4 * i + 3) = IntKind.u8.wrap (s.getD i 0) := by
  rw [YC, show (4 * i + 3) / 4 = i from by omega, show (4 * i + 3) % 4 = 3 from by omega]
  have : JF .u32 (s.getD i 0) (24 - 8 * ((3 : Nat) : Int)) = s.getD i 0 := by
    have h0 : (24 - 8 * ((3 : Nat) : Int)) = 0 := by decide
    rw [h0]; simp [JF]
  rw [this]
theorem Jqi (s : List Int) (hs : s.length = 8) (f : Nat) (k0 : List PV → List PV → Option Res) (a : List PV) (t : List Int) (ht : t.length = 32) : ∀ (d i n : Nat), i + d = 8 → d < n →
    Vj f k0 n (i : Int) a (pu .u32 s) (pu .u8 (Qz (YC s) t (4 * i))) = k0 a (pu .u8 (JjQ s))
  | 0, i, n + 1, h, hn => by
      obtain rfl : i = 8 := by omega
      simp only [Vj, V9]
      refine (JK (by decide)).trans ?_
      have := Q0 (YC s) t
      rw [ht] at this; rw [show 4 * 8 = 32 from rfl, this]; rfl
  | d + 1, i, n + 1, h, hn => by
      have h1 : IntKind.i64.wrap ((i : Int) + 1) = ((i + 1 : Nat) : Int) := by rw [wrap_i64 (by omega) (by omega)]; omega
      have h4 : IntKind.i64.wrap (4 * (i : Int)) = ((4 * i : Nat) : Int) := by rw [wrap_i64 (by omega) (by omega)]; omega
      have h41 : IntKind.i64.wrap (((4 * i : Nat) : Int) + 1) = ((4 * i + 1 : Nat) : Int) := by rw [wrap_i64 (by omega) (by omega)]; omega
      have h42 : IntKind.i64.wrap (((4 * i : Nat) : Int) + 2) = ((4 * i + 2 : Nat) : Int) := by rw [wrap_i64 (by omega) (by omega)]; omega
      have h43 : IntKind.i64.wrap (((4 * i : Nat) : Int) + 3) = ((4 * i + 3 : Nat) : Int) := by rw [wrap_i64 (by omega) (by omega)]; omega
      have c1 : decide ((i : Int) < 8) = true := by simp; omega
      have c2 : decide (0 ≤ (i : Int)) = true := by simp
      have c3 : decide ((i : Int) < zi 8) = true := by simp; omega
      have b0 : (decide (0 ≤ ((4 * i : Nat) : Int)) && decide (((4 * i : Nat) : Int) < zi 32) && true) = true := by simp; omega
      have b1 : (decide (0 ≤ ((4 * i + 1 : Nat) : Int)) && decide (((4 * i + 1 : Nat) : Int) < zi 32) && true) = true := by simp; omega
      have b2 : (decide (0 ≤ ((4 * i + 2 : Nat) : Int)) && decide (((4 * i + 2 : Nat) : Int) < zi 32) && true) = true := by simp; omega
      have b3 : (decide (0 ≤ ((4 * i + 3 : Nat) : Int)) && decide (((4 * i + 3 : Nat) : Int) < zi 32) && true) = true := by simp; omega
      have g1 : ((i : Int)).toNat = i := by omega
      have g2 : (((4 * i : Nat) : Int)).toNat = 4 * i := by omega
      have g3 : (((4 * i + 1 : Nat) : Int)).toNat = 4 * i + 1 := by omega
      have g4 : (((4 * i + 2 : Nat) : Int)).toNat = 4 * i + 2 := by omega
      have g5 : (((4 * i + 3 : Nat) : Int)).toNat = 4 * i + 3 := by omega
      simp only [Vj, V9, h1, h4, h41, h42, h43, b0, b1, b2, b3, g1, g2, g3, g4, g5, WE, c1, c2, c3, W6 hs i (by omega), PV.isInt, PV.int, decide_true, Bool.and_true, cond_true, Wm]
      have := Jqi s hs f k0 a t ht d (i + 1) n (by omega) (by omega)
      rw [show 4 * (i + 1) = 4 * i + 3 + 1 from by omega, ← Qs (YC s) t (4 * i + 3) (by omega), ← Qs (YC s) t (4 * i + 2) (by omega), ← Qs (YC s) t (4 * i + 1) (by omega), ← Qs (YC s) t (4 * i) (by omega), Jww, Jwx, Jwy, Jwz] at this
      exact this
theorem Jqj (P : List Int) (m : Nat) (hP : P.length = 64 * m) (hb : P.length ≤ 140737488356000) (f : Nat) (hf : 100 ≤ f) (x : List PV) (k0 : List PV → List PV → Option Res) : ∀ (d i n : Nat) (T : List Int), i + d = m → d < n → T.length = 64 →
    Vi f k0 n P.length ((64 * i : Nat) : Int) x (pu .u32 kks) (pu .u32 (Wd iv P i)) (pu .u8 P) (pu .u32 T) = k0 x (pu .u32 (Wd iv P m))
  | 0, i, n + 1, T, h, hn, hT => by
      obtain rfl : i = m := by omega
      simp only [Vi, V8]
      exact JK (by simp [zi]; omega)
  | d + 1, i, n + 1, T, h, hn, hT => by
      have hfl := WJ iv P rfl i
      simp only [Vi, V8]
      refine (Jc (by simp [zi]; omega)).trans ?_
      have e3 := fun kk => Jqe P i (by omega) hb T hT f x (pu .u32 kks) (pu .u32 (Wd iv P i)) kk 16 0 f (by omega) (by omega)
      have e4 := fun kk => Jqf ((P.drop (64 * i)).take 64) T hT f P.length ((64 * i : Nat) : Int) x (pu .u32 kks) (pu .u32 (Wd iv P i)) (pu .u8 P) kk 48 0 f (by omega) (by omega)
      have hW : (Qh ((P.drop (64 * i)).take 64)).length = 64 := JW _ 48
      have e5 := fun kk => Jqg (Qh ((P.drop (64 * i)).take 64)) (Wd iv P i) hW hfl f P.length ((64 * i : Nat) : Int) x (pu .u32 (Wd iv P i)) (pu .u8 P) kk 64 0 f (by omega) (by omega)
      have e6 := fun kk => Jqh (YZ (Qh ((P.drop (64 * i)).take 64)) (Wd iv P i) 64) (Wd iv P i) (Xj _ _ hfl 64) hfl f P.length ((64 * i : Nat) : Int) x (pu .u32 kks) (pu .u8 P) (pu .u32 (Qh ((P.drop (64 * i)).take 64))) kk 8 0 f (by omega) (by omega)
      have h0 : Qz (Jb1 ((P.drop (64 * i)).take 64)) T 16 = ZV ((P.drop (64 * i)).take 64) T 0 := rfl
      rw [QF] at e6
      simp only [QF] at e3
      refine (e3 _).trans ?_
      rw [h0]
      refine (e4 _).trans ?_
      refine (e5 _).trans ?_
      refine (e6 _).trans ?_
      have h1 : IntKind.i64.wrap (((64 * i : Nat) : Int) + 64) = ((64 * (i + 1) : Nat) : Int) := by rw [wrap_i64 (by omega) (by omega)]; omega
      rw [h1]
      exact Jqj P m hP hb f hf x k0 d (i + 1) n (Qh ((P.drop (64 * i)).take 64)) (by omega) (by omega) hW
theorem JsB (bs : List Int) (hb : bs.length ≤ 140737488355000) (nl fl : Bool) (k : Res → Option Res) : g28 ((QA bs).length / 64 + 100) nl fl (pu .u8 bs) k = k ⟨.ar 37 (pu .u8 (JA bs)), [], []⟩ := by
  rw [Jaw]
  have hlen : (QA bs).length = bs.length + 1 + zs (bs.length + 1) + 8 := by simp [QA, Jnj]; omega
  have hz : zs (bs.length + 1) < 64 := by unfold zs; omega
  have h64 : (QA bs).length = 64 * ((QA bs).length / 64) := G9 bs
  generalize hf : (QA bs).length / 64 + 100 = f
  refine (Jc (by simp [Jn]; omega)).trans ?_
  refine (Jc (by simp [Jn]; omega)).trans ?_
  have hL : List.take (0 + (pu .u8 bs).length) ([] ++ pu .u8 bs) ++ [PV.sc (Value.int IntKind.u8 128)] = pu .u8 (bs ++ [128]) := by
    rw [List.take_of_length_le (by simp)]; simp
  rw [hL]
  have e0 := fun kk x y w => Jqc f nl fl (pu .u8 bs) x y w kk (zs (bs.length + 1)) f (bs ++ [128]) (by simp) (by omega) (by simp; omega)
  simp only [List.length_append, List.length_cons, List.length_nil, Nat.zero_add] at e0
  have hl1 : 0 + (pu .u8 bs).length + 1 = bs.length + 1 := by simp
  rw [hl1]
  refine (e0 _ _ _ _).trans ?_
  have e1 := fun kk x y w => Jqd f (IntKind.u64.wrap (IntKind.u64.wrap (zi (pu .u8 bs).length) * 8)) x y w kk (bs ++ [128] ++ List.replicate (zs (bs.length + 1)) 0) (by simp; omega) 8 0 f (by omega) (by omega)
  have hl2 : (bs ++ [128] ++ List.replicate (zs (bs.length + 1)) 0).length = bs.length + 1 + zs (bs.length + 1) := by simp; omega
  rw [hl2] at e1
  simp only [List.range_zero, List.map_nil, List.append_nil, Nat.add_zero] at e1
  refine (e1 _ _ _ _).trans ?_
  have hPd : bs ++ [128] ++ List.replicate (zs (bs.length + 1)) 0 ++ (List.range 8).map (Jn0 (IntKind.u64.wrap (IntKind.u64.wrap (zi (pu .u8 bs).length) * 8))) = QA bs := by
    rw [JO]; rfl
  rw [hPd, ← hlen]
  have e2 := fun kk x => Jqj (QA bs) ((QA bs).length / 64) h64 (by omega) f (by omega) x kk ((QA bs).length / 64) 0 f (List.replicate 64 0) (by omega) (by omega) (by simp)
  refine (e2 _ _).trans ?_
  have hfl := WJ iv (QA bs) rfl ((QA bs).length / 64)
  have e7 := fun kk a => Jqi (Wd iv (QA bs) ((QA bs).length / 64)) hfl f kk a (List.replicate 32 0) (by simp) 8 0 f (by omega) (by omega)
  simp only [Nat.mul_zero, QF] at e7
  exact e7 _ _
def Jg7 : List PV → List Ent → (Res → Option Res) → Option Res
  | [.ro 5 nl fl b], [], k => bif Jh .u8 b && decide (b.length ≤ 140737488355000) then k ⟨.ar 37 (pu .u8 (JA (Jd b))), [], []⟩ else none
  | _, _, _ => none
def JwA : Sig := { own := [], run := Jg7 }
theorem JwB : Ji tau Try.prog 28 JwA := Jgw Jr Yg Js Jwu Jwv (fun n => JnR (Jbv n) (Jbw n) (Jbx n) (Jby n)) [] 0 [] Jg7 (fun n => JAl n) fun xs es k res hr => by
  unfold Jg7 at hr
  split at hr
  · rename_i nl fl l
    obtain ⟨hc, hr⟩ := JL hr
    simp only [Bool.and_eq_true, decide_eq_true_eq] at hc
    refine ⟨rfl, (QA (Jd l)).length / 64 + 100, 0, (e28 _ _ _ _ _).trans ?_⟩
    have he := Qb hc.1
    have := JsB (Jd l) (by simpa using hc.2) nl fl k
    rw [← he] at this
    rw [this]; exact hr
  · cases hr
noncomputable abbrev z36 : List PV := [PV.sc (.int .u8 0), PV.sc (.int .u8 0), PV.sc (.int .u8 0), PV.sc (.int .u8 0), PV.sc (.int .u8 0), PV.sc (.int .u8 0), PV.sc (.int .u8 0), PV.sc (.int .u8 0), PV.sc (.int .u8 0), PV.sc (.int .u8 0), PV.sc (.int .u8 0), PV.sc (.int .u8 0), PV.sc (.int .u8 0), PV.sc (.int .u8 0), PV.sc (.int .u8 0), PV.sc (.int .u8 0), PV.sc (.int .u8 0), PV.sc (.int .u8 0), PV.sc (.int .u8 0), PV.sc (.int .u8 0), PV.sc (.int .u8 0), PV.sc (.int .u8 0), PV.sc (.int .u8 0), PV.sc (.int .u8 0), PV.sc (.int .u8 0), PV.sc (.int .u8 0), PV.sc (.int .u8 0), PV.sc (.int .u8 0), PV.sc (.int .u8 0), PV.sc (.int .u8 0), PV.sc (.int .u8 0), PV.sc (.int .u8 0), PV.sc (.int .u8 0), PV.sc (.int .u8 0), PV.sc (.int .u8 0), PV.sc (.int .u8 0), PV.sc (.int .u8 0), PV.sc (.int .u8 0), PV.sc (.int .u8 0), PV.sc (.int .u8 0), PV.sc (.int .u8 0), PV.sc (.int .u8 0), PV.sc (.int .u8 0), PV.sc (.int .u8 0), PV.sc (.int .u8 0), PV.sc (.int .u8 0), PV.sc (.int .u8 0), PV.sc (.int .u8 0), PV.sc (.int .u8 0), PV.sc (.int .u8 0), PV.sc (.int .u8 0), PV.sc (.int .u8 0), PV.sc (.int .u8 0), PV.sc (.int .u8 0), PV.sc (.int .u8 0), PV.sc (.int .u8 0), PV.sc (.int .u8 0), PV.sc (.int .u8 0), PV.sc (.int .u8 0), PV.sc (.int .u8 0), PV.sc (.int .u8 0), PV.sc (.int .u8 0), PV.sc (.int .u8 0), PV.sc (.int .u8 0)]
def N36 : Nat := 53
noncomputable def F36 : Fns := JD 28 JwA (F0)
theorem Jls : Jz tau Try.prog F36 := (JG).add JwB JAm
noncomputable def JcX : Code := QB (Try.f36.body.get!) [1, 1, 1, 1, 0, 1, 0, 0]
def Yp : Nm := [(1, .any), (4, .any), (5, .any), (7, .any), (8, .any), (9, .any)]
def Zp : Nm := [(1, .any), (4, .any), (7, .any), (8, .any)]
def Jfy : An := (.seq (.seq .leaf (.cond .leaf .leaf)) (.seq (.block none .leaf) .leaf))
def Jn2 (r0 : QZ) : An := (.seq .leaf (.seq .leaf (.seq (.seq .leaf (.cond (.seq .leaf .leaf) .leaf)) (.seq .leaf (.seq (.seq .leaf (.block none (.sum Yp N36 r0))) (.seq .leaf (.seq .leaf .leaf)))))))
noncomputable def Ga (f : Nat) (rc : Bool → Bool → List PV → Int → List PV → List PV → List PV → List PV → Option Res) (k0 : Bool → Bool → List PV → List PV → List PV → List PV → Option Res) (v0 : Bool) (v1 : Bool) (v2 : List PV) (v3 : Int) (v4 : List PV) (v5 : List PV) (v6 : List PV) (v7 : List PV) : Option Res := bif decide (v3 < 64) then bif decide (0 ≤ v3) && decide (v3 < zi 64) && true then bif PV.isInt IntKind.u8 (Jj (v5.getD (0 + v3.toNat) PV.top) []) && true then bif decide (0 ≤ v3) && decide (v3 < zi 64) && true then bif PV.isInt IntKind.u8 (Jj (v5.getD (0 + v3.toNat) PV.top) []) && true then bif decide (0 ≤ v3) && decide (v3 < zi 64) && true then bif decide (0 ≤ v3) && decide (v3 < zi 64) && true then rc v0 v1 v2 (IntKind.i64.wrap (v3 + 1)) v4 v5 (v6.set (0 + v3.toNat) (.sc (.int .u8 (JC BinOp.xor IntKind.u8 (Jj (v5.getD (0 + v3.toNat) PV.top) []).int 54)))) (v7.set (0 + v3.toNat) (.sc (.int .u8 (JC BinOp.xor IntKind.u8 (Jj (v5.getD (0 + v3.toNat) PV.top) []).int 92)))) else none else none else none else none else none else none else k0 v0 v1 v2 v4 v6 v7
noncomputable def W7 (f : Nat) (k0 : Bool → Bool → List PV → List PV → List PV → List PV → Option Res) : Nat → Bool → Bool → List PV → Int → List PV → List PV → List PV → List PV → Option Res
  | 0, _, _, _, _, _, _, _, _ => none
  | n + 1, v0, v1, v2, v3, v4, v5, v6, v7 => Ga f (W7 f k0 n) k0 v0 v1 v2 v3 v4 v5 v6 v7
theorem Jn3 (f : Nat) (k : Kont) (n : Nat) (v0 : Bool) (v1 : Bool) (v2 : List PV) (v3 : Int) (v4 : List PV) (v5 : List PV) (v6 : List PV) (v7 : List PV) : Jo tau 0 Yp (fun s k => ev tau F36 0 0 JcX (Jfy ) s k) (n + 1) (Je Yp N36 [.ro 5 v0 v1 v2, .ptr 864 [], .ow 5 865 [] 0 64 (some 64), .ow 5 866 [] 0 64 (some 64), .ow 5 867 [] 0 64 (some 64), .sc (.int .i64 v3)] [(864, .box false 37 (PV.ar 37 v4)), (865, .vec false 5 false v5), (866, .vec false 5 false v6), (867, .vec false 5 false v7)]) (Jv tau 0 Zp k) = Ga f (fun v0 v1 v2 v3 v4 v5 v6 v7 => Jo tau 0 Yp (fun s k => ev tau F36 0 0 JcX (Jfy ) s k) n (Je Yp N36 [.ro 5 v0 v1 v2, .ptr 864 [], .ow 5 865 [] 0 64 (some 64), .ow 5 866 [] 0 64 (some 64), .ow 5 867 [] 0 64 (some 64), .sc (.int .i64 v3)] [(864, .box false 37 (PV.ar 37 v4)), (865, .vec false 5 false v5), (866, .vec false 5 false v6), (867, .vec false 5 false v7)]) (Jv tau 0 Zp k)) (fun x0 x1 x2 x3 x4 x5 => k (Ex.exit 0) (Je Zp N36 [.ro 5 x0 x1 x2, .ptr 864 [], .ow 5 865 [] 0 64 (some 64), .ow 5 866 [] 0 64 (some 64)] [(864, .box false 37 (PV.ar 37 x3)), (865, .vec false 5 false x4), (866, .vec false 5 false x5)])) v0 v1 v2 v3 v4 v5 v6 v7 := by kernel_rfl
theorem JiN (f : Nat) (k : Kont) : ∀ (n : Nat) (v0 : Bool) (v1 : Bool) (v2 : List PV) (v3 : Int) (v4 : List PV) (v5 : List PV) (v6 : List PV) (v7 : List PV), Jo tau 0 Yp (fun s k => ev tau F36 0 0 JcX (Jfy ) s k) n (Je Yp N36 [.ro 5 v0 v1 v2, .ptr 864 [], .ow 5 865 [] 0 64 (some 64), .ow 5 866 [] 0 64 (some 64), .ow 5 867 [] 0 64 (some 64), .sc (.int .i64 v3)] [(864, .box false 37 (PV.ar 37 v4)), (865, .vec false 5 false v5), (866, .vec false 5 false v6), (867, .vec false 5 false v7)]) (Jv tau 0 Zp k) = W7 f (fun x0 x1 x2 x3 x4 x5 => k (Ex.exit 0) (Je Zp N36 [.ro 5 x0 x1 x2, .ptr 864 [], .ow 5 865 [] 0 64 (some 64), .ow 5 866 [] 0 64 (some 64)] [(864, .box false 37 (PV.ar 37 x3)), (865, .vec false 5 false x4), (866, .vec false 5 false x5)])) n v0 v1 v2 v3 v4 v5 v6 v7 | 0, _, _, _, _, _, _, _, _ => rfl | n + 1, v0, v1, v2, v3, v4, v5, v6, v7 => (Jn3 f k n v0 v1 v2 v3 v4 v5 v6 v7).trans (congrArg (fun r => Ga f r (fun x0 x1 x2 x3 x4 x5 => k (Ex.exit 0) (Je Zp N36 [.ro 5 x0 x1 x2, .ptr 864 [], .ow 5 865 [] 0 64 (some 64), .ow 5 866 [] 0 64 (some 64)] [(864, .box false 37 (PV.ar 37 x3)), (865, .vec false 5 false x4), (866, .vec false 5 false x5)])) v0 v1 v2 v3 v4 v5 v6 v7) (by funext v0 v1 v2 v3 v4 v5 v6 v7; exact JiN f k n v0 v1 v2 v3 v4 v5 v6 v7))
noncomputable def Jbz (f : Nat) : List PV → List (Nat × Ent) → Kont → Option Res
  | [.ro 5 v0 v1 v2, .ptr 864 [], .ow 5 865 [] 0 64 (some 64), .ow 5 866 [] 0 64 (some 64), .ow 5 867 [] 0 64 (some 64),
  PV.sc
    (Value.int IntKind.i64
      v3)], [(864, .box false 37 (PV.ar 37 v4)), (865, .vec false 5 false v5), (866, .vec false 5 false v6),
  (867,
    Ent.vec false 5 false
      v7)], k => W7 f (fun x0 x1 x2 x3 x4 x5 => k (Ex.exit
  0) (Je Zp N36 [.ro 5 x0 x1 x2, .ptr 864 [], .ow 5 865 [] 0 64 (some 64),
  PV.ow 5 866 [] 0 64 (some 64)] [(864, .box false 37 (PV.ar 37 x3)), (865, .vec false 5 false x4), (866, .vec false 5 false x5)])) f v0 v1 v2 v3 v4 v5 v6 v7
  | _, _, _ => none
theorem JsC (f : Nat) : Jg JcX Jfy = [] := by kernel_rfl
theorem JwC (f : Nat) : (Item.l JcX Yp N36 (Jbz f)).Ok tau Try.prog 0 := JI Jr Jls Js (x := Jfy) (nm2 := Zp) (Jp _ _ (by rw [JsC f]; intro q hq; cases hq)) fun vs hp k res hr => by
  unfold Jbz at hr
  split at hr
  · exact ⟨f, 0, (JiN f _ f _ _ _ _ _ _ _ _ ).trans hr⟩
  · cases hr
noncomputable def g36 (f : Nat) (key_z : Bool) (key_f : Bool) (key : List PV) (text_z : Bool) (text_f : Bool) (text : List PV) (k : Res → Option Res) : Option Res := bif decide (zi key.length > 64) then bif Jh IntKind.u8 key && decide (key.length ≤ 140737488355000) then W7 f (fun x0_0 x1_0 x2_0 x3_0 x4_0 x5_0 => bif Jn (64 + x2_0.length) 1 && true then bif Jh IntKind.u8 (List.take (64 + x2_0.length) (List.take 64 x4_0 ++ x2_0)) && decide ((List.take (64 + x2_0.length) (List.take 64 x4_0 ++ x2_0)).length ≤ 140737488355000) then bif Jn (64 + (List.take 32 (pu IntKind.u8 (JA (Jd (List.take (64 + x2_0.length) (List.take 64 x4_0 ++ x2_0)))))).length) 1 && true then bif Jh IntKind.u8 (List.take (64 + (List.take 32 (pu IntKind.u8 (JA (Jd (List.take (64 + x2_0.length) (List.take 64 x4_0 ++ x2_0)))))).length) (List.take 64 x5_0 ++ List.take 32 (pu IntKind.u8 (JA (Jd (List.take (64 + x2_0.length) (List.take 64 x4_0 ++ x2_0))))))) && decide ((List.take (64 + (List.take 32 (pu IntKind.u8 (JA (Jd (List.take (64 + x2_0.length) (List.take 64 x4_0 ++ x2_0)))))).length) (List.take 64 x5_0 ++ List.take 32 (pu IntKind.u8 (JA (Jd (List.take (64 + x2_0.length) (List.take 64 x4_0 ++ x2_0))))))).length ≤ 140737488355000) then k (Res.mk (.ar 37 (pu IntKind.u8 (JA (Jd (List.take (64 + (List.take 32 (pu IntKind.u8 (JA (Jd (List.take (64 + x2_0.length) (List.take 64 x4_0 ++ x2_0)))))).length) (List.take 64 x5_0 ++ List.take 32 (pu IntKind.u8 (JA (Jd (List.take (64 + x2_0.length) (List.take 64 x4_0 ++ x2_0))))))))))) [] []) else none else none else none else none) f text_z text_f text (0) ([.sc (.int .u8 0), .sc (.int .u8 0), .sc (.int .u8 0), .sc (.int .u8 0), .sc (.int .u8 0), .sc (.int .u8 0), .sc (.int .u8 0), .sc (.int .u8 0), .sc (.int .u8 0), .sc (.int .u8 0), .sc (.int .u8 0), .sc (.int .u8 0), .sc (.int .u8 0), .sc (.int .u8 0), .sc (.int .u8 0), .sc (.int .u8 0), .sc (.int .u8 0), .sc (.int .u8 0), .sc (.int .u8 0), .sc (.int .u8 0), .sc (.int .u8 0), .sc (.int .u8 0), .sc (.int .u8 0), .sc (.int .u8 0), .sc (.int .u8 0), .sc (.int .u8 0), .sc (.int .u8 0), .sc (.int .u8 0), .sc (.int .u8 0), .sc (.int .u8 0), .sc (.int .u8 0), .sc (.int .u8 0)]) (List.take 64 (List.take 32 (pu IntKind.u8 (JA (Jd key)))) ++ List.drop (0 + min (List.take 32 (pu IntKind.u8 (JA (Jd key)))).length 64) z36) (z36) (z36) else none else W7 f (fun x0_1 x1_1 x2_1 x3_1 x4_1 x5_1 => bif Jn (64 + x2_1.length) 1 && true then bif Jh IntKind.u8 (List.take (64 + x2_1.length) (List.take 64 x4_1 ++ x2_1)) && decide ((List.take (64 + x2_1.length) (List.take 64 x4_1 ++ x2_1)).length ≤ 140737488355000) then bif Jn (64 + (List.take 32 (pu IntKind.u8 (JA (Jd (List.take (64 + x2_1.length) (List.take 64 x4_1 ++ x2_1)))))).length) 1 && true then bif Jh IntKind.u8 (List.take (64 + (List.take 32 (pu IntKind.u8 (JA (Jd (List.take (64 + x2_1.length) (List.take 64 x4_1 ++ x2_1)))))).length) (List.take 64 x5_1 ++ List.take 32 (pu IntKind.u8 (JA (Jd (List.take (64 + x2_1.length) (List.take 64 x4_1 ++ x2_1))))))) && decide ((List.take (64 + (List.take 32 (pu IntKind.u8 (JA (Jd (List.take (64 + x2_1.length) (List.take 64 x4_1 ++ x2_1)))))).length) (List.take 64 x5_1 ++ List.take 32 (pu IntKind.u8 (JA (Jd (List.take (64 + x2_1.length) (List.take 64 x4_1 ++ x2_1))))))).length ≤ 140737488355000) then k (Res.mk (.ar 37 (pu IntKind.u8 (JA (Jd (List.take (64 + (List.take 32 (pu IntKind.u8 (JA (Jd (List.take (64 + x2_1.length) (List.take 64 x4_1 ++ x2_1)))))).length) (List.take 64 x5_1 ++ List.take 32 (pu IntKind.u8 (JA (Jd (List.take (64 + x2_1.length) (List.take 64 x4_1 ++ x2_1))))))))))) [] []) else none else none else none else none) f text_z text_f text (0) ([.sc (.int .u8 0), .sc (.int .u8 0), .sc (.int .u8 0), .sc (.int .u8 0), .sc (.int .u8 0), .sc (.int .u8 0), .sc (.int .u8 0), .sc (.int .u8 0), .sc (.int .u8 0), .sc (.int .u8 0), .sc (.int .u8 0), .sc (.int .u8 0), .sc (.int .u8 0), .sc (.int .u8 0), .sc (.int .u8 0), .sc (.int .u8 0), .sc (.int .u8 0), .sc (.int .u8 0), .sc (.int .u8 0), .sc (.int .u8 0), .sc (.int .u8 0), .sc (.int .u8 0), .sc (.int .u8 0), .sc (.int .u8 0), .sc (.int .u8 0), .sc (.int .u8 0), .sc (.int .u8 0), .sc (.int .u8 0), .sc (.int .u8 0), .sc (.int .u8 0), .sc (.int .u8 0), .sc (.int .u8 0)]) (List.take 64 key ++ List.drop (0 + min key.length 64) z36) (z36) (z36)
theorem e36 (f : Nat) (key_z : Bool) (key_f : Bool) (key : List PV) (text_z : Bool) (text_f : Bool) (text : List PV) (k : Res → Option Res) : JM tau F36 Try.f36 (Try.f36.body.get!) (Jn2 (Jbz f)) [.ro] 0 [.ro 5 key_z key_f key, .ro 5 text_z text_f text] [] k = g36 f key_z key_f key text_z text_f text k := by kernel_rfl
theorem JAn (f : Nat) : Jg (Try.f36.body.get!) (Jn2 (Jbz f)) = [.l JcX Yp N36 (Jbz f)] := by kernel_rfl
theorem JAo (f : Nat) : ∀ q ∈ Jg (Try.f36.body.get!) (Jn2 (Jbz f)), q.Ok tau Try.prog 0 := by
  rw [JAn f]; simp only [List.forall_mem_cons, List.not_mem_nil, false_implies, implies_true, and_true]; exact JwC f
theorem JwD : Try.prog.funcs[36]? = some Try.f36 := by kernel_rfl
theorem JwE : Try.f36.body = some (Try.f36.body.get!) := by kernel_rfl
theorem JwF : Enters Try.prog 36 := enters_of JwD (by kernel_rfl) JwE
-- FN ref3.Mac
theorem JcY (K : List Int) (hK : K.length = 64) (x : Int) : (List.range 64).map (fun j => JC .xor .u8 (K.getD j 0) x) = JT K x := by
  rw [← Jfm K hK x]
  apply List.map_congr_left
  intro j _
  exact ZU _ _ _
theorem Jqk (K : List Int) (hK : K.length = 64) (f : Nat) (k0 : Bool → Bool → List PV → List PV → List PV → List PV → Option Res) (tz tf : Bool) (text h : List PV) : ∀ (d i n : Nat), i + d = 64 → d < n →
    W7 f k0 n tz tf text (i : Int) h (pu .u8 K) (pu .u8 (Qz (fun j => JC .xor .u8 (K.getD j 0) 54) (List.replicate 64 0) i)) (pu .u8 (Qz (fun j => JC .xor .u8 (K.getD j 0) 92) (List.replicate 64 0) i)) = k0 tz tf text h (pu .u8 (JT K 54)) (pu .u8 (JT K 92))
  | 0, i, n + 1, hh, hn => by
      obtain rfl : i = 64 := by omega
      simp only [W7, Ga]
      refine (JK (by decide)).trans ?_
      have h1 := Q0 (fun j => JC .xor .u8 (K.getD j 0) 54) (List.replicate 64 0)
      have h2 := Q0 (fun j => JC .xor .u8 (K.getD j 0) 92) (List.replicate 64 0)
      rw [List.length_replicate] at h1 h2
      rw [h1, h2, JcY K hK, JcY K hK]
  | d + 1, i, n + 1, hh, hn => by
      have g1 : ((i : Int)).toNat = i := by omega
      have h1 : IntKind.i64.wrap ((i : Int) + 1) = ((i + 1 : Nat) : Int) := by rw [wrap_i64 (by omega) (by omega)]; omega
      have c0 : (decide (0 ≤ (i : Int)) && decide ((i : Int) < zi 64) && true) = true := by simp; omega
      simp only [W7, Ga, g1, h1, Nat.zero_add, Jj]
      rw [JV (by omega), Qn (by omega), Wm, Wm]
      refine (Jc (by simp; omega)).trans ((Jc c0).trans ((Jc rfl).trans ((Jc c0).trans ((Jc rfl).trans ((Jc c0).trans ((Jc c0).trans ?_))))))
      have := Jqk K hK f k0 tz tf text h d (i + 1) n (by omega) (by omega)
      rw [← Qs _ _ i (by simp; omega), ← Qs _ _ i (by simp; omega)] at this
      exact this
def ZK (a b text : List PV) (k : Res → Option Res) : Option Res :=
  bif Jn (64 + text.length) 1 && true then
    bif Jh .u8 (List.take (64 + text.length) (List.take 64 a ++ text)) && decide ((List.take (64 + text.length) (List.take 64 a ++ text)).length ≤ 140737488355000) then
      bif Jn (64 + (List.take 32 (pu .u8 (JA (Jd (List.take (64 + text.length) (List.take 64 a ++ text)))))).length) 1 && true then
        bif Jh .u8 (List.take (64 + (List.take 32 (pu .u8 (JA (Jd (List.take (64 + text.length) (List.take 64 a ++ text)))))).length) (List.take 64 b ++ List.take 32 (pu .u8 (JA (Jd (List.take (64 + text.length) (List.take 64 a ++ text)))))))
            && decide ((List.take (64 + (List.take 32 (pu .u8 (JA (Jd (List.take (64 + text.length) (List.take 64 a ++ text)))))).length) (List.take 64 b ++ List.take 32 (pu .u8 (JA (Jd (List.take (64 + text.length) (List.take 64 a ++ text))))))).length ≤ 140737488355000) then
          k ⟨.ar 37 (pu .u8 (JA (Jd (List.take (64 + (List.take 32 (pu .u8 (JA (Jd (List.take (64 + text.length) (List.take 64 a ++ text)))))).length) (List.take 64 b ++ List.take 32 (pu .u8 (JA (Jd (List.take (64 + text.length) (List.take 64 a ++ text)))))))))), [], []⟩
        else none
      else none
    else none
  else none
theorem Jlt (f : Nat) (kz kf : Bool) (key : List PV) (tz tf : Bool) (text : List PV) (k : Res → Option Res) : g36 f kz kf key tz tf text k =
    (bif decide (zi key.length > 64) then
      bif Jh .u8 key && decide (key.length ≤ 140737488355000) then
        W7 f (fun _ _ t _ a b => ZK a b t k) f tz tf text 0 (pu .u8 (List.replicate 32 0)) (kbG (List.take 32 (pu .u8 (JA (Jd key))))) (pu .u8 (List.replicate 64 0)) (pu .u8 (List.replicate 64 0))
      else none
    else W7 f (fun _ _ t _ a b => ZK a b t k) f tz tf text 0 (pu .u8 (List.replicate 32 0)) (kbG key) (pu .u8 (List.replicate 64 0)) (pu .u8 (List.replicate 64 0))) := by kernel_rfl
theorem Jg8 (K T : List Int) (hK : K.length = 64) (hT : T.length ≤ 1000000000) (k : Res → Option Res) :
    ZK (pu .u8 (JT K 54)) (pu .u8 (JT K 92)) (pu .u8 T) k = k ⟨.ar 37 (pu .u8 (JA (JT K 92 ++ JA (JT K 54 ++ T)))), [], []⟩ := by
  have e1 : List.take (64 + (pu .u8 T).length) (List.take 64 (pu .u8 (JT K 54)) ++ pu .u8 T) = pu .u8 (JT K 54 ++ T) := by
    rw [List.take_of_length_le (i := 64) (by simp [hK]), List.take_of_length_le (by simp [hK]), ← JZ]
  have e2 : ∀ l : List Int, List.take 32 (pu .u8 (JA l)) = pu .u8 (JA l) := fun l => List.take_of_length_le (by simp [J8])
  have e3 : ∀ l : List Int, List.take (64 + (pu .u8 (JA l)).length) (List.take 64 (pu .u8 (JT K 92)) ++ pu .u8 (JA l)) = pu .u8 (JT K 92 ++ JA l) := fun l => by
    rw [List.take_of_length_le (i := 64) (by simp [hK]), List.take_of_length_le (by simp [hK]), ← JZ]
  unfold ZK
  rw [e1, e2, e3, Jc (by simp [Jn]; omega), Jc (by rw [J6, JO]; simp [hK]; omega), Jc (by simp [Jn, J8]), Jc (by rw [J6, JO]; simp [hK, J8])]
  simp only [Wa]
noncomputable def Jg9 : List PV → List Ent → (Res → Option Res) → Option Res
  | [.ro 5 kz kf key, .ro 5 tz tf text], [], k =>
    bif (Jh .u8 key && decide (key.length ≤ 1000000000)) && (Jh .u8 text && decide (text.length ≤ 1000000000)) then
      k ⟨.ar 37 (pu .u8 (JU (Jd key) (Jd text))), [], []⟩ else none
  | _, _, _ => none
noncomputable def JsD : Sig := { own := [], run := Jg9 }
theorem JsE (kz kf : Bool) (key : List PV) (tz tf : Bool) (text : List PV) (k : Res → Option Res) (a1 : Jh .u8 key = true) (a2 : key.length ≤ 1000000000) (h3 : Jh .u8 text = true) (h4 : text.length ≤ 1000000000) :
    g36 70 kz kf key tz tf text k = k ⟨.ar 37 (pu .u8 (JU (Jd key) (Jd text))), [], []⟩ := by
  rw [Jlt, Jay, Jfn]
  have hi := Qb a1
  have ht := Qb h3
  have hL : ∀ K : List Int, K.length = 64 → W7 70 (fun _ _ t _ a b => ZK a b t k) 70 tz tf text 0 (pu .u8 (List.replicate 32 0)) (pu .u8 K) (pu .u8 (List.replicate 64 0)) (pu .u8 (List.replicate 64 0)) = k ⟨.ar 37 (pu .u8 (JA (JT K 92 ++ JA (JT K 54 ++ Jd text)))), [], []⟩ := by
    intro K hK
    have := Jqk K hK 70 (fun _ _ t _ a b => ZK a b t k) tz tf text (pu .u8 (List.replicate 32 0)) 64 0 70 (by omega) (by omega)
    rw [QF, QF] at this
    refine this.trans ?_
    have hm := Jg8 K (Jd text) hK (by simpa using h4) k
    rw [← ht] at hm
    exact hm
  by_cases hc : key.length > 64
  · rw [Jc (by simp [zi]; omega), Jc (by simp [a1]; omega), List.take_of_length_le (by simp [J8]), JdO _ (by rw [J8]; omega),
      hL _ (by rw [← Xo (Jd key), VY, if_pos (by simpa using hc)]), VY, if_pos (by simpa using hc)]
  · have hl : (Jd key).length ≤ 64 := by simp; omega
    rw [JK (by simp [zi]; omega), hi, JdO _ hl, Wa, hL _ (by rw [← Xo (Jd key), VY, if_neg (by omega)]), VY, if_neg (by omega)]
theorem Jql : Ji tau Try.prog 36 JsD := Ji.mk' fun xs es k res hl hr => by
  change Jg9 xs es k = some res at hr
  unfold Jg9 at hr
  split at hr
  · rename_i kz kf key tz tf text
    obtain ⟨hc, hr⟩ := JL hr
    simp only [Bool.and_eq_true, decide_eq_true_eq] at hc
    obtain ⟨⟨a1, a2⟩, h3, h4⟩ := hc
    exact QQ Jr Jls Js JwD JwE (Jn2 (Jbz 70)) [.ro] 0 0 (JAo 70) hl rfl ((e36 70 kz kf key tz tf text k).trans ((JsE kz kf key tz tf text k a1 a2 h3 h4).trans hr))
  · cases hr
noncomputable def JwG : Fns := JD 70 Jnv (F0)
theorem Jn4 : Jz tau Try.prog JwG := (JG).add Jk6 JrS
def JiO : An := (.seq .leaf (.seq .leaf .leaf))
noncomputable def JsF (f : Nat) (b_z : Bool) (b_f : Bool) (b : List PV) (n : Int) (k : Res → Option Res) : Option Res := bif decide ((Jm [.ro 5 b_z b_f b, .ro 5 false false [.sc (.int .u8 (IntKind.u8.wrap n))]]).length ≤ 140737488355328) && true then k (Res.mk (.ow 5 16 [] 0 (Jm [.ro 5 b_z b_f b, .ro 5 false false [.sc (.int .u8 (IntKind.u8.wrap n))]]).length none) [] [.vec false 5 (Jm [.ro 5 b_z b_f b, .ro 5 false false [.sc (.int .u8 (IntKind.u8.wrap n))]]).isEmpty (Jm [.ro 5 b_z b_f b, .ro 5 false false [.sc (.int .u8 (IntKind.u8.wrap n))]])]) else none
theorem JAp (f : Nat) (b_z : Bool) (b_f : Bool) (b : List PV) (n : Int) (k : Res → Option Res) : JM tau JwG Try.f96 (Try.f96.body.get!) JiO [] 0 [.ro 5 b_z b_f b, .sc (.int .i64 n)] [] k = JsF f b_z b_f b n k := by kernel_rfl
theorem JwH (f : Nat) : Jg (Try.f96.body.get!) JiO = [] := by kernel_rfl
theorem JwI (f : Nat) : ∀ q ∈ Jg (Try.f96.body.get!) JiO, q.Ok tau Try.prog 0 := by
  rw [JwH f]; intro q hq; cases hq
theorem JwJ : Try.prog.funcs[96]? = some Try.f96 := by kernel_rfl
theorem JwK : Try.f96.body = some (Try.f96.body.get!) := by kernel_rfl
noncomputable def JwL : Fns := JD 70 Jnv (F0)
theorem Jn5 : Jz tau Try.prog JwL := (JG).add Jk6 JrS
def JiP : An := (.seq .leaf (.seq .leaf (.seq .leaf .leaf)))
noncomputable def JsG (f : Nat) (b_z : Bool) (b_f : Bool) (b : List PV) (s : ByteArray) (k : Res → Option Res) : Option Res := bif decide (0 ≤ Qc (zi s.size) 65535) && true && decide ((Qc (zi s.size) 65535).toNat ≤ s.size) && true then bif Jn (s.extract 0 (Qc (zi s.size) 65535).toNat).size 1 && true then bif decide ((Jm [.ro 5 b_z b_f b, .ro 5 false false [.sc (.int .u8 (IntKind.u8.wrap (zi (s.extract 0 (Qc (zi s.size) 65535).toNat).size))), .sc (.int .u8 (IntKind.u8.wrap (JF IntKind.i64 (zi (s.extract 0 (Qc (zi s.size) 65535).toNat).size) 8)))], .ro 5 false false (List.take (s.extract 0 (Qc (zi s.size) 65535).toNat).size (Jl (s.extract 0 (Qc (zi s.size) 65535).toNat)))]).length ≤ 140737488355328) && true then k (Res.mk (.ow 5 16 [] 0 (Jm [.ro 5 b_z b_f b, .ro 5 false false [.sc (.int .u8 (IntKind.u8.wrap (zi (s.extract 0 (Qc (zi s.size) 65535).toNat).size))), .sc (.int .u8 (IntKind.u8.wrap (JF IntKind.i64 (zi (s.extract 0 (Qc (zi s.size) 65535).toNat).size) 8)))], .ro 5 false false (List.take (s.extract 0 (Qc (zi s.size) 65535).toNat).size (Jl (s.extract 0 (Qc (zi s.size) 65535).toNat)))]).length none) [] [.vec false 5 (Jm [.ro 5 b_z b_f b, .ro 5 false false [.sc (.int .u8 (IntKind.u8.wrap (zi (s.extract 0 (Qc (zi s.size) 65535).toNat).size))), .sc (.int .u8 (IntKind.u8.wrap (JF IntKind.i64 (zi (s.extract 0 (Qc (zi s.size) 65535).toNat).size) 8)))], .ro 5 false false (List.take (s.extract 0 (Qc (zi s.size) 65535).toNat).size (Jl (s.extract 0 (Qc (zi s.size) 65535).toNat)))]).isEmpty (Jm [.ro 5 b_z b_f b, .ro 5 false false [.sc (.int .u8 (IntKind.u8.wrap (zi (s.extract 0 (Qc (zi s.size) 65535).toNat).size))), .sc (.int .u8 (IntKind.u8.wrap (JF IntKind.i64 (zi (s.extract 0 (Qc (zi s.size) 65535).toNat).size) 8)))], .ro 5 false false (List.take (s.extract 0 (Qc (zi s.size) 65535).toNat).size (Jl (s.extract 0 (Qc (zi s.size) 65535).toNat)))])]) else none else none else none
theorem JAq (f : Nat) (b_z : Bool) (b_f : Bool) (b : List PV) (s : ByteArray) (k : Res → Option Res) : JM tau JwL Try.f98 (Try.f98.body.get!) JiP [] 0 [.ro 5 b_z b_f b, .sc (.string s)] [] k = JsG f b_z b_f b s k := by kernel_rfl
theorem JwM (f : Nat) : Jg (Try.f98.body.get!) JiP = [] := by kernel_rfl
theorem JwN (f : Nat) : ∀ q ∈ Jg (Try.f98.body.get!) JiP, q.Ok tau Try.prog 0 := by
  rw [JwM f]; intro q hq; cases hq
theorem JwO : Try.prog.funcs[98]? = some Try.f98 := by kernel_rfl
theorem JwP : Try.f98.body = some (Try.f98.body.get!) := by kernel_rfl
noncomputable def JdV : List PV → List Ent → (Res → Option Res) → Option Res
  | [.ro 5 z f b, .sc (.int .i64 n)], [], k => bif slB z b then k ⟨.ow 5 16 [] 0 (b.length + 1) none, [], [.vec false 5 false (b ++ pu .u8 [IntKind.u8.wrap n])]⟩ else none
  | _, _, _ => none
noncomputable def JAr : Sig := { own := [], run := JdV }
theorem JwQ : Ji tau Try.prog 96 JAr := Ji.mk' fun xs es k res hl hr => by
  change JdV xs es k = some res at hr
  unfold JdV at hr
  split at hr
  · rename_i z f b n
    obtain ⟨hc, hr⟩ := JL hr
    obtain ⟨h1, h2⟩ := Wp.1 hc
    have hg : JsF 0 z f b n k = some res := by
      have hf : Jm [PV.ro 5 z f b, PV.ro 5 false false [PV.sc (Value.int IntKind.u8 (IntKind.u8.wrap n))]] = b ++ pu .u8 [IntKind.u8.wrap n] := by simp [PV.els, pu]
      have hf2 : Jm [PV.ro 5 z f b, PV.ro 5 false true [PV.sc (Value.int IntKind.u8 (IntKind.u8.wrap n))]] = b ++ pu .u8 [IntKind.u8.wrap n] := by simp [PV.els, pu]
      have he : (b ++ pu .u8 [IntKind.u8.wrap n]).isEmpty = false := by simp
      have hlen : (b ++ pu .u8 [IntKind.u8.wrap n]).length = b.length + 1 := by simp
      unfold JsF
      simp only [hf, hf2, List.take_length, List.drop_zero, List.take_succ_cons, List.take_zero, he, hlen, Ent.nil]
      rw [Jc (by simp; omega)]
      exact hr
    exact QQ Jr Jn4 Js JwJ JwK JiO [] 0 0 (JwI 0) hl rfl ((JAp 0 z f b n k).trans hg)
  · cases hr
noncomputable def JdW : List PV → List Ent → (Res → Option Res) → Option Res
  | [.ro 5 z f b, .sc (.string s)], [], k => bif slB z b && Nat.ble s.size 65535 then k ⟨.ow 5 16 [] 0 (b.length + (s.size + 2)) none, [], [.vec false 5 false (b ++ pu .u8 (Qt s))]⟩ else none
  | _, _, _ => none
noncomputable def JAs : Sig := { own := [], run := JdW }
theorem JwR : Ji tau Try.prog 98 JAs := Ji.mk' fun xs es k res hl hr => by
  change JdW xs es k = some res at hr
  unfold JdW at hr
  split at hr
  · rename_i z f b s
    obtain ⟨hc, hr⟩ := JL hr
    rw [Bool.and_eq_true, Nat.ble_eq] at hc
    obtain ⟨h1, h2⟩ := Wp.1 hc.1
    have hg : JsG 0 z f b s k = some res := by
      have hm : Qc (zi s.size) 65535 = (s.size : Int) := by unfold Qc; rw [if_neg (by simp only [zi]; omega)]
      unfold JsG
      simp only [hm, Int.toNat_natCast, Jfp]
      have hf : ∀ x y : Bool, Jm [PV.ro 5 z f b, PV.ro 5 false x [PV.sc (Value.int IntKind.u8 (IntKind.u8.wrap (zi s.size))), PV.sc (Value.int IntKind.u8 (IntKind.u8.wrap (JF IntKind.i64 (zi s.size) 8)))], PV.ro 5 false y (List.take s.size (Jl s))] = b ++ pu .u8 (Qt s) := by
        intro x y
        rw [Jbs, List.take_of_length_le (by simp), W5, Vb]
        simp [PV.els, pu]
      have he : (b ++ pu .u8 (Qt s)).isEmpty = false := by
        rw [W5, Vb]; simp
      have hlen : (b ++ pu .u8 (Qt s)).length = b.length + (s.size + 2) := by simp
      simp only [hf, List.take_length, List.drop_zero, List.take_succ_cons, List.take_zero, he, hlen, Ent.nil]
      rw [Jc (by simp), Jc (by simp [Jn]; omega), Jc (by simp; omega)]
      exact hr
    exact QQ Jr Jn5 Js JwO JwP JiP [] 0 0 (JwN 0) hl rfl ((JAq 0 z f b s k).trans hg)
  · cases hr
noncomputable def apI : List PV → Int → List PV := hid fun b n => b ++ pu .u8 (Qj n)
noncomputable def apY : List PV → Int → List PV := hid fun b n => b ++ pu .u8 [IntKind.u8.wrap n]
noncomputable def apT : List PV → ByteArray → List PV := hid fun b s => b ++ pu .u8 (Qt s)
noncomputable def okZ : Bool → List PV → Bool := hid slB
theorem GF (b : List PV) (n : Int) : apI b n = b ++ pu .u8 (Qj n) := by rw [apI, hid_eq]
theorem JbA (b : List PV) (n : Int) : apY b n = b ++ pu .u8 [IntKind.u8.wrap n] := by rw [apY, hid_eq]
theorem Vk (b : List PV) (s : ByteArray) : apT b s = b ++ pu .u8 (Qt s) := by rw [apT, hid_eq]
theorem Zq (z : Bool) (b : List PV) : okZ z b = slB z b := by rw [okZ, hid_eq]
noncomputable def Jha : List PV → List Ent → (Res → Option Res) → Option Res
  | [.ro 5 z f b, .sc (.int .i64 n)], [], k => bif okZ z b then k ⟨.ro 5 false false (apI b n), [], []⟩ else none
  | _, _, _ => none
noncomputable def JwS : Sig := { own := [], run := Jha }
theorem JwT : Ji tau Try.prog 97 JwS := fun xs es k res hl hr => Jwi xs es k res hl (by
  change Jha xs es k = some res at hr
  show JdR xs es k = some res
  unfold Jha at hr
  split at hr
  · rw [Zq, GF] at hr; exact hr
  · cases hr)
noncomputable def Jhb : List PV → List Ent → (Res → Option Res) → Option Res
  | [.ro 5 z f b, .sc (.int .i64 n)], [], k => bif okZ z b then k ⟨.ow 5 16 [] 0 (apY b n).length none, [], [.vec false 5 false (apY b n)]⟩ else none
  | _, _, _ => none
noncomputable def JsH : Sig := { own := [], run := Jhb }
theorem Jqm : Ji tau Try.prog 96 JsH := fun xs es k res hl hr => JwQ xs es k res hl (by
  change Jhb xs es k = some res at hr
  show JdV xs es k = some res
  unfold Jhb at hr
  split at hr
  · rename_i z f b n
    rw [Zq, JbA, show (b ++ pu .u8 [IntKind.u8.wrap n]).length = b.length + 1 by simp] at hr; exact hr
  · cases hr)
noncomputable def Jhc : List PV → List Ent → (Res → Option Res) → Option Res
  | [.ro 5 z f b, .sc (.string s)], [], k => bif okZ z b && Nat.ble s.size 65535 then k ⟨.ow 5 16 [] 0 (apT b s).length none, [], [.vec false 5 false (apT b s)]⟩ else none
  | _, _, _ => none
noncomputable def Jn6 : Sig := { own := [], run := Jhc }
theorem Jlu : Ji tau Try.prog 98 Jn6 := fun xs es k res hl hr => JwR xs es k res hl (by
  change Jhc xs es k = some res at hr
  show JdW xs es k = some res
  unfold Jhc at hr
  split at hr
  · rename_i z f b s
    rw [Zq, Vk, show (b ++ pu .u8 (Qt s)).length = b.length + (s.size + 2) by simp] at hr; exact hr
  · cases hr)
noncomputable def JwU : Fns := JD 131 Jll (F0)
theorem Jn7 : Jz tau Try.prog JwU := (JG).add Jlm Jlk
def Jn8 : Nm := [(0, .any), (1, .any), (5, .own), (6, .any)]
def JsI : An := (.seq .leaf (.seq .leaf (.seq .leaf (.seq .leaf (.seq (.seq .leaf (.seq .leaf (.cond .leaf .leaf))) (.seq .leaf .leaf))))))
def JiQ : An := (.seq .leaf (.scope Jn8 JsI))
noncomputable def Jlv (f : Nat) (b_z : Bool) (b_f : Bool) (b : List PV) (n : Int) (k : Res → Option Res) : Option Res :=
  bif b_z then
    k (Res.mk (PV.ow 5 16 [] 0 8 none) []
      [Ent.vec false 5 false
          [PV.sc (Value.int IntKind.u8 (IntKind.u8.wrap (JF IntKind.u64 (IntKind.u64.wrap n) (IntKind.i64.wrap (8 * 0))))),
            PV.sc (Value.int IntKind.u8 (IntKind.u8.wrap (JF IntKind.u64 (IntKind.u64.wrap n) (IntKind.i64.wrap (8 * IntKind.i64.wrap (0 + 1)))))),
            PV.sc (Value.int IntKind.u8 (IntKind.u8.wrap (JF IntKind.u64 (IntKind.u64.wrap n) (IntKind.i64.wrap (8 * IntKind.i64.wrap (IntKind.i64.wrap (0 + 1) + 1)))))),
            PV.sc (Value.int IntKind.u8 (IntKind.u8.wrap (JF IntKind.u64 (IntKind.u64.wrap n) (IntKind.i64.wrap (8 * IntKind.i64.wrap (IntKind.i64.wrap (IntKind.i64.wrap (0 + 1) + 1) + 1)))))),
            PV.sc
              (Value.int IntKind.u8
                (IntKind.u8.wrap (JF IntKind.u64 (IntKind.u64.wrap n) (IntKind.i64.wrap (8 * IntKind.i64.wrap (IntKind.i64.wrap (IntKind.i64.wrap (IntKind.i64.wrap (0 + 1) + 1) + 1) + 1)))))),
            PV.sc
              (Value.int IntKind.u8
                (IntKind.u8.wrap
                  (JF IntKind.u64 (IntKind.u64.wrap n)
                    (IntKind.i64.wrap (8 * IntKind.i64.wrap (IntKind.i64.wrap (IntKind.i64.wrap (IntKind.i64.wrap (IntKind.i64.wrap (0 + 1) + 1) + 1) + 1) + 1)))))),
            PV.sc
              (Value.int IntKind.u8
                (IntKind.u8.wrap
                  (JF IntKind.u64 (IntKind.u64.wrap n)
                    (IntKind.i64.wrap (8 * IntKind.i64.wrap (IntKind.i64.wrap (IntKind.i64.wrap (IntKind.i64.wrap (IntKind.i64.wrap (IntKind.i64.wrap (0 + 1) + 1) + 1) + 1) + 1) + 1)))))),
            PV.sc
              (Value.int IntKind.u8
                (IntKind.u8.wrap
                  (JF IntKind.u64 (IntKind.u64.wrap n)
                    (IntKind.i64.wrap
                      (8 * IntKind.i64.wrap (IntKind.i64.wrap (IntKind.i64.wrap (IntKind.i64.wrap (IntKind.i64.wrap (IntKind.i64.wrap (IntKind.i64.wrap (0 + 1) + 1) + 1) + 1) + 1) + 1) + 1))))))]])
  else bif Jn (0 + b.length) 1 && true then
    bif Jn (0 + b.length + 1) 1 && true then
      bif Jn (0 + b.length + 1 + 1) 1 && true then
        bif Jn (0 + b.length + 1 + 1 + 1) 1 && true then
          bif Jn (0 + b.length + 1 + 1 + 1 + 1) 1 && true then
            bif Jn (0 + b.length + 1 + 1 + 1 + 1 + 1) 1 && true then
              bif Jn (0 + b.length + 1 + 1 + 1 + 1 + 1 + 1) 1 && true then
                bif Jn (0 + b.length + 1 + 1 + 1 + 1 + 1 + 1 + 1) 1 && true then
                  bif Jn (0 + b.length + 1 + 1 + 1 + 1 + 1 + 1 + 1 + 1) 1 && true then
                    bif Jn
                        (0 +
                          (List.take (0 + b.length + 1 + 1 + 1 + 1 + 1 + 1 + 1 + 1)
                              (List.take (0 + b.length + 1 + 1 + 1 + 1 + 1 + 1 + 1)
                                  (List.take (0 + b.length + 1 + 1 + 1 + 1 + 1 + 1)
                                      (List.take (0 + b.length + 1 + 1 + 1 + 1 + 1)
                                          (List.take (0 + b.length + 1 + 1 + 1 + 1)
                                              (List.take (0 + b.length + 1 + 1 + 1)
                                                  (List.take (0 + b.length + 1 + 1)
                                                      (List.take (0 + b.length + 1)
                                                          (List.take (0 + b.length) b ++
                                                            [PV.sc (Value.int IntKind.u8 (IntKind.u8.wrap (JF IntKind.u64 (IntKind.u64.wrap n) (IntKind.i64.wrap (8 * 0)))))]) ++
                                                        [PV.sc (Value.int IntKind.u8 (IntKind.u8.wrap (JF IntKind.u64 (IntKind.u64.wrap n) (IntKind.i64.wrap (8 * IntKind.i64.wrap (0 + 1))))))]) ++
                                                    [PV.sc
                                                        (Value.int IntKind.u8
                                                          (IntKind.u8.wrap (JF IntKind.u64 (IntKind.u64.wrap n) (IntKind.i64.wrap (8 * IntKind.i64.wrap (IntKind.i64.wrap (0 + 1) + 1))))))]) ++
                                                [PV.sc
                                                    (Value.int IntKind.u8
                                                      (IntKind.u8.wrap
                                                        (JF IntKind.u64 (IntKind.u64.wrap n) (IntKind.i64.wrap (8 * IntKind.i64.wrap (IntKind.i64.wrap (IntKind.i64.wrap (0 + 1) + 1) + 1))))))]) ++
                                            [PV.sc
                                                (Value.int IntKind.u8
                                                  (IntKind.u8.wrap
                                                    (JF IntKind.u64 (IntKind.u64.wrap n)
                                                      (IntKind.i64.wrap (8 * IntKind.i64.wrap (IntKind.i64.wrap (IntKind.i64.wrap (IntKind.i64.wrap (0 + 1) + 1) + 1) + 1))))))]) ++
                                        [PV.sc
                                            (Value.int IntKind.u8
                                              (IntKind.u8.wrap
                                                (JF IntKind.u64 (IntKind.u64.wrap n)
                                                  (IntKind.i64.wrap (8 * IntKind.i64.wrap (IntKind.i64.wrap (IntKind.i64.wrap (IntKind.i64.wrap (IntKind.i64.wrap (0 + 1) + 1) + 1) + 1) + 1))))))]) ++
                                    [PV.sc
                                        (Value.int IntKind.u8
                                          (IntKind.u8.wrap
                                            (JF IntKind.u64 (IntKind.u64.wrap n)
                                              (IntKind.i64.wrap
                                                (8 *
                                                  IntKind.i64.wrap (IntKind.i64.wrap (IntKind.i64.wrap (IntKind.i64.wrap (IntKind.i64.wrap (IntKind.i64.wrap (0 + 1) + 1) + 1) + 1) + 1) + 1))))))]) ++
                                [PV.sc
                                    (Value.int IntKind.u8
                                      (IntKind.u8.wrap
                                        (JF IntKind.u64 (IntKind.u64.wrap n)
                                          (IntKind.i64.wrap
                                            (8 *
                                              IntKind.i64.wrap
                                                (IntKind.i64.wrap (IntKind.i64.wrap (IntKind.i64.wrap (IntKind.i64.wrap (IntKind.i64.wrap (IntKind.i64.wrap (0 + 1) + 1) + 1) + 1) + 1) + 1) +
                                                  1))))))])).length)
                        1 &&
                      true then
                      k (Res.mk
                        (PV.ow 5 16 [] 0
                          (0 +
                            (List.take (0 + b.length + 1 + 1 + 1 + 1 + 1 + 1 + 1 + 1)
                                (List.take (0 + b.length + 1 + 1 + 1 + 1 + 1 + 1 + 1)
                                    (List.take (0 + b.length + 1 + 1 + 1 + 1 + 1 + 1)
                                        (List.take (0 + b.length + 1 + 1 + 1 + 1 + 1)
                                            (List.take (0 + b.length + 1 + 1 + 1 + 1)
                                                (List.take (0 + b.length + 1 + 1 + 1)
                                                    (List.take (0 + b.length + 1 + 1)
                                                        (List.take (0 + b.length + 1)
                                                            (List.take (0 + b.length) b ++
                                                              [PV.sc (Value.int IntKind.u8 (IntKind.u8.wrap (JF IntKind.u64 (IntKind.u64.wrap n) (IntKind.i64.wrap (8 * 0)))))]) ++
                                                          [PV.sc (Value.int IntKind.u8 (IntKind.u8.wrap (JF IntKind.u64 (IntKind.u64.wrap n) (IntKind.i64.wrap (8 * IntKind.i64.wrap (0 + 1))))))]) ++
                                                      [PV.sc
                                                          (Value.int IntKind.u8
                                                            (IntKind.u8.wrap (JF IntKind.u64 (IntKind.u64.wrap n) (IntKind.i64.wrap (8 * IntKind.i64.wrap (IntKind.i64.wrap (0 + 1) + 1))))))]) ++
                                                  [PV.sc
                                                      (Value.int IntKind.u8
                                                        (IntKind.u8.wrap
                                                          (JF IntKind.u64 (IntKind.u64.wrap n) (IntKind.i64.wrap (8 * IntKind.i64.wrap (IntKind.i64.wrap (IntKind.i64.wrap (0 + 1) + 1) + 1))))))]) ++
                                              [PV.sc
                                                  (Value.int IntKind.u8
                                                    (IntKind.u8.wrap
                                                      (JF IntKind.u64 (IntKind.u64.wrap n)
                                                        (IntKind.i64.wrap (8 * IntKind.i64.wrap (IntKind.i64.wrap (IntKind.i64.wrap (IntKind.i64.wrap (0 + 1) + 1) + 1) + 1))))))]) ++
                                          [PV.sc
                                              (Value.int IntKind.u8
                                                (IntKind.u8.wrap
                                                  (JF IntKind.u64 (IntKind.u64.wrap n)
                                                    (IntKind.i64.wrap
                                                      (8 * IntKind.i64.wrap (IntKind.i64.wrap (IntKind.i64.wrap (IntKind.i64.wrap (IntKind.i64.wrap (0 + 1) + 1) + 1) + 1) + 1))))))]) ++
                                      [PV.sc
                                          (Value.int IntKind.u8
                                            (IntKind.u8.wrap
                                              (JF IntKind.u64 (IntKind.u64.wrap n)
                                                (IntKind.i64.wrap
                                                  (8 *
                                                    IntKind.i64.wrap
                                                      (IntKind.i64.wrap (IntKind.i64.wrap (IntKind.i64.wrap (IntKind.i64.wrap (IntKind.i64.wrap (0 + 1) + 1) + 1) + 1) + 1) + 1))))))]) ++
                                  [PV.sc
                                      (Value.int IntKind.u8
                                        (IntKind.u8.wrap
                                          (JF IntKind.u64 (IntKind.u64.wrap n)
                                            (IntKind.i64.wrap
                                              (8 *
                                                IntKind.i64.wrap
                                                  (IntKind.i64.wrap (IntKind.i64.wrap (IntKind.i64.wrap (IntKind.i64.wrap (IntKind.i64.wrap (IntKind.i64.wrap (0 + 1) + 1) + 1) + 1) + 1) + 1) +
                                                    1))))))])).length)
                          none)
                        []
                        [Ent.vec false 5 false
                            (List.take (0 + b.length + 1 + 1 + 1 + 1 + 1 + 1 + 1 + 1)
                              (List.take (0 + b.length + 1 + 1 + 1 + 1 + 1 + 1 + 1)
                                  (List.take (0 + b.length + 1 + 1 + 1 + 1 + 1 + 1)
                                      (List.take (0 + b.length + 1 + 1 + 1 + 1 + 1)
                                          (List.take (0 + b.length + 1 + 1 + 1 + 1)
                                              (List.take (0 + b.length + 1 + 1 + 1)
                                                  (List.take (0 + b.length + 1 + 1)
                                                      (List.take (0 + b.length + 1)
                                                          (List.take (0 + b.length) b ++
                                                            [PV.sc (Value.int IntKind.u8 (IntKind.u8.wrap (JF IntKind.u64 (IntKind.u64.wrap n) (IntKind.i64.wrap (8 * 0)))))]) ++
                                                        [PV.sc (Value.int IntKind.u8 (IntKind.u8.wrap (JF IntKind.u64 (IntKind.u64.wrap n) (IntKind.i64.wrap (8 * IntKind.i64.wrap (0 + 1))))))]) ++
                                                    [PV.sc
                                                        (Value.int IntKind.u8
                                                          (IntKind.u8.wrap (JF IntKind.u64 (IntKind.u64.wrap n) (IntKind.i64.wrap (8 * IntKind.i64.wrap (IntKind.i64.wrap (0 + 1) + 1))))))]) ++
                                                [PV.sc
                                                    (Value.int IntKind.u8
                                                      (IntKind.u8.wrap
                                                        (JF IntKind.u64 (IntKind.u64.wrap n) (IntKind.i64.wrap (8 * IntKind.i64.wrap (IntKind.i64.wrap (IntKind.i64.wrap (0 + 1) + 1) + 1))))))]) ++
                                            [PV.sc
                                                (Value.int IntKind.u8
                                                  (IntKind.u8.wrap
                                                    (JF IntKind.u64 (IntKind.u64.wrap n)
                                                      (IntKind.i64.wrap (8 * IntKind.i64.wrap (IntKind.i64.wrap (IntKind.i64.wrap (IntKind.i64.wrap (0 + 1) + 1) + 1) + 1))))))]) ++
                                        [PV.sc
                                            (Value.int IntKind.u8
                                              (IntKind.u8.wrap
                                                (JF IntKind.u64 (IntKind.u64.wrap n)
                                                  (IntKind.i64.wrap (8 * IntKind.i64.wrap (IntKind.i64.wrap (IntKind.i64.wrap (IntKind.i64.wrap (IntKind.i64.wrap (0 + 1) + 1) + 1) + 1) + 1))))))]) ++
                                    [PV.sc
                                        (Value.int IntKind.u8
                                          (IntKind.u8.wrap
                                            (JF IntKind.u64 (IntKind.u64.wrap n)
                                              (IntKind.i64.wrap
                                                (8 *
                                                  IntKind.i64.wrap (IntKind.i64.wrap (IntKind.i64.wrap (IntKind.i64.wrap (IntKind.i64.wrap (IntKind.i64.wrap (0 + 1) + 1) + 1) + 1) + 1) + 1))))))]) ++
                                [PV.sc
                                    (Value.int IntKind.u8
                                      (IntKind.u8.wrap
                                        (JF IntKind.u64 (IntKind.u64.wrap n)
                                          (IntKind.i64.wrap
                                            (8 *
                                              IntKind.i64.wrap
                                                (IntKind.i64.wrap (IntKind.i64.wrap (IntKind.i64.wrap (IntKind.i64.wrap (IntKind.i64.wrap (IntKind.i64.wrap (0 + 1) + 1) + 1) + 1) + 1) + 1) +
                                                  1))))))]))])
                    else none
                  else none
                else none
              else none
            else none
          else none
        else none
      else none
    else none
  else none
theorem JAt (f : Nat) (b_z : Bool) (b_f : Bool) (b : List PV) (n : Int) (k : Res → Option Res) : JM tau JwU Try.f97 (Try.f97.body.get!) JiQ [] 12 [.ro 5 b_z b_f b, .sc (.int .i64 n)] [] k = Jlv f b_z b_f b n k := by kernel_rfl
theorem JwV (f : Nat) : Jg (Try.f97.body.get!) JiQ = [] := by kernel_rfl
theorem JwW (f : Nat) : ∀ q ∈ Jg (Try.f97.body.get!) JiQ, q.Ok tau Try.prog 0 := by
  rw [JwV f]; intro q hq; cases hq
theorem JwX : Try.prog.funcs[97]? = some Try.f97 := by kernel_rfl
theorem JwY : Try.f97.body = some (Try.f97.body.get!) := by kernel_rfl

noncomputable def Jhd : List PV → List Ent → (Res → Option Res) → Option Res
  | [.ro 5 z f b, .sc (.int .i64 n)], [], k => bif okZ z b then k ⟨.ow 5 16 [] 0 (apI b n).length none, [], [.vec false 5 false (apI b n)]⟩ else none
  | _, _, _ => none
noncomputable def JsJ : Sig := { own := [], run := Jhd }
theorem Jlw (f : Bool) (n : Int) (k : Res → Option Res) : Jlv 0 true f [] n k = k ⟨.ow 5 16 [] 0 8 none, [], [.vec false 5 false (pu .u8 (Qj n))]⟩ := by
  rw [Xp]; kernel_rfl
theorem JsK (f : Bool) (b : List PV) (hb : b.length ≤ 1000000000) (n : Int) (k : Res → Option Res) : Jlv 0 false f b n k = k ⟨.ow 5 16 [] 0 (b.length + 8) none, [], [.vec false 5 false (b ++ pu .u8 (Qj n))]⟩ := by
  rw [Xp]
  unfold Jlv
  refine (JK rfl).trans ?_
  repeat rw [List.take_of_length_le (by simp <;> omega)]
  repeat (refine (Jc (by simp [Jn]; omega)).trans ?_)
  simp only [List.nil_append, List.append_assoc, List.length_append, List.length_cons, List.length_nil, Nat.zero_add]
  rfl
theorem Jqn : Ji tau Try.prog 97 JsJ := Ji.mk' fun xs es k res hl hr => by
  change Jhd xs es k = some res at hr
  unfold Jhd at hr
  split at hr
  · rename_i z f b n
    obtain ⟨hc, hr2⟩ := JL hr
    clear hr
    rw [Zq] at hc
    obtain ⟨h1, h2⟩ := Wp.1 hc
    rw [GF] at hr2
    have hg : Jlv 0 z f b n k = some res := by
      cases z with
      | true => obtain rfl := h1 rfl; rw [Jlw]; simpa using hr2
      | false => rw [JsK f b h2]; simpa using hr2
    exact QQ Jr Jn7 Js JwX JwY JiQ [] 0 12 (JwW 0) hl rfl ((JAt 0 z f b n k).trans hg)
  · cases hr
def Jb4 : Nat := 34
noncomputable def Jlx : Fns := JD 98 Jn6 (JD 97 JwS (JD 96 JsH (F0)))
theorem JiR : Jz tau Try.prog Jlx := (((JG).add Jqm Jwc).add JwT Jso).add Jlu Jsj
noncomputable def Yq : Code := QB (Try.f114.body.get!) [1, 0]
def WL : Nm := [(0, .any), (3, .own), (4, .any)]
def Xr : Nm := [(2, .any)]
def GG : An := (.seq .leaf (.seq .leaf (.seq .leaf (.seq (.seq .leaf (.cond (.seq .leaf (.seq .leaf .leaf)) .leaf)) (.seq .leaf .leaf)))))
def JiS (r0 : JtQ) : An := (.seq .leaf (.ssum WL Jb4 (GG) r0))
noncomputable def Zr (f : Nat) (rc : Bool → Bool → List PV → Nat → Int → List PV → Option Res) (k0 : Nat → List PV → Option Res) (v0 : Bool) (v1 : Bool) (v2 : List PV) (v3 : Nat) (v4 : Int) (v5 : List PV) : Option Res := bif decide (v4 < zi v2.length) then bif decide (0 ≤ v4) && decide (v4 < zi v2.length) && (PV.isSt 99 #[Field.mk "Kind" 3 0 false "" "" 0, Field.mk "N" 3 1 false "" "" 8, Field.mk "S" 9 2 false "" "" 16].size (v2.getD v4.toNat PV.top) && (PV.isInt IntKind.i64 (PV.child 0 (v2.getD v4.toNat PV.top)) && (PV.isInt IntKind.i64 (PV.child (0 + 1) (v2.getD v4.toNat PV.top)) && ((PV.child (0 + 1 + 1) (v2.getD v4.toNat PV.top)).isStr && true)))) && true then bif okZ false (List.take v3 v5) then bif decide (0 ≤ v4) && decide (v4 < zi v2.length) && (PV.isSt 99 #[Field.mk "Kind" 3 0 false "" "" 0, Field.mk "N" 3 1 false "" "" 8, Field.mk "S" 9 2 false "" "" 16].size (v2.getD v4.toNat PV.top) && (PV.isInt IntKind.i64 (PV.child 0 (v2.getD v4.toNat PV.top)) && (PV.isInt IntKind.i64 (PV.child (0 + 1) (v2.getD v4.toNat PV.top)) && ((PV.child (0 + 1 + 1) (v2.getD v4.toNat PV.top)).isStr && true)))) && true then bif okZ false (List.take (apY (List.take v3 v5) (PV.child 0 (v2.getD v4.toNat PV.top)).int).length (apY (List.take v3 v5) (PV.child 0 (v2.getD v4.toNat PV.top)).int)) then bif decide (0 ≤ v4) && decide (v4 < zi v2.length) && (PV.isSt 99 #[Field.mk "Kind" 3 0 false "" "" 0, Field.mk "N" 3 1 false "" "" 8, Field.mk "S" 9 2 false "" "" 16].size (v2.getD v4.toNat PV.top) && (PV.isInt IntKind.i64 (PV.child 0 (v2.getD v4.toNat PV.top)) && (PV.isInt IntKind.i64 (PV.child (0 + 1) (v2.getD v4.toNat PV.top)) && ((PV.child (0 + 1 + 1) (v2.getD v4.toNat PV.top)).isStr && true)))) && true then bif okZ false (apI (List.take (apY (List.take v3 v5) (PV.child 0 (v2.getD v4.toNat PV.top)).int).length (apY (List.take v3 v5) (PV.child 0 (v2.getD v4.toNat PV.top)).int)) (PV.child (0 + 1) (v2.getD v4.toNat PV.top)).int) && (PV.child (0 + 1 + 1) (v2.getD v4.toNat PV.top)).str.size.ble 65535 then rc v0 v1 v2 ((apT (apI (List.take (apY (List.take v3 v5) (PV.child 0 (v2.getD v4.toNat PV.top)).int).length (apY (List.take v3 v5) (PV.child 0 (v2.getD v4.toNat PV.top)).int)) (PV.child (0 + 1) (v2.getD v4.toNat PV.top)).int) (PV.child (0 + 1 + 1) (v2.getD v4.toNat PV.top)).str).length) (IntKind.i64.wrap (v4 + 1)) (apT (apI (List.take (apY (List.take v3 v5) (PV.child 0 (v2.getD v4.toNat PV.top)).int).length (apY (List.take v3 v5) (PV.child 0 (v2.getD v4.toNat PV.top)).int)) (PV.child (0 + 1) (v2.getD v4.toNat PV.top)).int) (PV.child (0 + 1 + 1) (v2.getD v4.toNat PV.top)).str) else none else none else none else none else none else none else k0 v3 v5
noncomputable def Yr (f : Nat) (k0 : Nat → List PV → Option Res) : Nat → Bool → Bool → List PV → Nat → Int → List PV → Option Res
  | 0, _, _, _, _, _, _ => none
  | n + 1, v0, v1, v2, v3, v4, v5 => Zr f (Yr f k0 n) k0 v0 v1 v2 v3 v4 v5
theorem Jly (f : Nat) (k : Kont) (n : Nat) (v0 : Bool) (v1 : Bool) (v2 : List PV) (v3 : Nat) (v4 : Int) (v5 : List PV) : QT tau 0 WL (hasLabel Yq) (fun l s k => Qd tau Jlx 0 0 Yq (GG ) l s k) (n + 1) 0 (Je WL Jb4 [.ro 99 v0 v1 v2, .ow 5 560 [] 0 v3 none, .sc (.int .i64 v4)] [(560, .vec false 5 false v5)]) (Jv tau 0 Xr k) = Zr f (fun v0 v1 v2 v3 v4 v5 => QT tau 0 WL (hasLabel Yq) (fun l s k => Qd tau Jlx 0 0 Yq (GG ) l s k) n 0 (Je WL Jb4 [.ro 99 v0 v1 v2, .ow 5 560 [] 0 v3 none, .sc (.int .i64 v4)] [(560, .vec false 5 false v5)]) (Jv tau 0 Xr k)) (fun x0 x1 => k Ex.ret (Je Xr Jb4 [.ow 5 560 [] 0 x0 none] [(560, .vec false 5 false x1)])) v0 v1 v2 v3 v4 v5 := by kernel_rfl
theorem Jfz (f : Nat) (k : Kont) : ∀ (n : Nat) (v0 : Bool) (v1 : Bool) (v2 : List PV) (v3 : Nat) (v4 : Int) (v5 : List PV), QT tau 0 WL (hasLabel Yq) (fun l s k => Qd tau Jlx 0 0 Yq (GG ) l s k) n 0 (Je WL Jb4 [.ro 99 v0 v1 v2, .ow 5 560 [] 0 v3 none, .sc (.int .i64 v4)] [(560, .vec false 5 false v5)]) (Jv tau 0 Xr k) = Yr f (fun x0 x1 => k Ex.ret (Je Xr Jb4 [.ow 5 560 [] 0 x0 none] [(560, .vec false 5 false x1)])) n v0 v1 v2 v3 v4 v5 | 0, _, _, _, _, _, _ => rfl | n + 1, v0, v1, v2, v3, v4, v5 => (Jly f k n v0 v1 v2 v3 v4 v5).trans (congrArg (fun r => Zr f r (fun x0 x1 => k Ex.ret (Je Xr Jb4 [.ow 5 560 [] 0 x0 none] [(560, .vec false 5 false x1)])) v0 v1 v2 v3 v4 v5) (by funext v0 v1 v2 v3 v4 v5; exact Jfz f k n v0 v1 v2 v3 v4 v5))
noncomputable def Vl (f : Nat) : Nat → List PV → List (Nat × Ent) → Kont → Option Res
  | 0, [.ro 99 v0 v1 v2, .ow 5 560 [] 0 v3 none,
  PV.sc
    (Value.int IntKind.i64
      v4)], [(560, .vec false 5 false v5)], k => Yr f (fun x0 x1 => k Ex.ret (Je Xr Jb4 [.ow 5 560 [] 0 x0 none] [(560, .vec false 5 false x1)])) f v0 v1 v2 v3 v4 v5
  | _, _, _, _ => none
theorem Jn9 (f : Nat) : Jg Yq GG = [] := by kernel_rfl
theorem JsL (f : Nat) : (Item.s Yq WL Jb4 (Vl f)).Ok tau Try.prog 0 := Jba Jr JiR Js (x := GG) (nm2 := Xr) (Jp _ _ (by rw [Jn9 f]; intro q hq; cases hq)) fun l vs hp k res hr => by
  unfold Vl at hr
  split at hr
  · exact ⟨f, 0, (Jfz f _ f _ _ _ _ _ _ ).trans hr⟩
  · cases hr
noncomputable def JsM (f : Nat) (o_z : Bool) (o_f : Bool) (o : List PV) (k : Res → Option Res) : Option Res := bif okZ true [] then bif decide (0 < zi o.length) then bif decide (0 < zi o.length) && (PV.isSt 99 #[Field.mk "Kind" 3 0 false "" "" 0, Field.mk "N" 3 1 false "" "" 8, Field.mk "S" 9 2 false "" "" 16].size (o.getD (Int.toNat 0) PV.top) && (PV.isInt IntKind.i64 (PV.child 0 (o.getD 0 PV.top)) && (PV.isInt IntKind.i64 (PV.child (0 + 1) (o.getD 0 PV.top)) && ((PV.child (0 + 1 + 1) (o.getD 0 PV.top)).isStr && true)))) && true then bif okZ false (List.take (apY [] (zi o.length)).length (apY [] (zi o.length))) then bif decide (0 < zi o.length) && (PV.isSt 99 #[Field.mk "Kind" 3 0 false "" "" 0, Field.mk "N" 3 1 false "" "" 8, Field.mk "S" 9 2 false "" "" 16].size (o.getD (Int.toNat 0) PV.top) && (PV.isInt IntKind.i64 (PV.child 0 (o.getD 0 PV.top)) && (PV.isInt IntKind.i64 (PV.child (0 + 1) (o.getD 0 PV.top)) && ((PV.child (0 + 1 + 1) (o.getD 0 PV.top)).isStr && true)))) && true then bif okZ false (List.take (apY (List.take (apY [] (zi o.length)).length (apY [] (zi o.length))) (PV.child 0 (o.getD 0 PV.top)).int).length (apY (List.take (apY [] (zi o.length)).length (apY [] (zi o.length))) (PV.child 0 (o.getD 0 PV.top)).int)) then bif decide (0 < zi o.length) && (PV.isSt 99 #[Field.mk "Kind" 3 0 false "" "" 0, Field.mk "N" 3 1 false "" "" 8, Field.mk "S" 9 2 false "" "" 16].size (o.getD (Int.toNat 0) PV.top) && (PV.isInt IntKind.i64 (PV.child 0 (o.getD 0 PV.top)) && (PV.isInt IntKind.i64 (PV.child (0 + 1) (o.getD 0 PV.top)) && ((PV.child (0 + 1 + 1) (o.getD 0 PV.top)).isStr && true)))) && true then bif okZ false (apI (List.take (apY (List.take (apY [] (zi o.length)).length (apY [] (zi o.length))) (PV.child 0 (o.getD 0 PV.top)).int).length (apY (List.take (apY [] (zi o.length)).length (apY [] (zi o.length))) (PV.child 0 (o.getD 0 PV.top)).int)) (PV.child (0 + 1) (o.getD 0 PV.top)).int) && (PV.child (0 + 1 + 1) (o.getD 0 PV.top)).str.size.ble 65535 then Yr f (fun x0_0 x1_0 => k (Res.mk (.ro 5 false false (List.take x0_0 x1_0)) [] [])) f o_z o_f o ((apT (apI (List.take (apY (List.take (apY [] (zi o.length)).length (apY [] (zi o.length))) (PV.child 0 (o.getD 0 PV.top)).int).length (apY (List.take (apY [] (zi o.length)).length (apY [] (zi o.length))) (PV.child 0 (o.getD 0 PV.top)).int)) (PV.child (0 + 1) (o.getD 0 PV.top)).int) (PV.child (0 + 1 + 1) (o.getD 0 PV.top)).str).length) (IntKind.i64.wrap (0 + 1)) (apT (apI (List.take (apY (List.take (apY [] (zi o.length)).length (apY [] (zi o.length))) (PV.child 0 (o.getD 0 PV.top)).int).length (apY (List.take (apY [] (zi o.length)).length (apY [] (zi o.length))) (PV.child 0 (o.getD 0 PV.top)).int)) (PV.child (0 + 1) (o.getD 0 PV.top)).int) (PV.child (0 + 1 + 1) (o.getD 0 PV.top)).str) else none else none else none else none else none else none else k (Res.mk (.ro 5 false false (List.take (apY [] (zi o.length)).length (apY [] (zi o.length)))) [] []) else none
theorem JAu (f : Nat) (o_z : Bool) (o_f : Bool) (o : List PV) (k : Res → Option Res) : JM tau Jlx Try.f114 (Try.f114.body.get!) (JiS (Vl f)) [.ro] 0 [.ro 99 o_z o_f o] [] k = JsM f o_z o_f o k := by kernel_rfl
theorem JwZ (f : Nat) : Jg (Try.f114.body.get!) (JiS (Vl f)) = [.s Yq WL Jb4 (Vl f)] := by kernel_rfl
theorem Jw0 (f : Nat) : ∀ q ∈ Jg (Try.f114.body.get!) (JiS (Vl f)), q.Ok tau Try.prog 0 := by
  rw [JwZ f]; simp only [List.forall_mem_cons, List.not_mem_nil, false_implies, implies_true, and_true]; exact JsL f
theorem Jqo : Try.prog.funcs[114]? = some Try.f114 := by kernel_rfl
theorem Jqp : Try.f114.body = some (Try.f114.body.get!) := by kernel_rfl
theorem Jqq : Enters Try.prog 114 := enters_of Jqo (by kernel_rfl) Jqp

noncomputable def Jw1 : Fns := F0
theorem Joa : Jz tau Try.prog Jw1 := JG
def JiT : An := (.seq .leaf (.seq (.seq .leaf (.block none (.seq (.seq .leaf (.cond .leaf .leaf)) (.cond (.seq .leaf (.cond (.seq .leaf .leaf) .leaf)) (.seq .leaf (.cond (.seq .leaf (.cond (.seq .leaf .leaf) .leaf)) (.seq .leaf .leaf))))))) (.seq (.seq .leaf (.cond (.seq .leaf .leaf) .leaf)) (.seq .leaf .leaf))))
noncomputable def Job (f : Nat) (c_Kind : Int) (c_N : Int) (c_S : ByteArray) (k : Res → Option Res) : Option Res :=
  bif c_Kind == 1 then
    bif c_Kind == 1 then
      bif decide (c_N < 1) then
        k (Res.mk (PV.sc (Value.int IntKind.i64 1)) [] [])
      else bif decide (c_N > 120) then
        k (Res.mk (PV.sc (Value.int IntKind.i64 1)) [] [])
      else bif !XA c_S (ByteArray.mk (Array.mk [])) then
        k (Res.mk (PV.sc (Value.int IntKind.i64 1)) [] [])
      else bif decide (zi c_S.size > 120) then
        k (Res.mk (PV.sc (Value.int IntKind.i64 5)) [] [])
      else k (Res.mk (PV.sc (Value.int IntKind.i64 0)) [] [])
    else bif c_Kind == 2 then
      bif c_N != 0 then
        k (Res.mk (PV.sc (Value.int IntKind.i64 1)) [] [])
      else bif XA c_S (ByteArray.mk (Array.mk [])) then
        k (Res.mk (PV.sc (Value.int IntKind.i64 1)) [] [])
      else bif decide (zi c_S.size > 120) then
        k (Res.mk (PV.sc (Value.int IntKind.i64 5)) [] [])
      else k (Res.mk (PV.sc (Value.int IntKind.i64 0)) [] [])
    else k (Res.mk (PV.sc (Value.int IntKind.i64 3)) [] [])
  else bif c_Kind == 3 then
    bif decide (c_N < 1) then
      k (Res.mk (PV.sc (Value.int IntKind.i64 1)) [] [])
    else bif decide (c_N > 120) then
      k (Res.mk (PV.sc (Value.int IntKind.i64 1)) [] [])
    else bif !XA c_S (ByteArray.mk (Array.mk [])) then
      k (Res.mk (PV.sc (Value.int IntKind.i64 1)) [] [])
    else bif decide (zi c_S.size > 120) then
      k (Res.mk (PV.sc (Value.int IntKind.i64 5)) [] [])
    else k (Res.mk (PV.sc (Value.int IntKind.i64 0)) [] [])
  else bif c_Kind == 2 then
    bif c_N != 0 then
      k (Res.mk (PV.sc (Value.int IntKind.i64 1)) [] [])
    else bif XA c_S (ByteArray.mk (Array.mk [])) then
      k (Res.mk (PV.sc (Value.int IntKind.i64 1)) [] [])
    else bif decide (zi c_S.size > 120) then
      k (Res.mk (PV.sc (Value.int IntKind.i64 5)) [] [])
    else k (Res.mk (PV.sc (Value.int IntKind.i64 0)) [] [])
  else k (Res.mk (PV.sc (Value.int IntKind.i64 3)) [] [])
theorem JAv (f : Nat) (c_Kind : Int) (c_N : Int) (c_S : ByteArray) (k : Res → Option Res) : JM tau Jw1 Try.f167 (Try.f167.body.get!) JiT [.ro] 0 [.st 99 [.sc (.int .i64 c_Kind), .sc (.int .i64 c_N), .sc (.string c_S)]] [] k = Job f c_Kind c_N c_S k := by kernel_rfl
theorem Jw2 (f : Nat) : Jg (Try.f167.body.get!) JiT = [] := by kernel_rfl
theorem Jw3 (f : Nat) : ∀ q ∈ Jg (Try.f167.body.get!) JiT, q.Ok tau Try.prog 0 := by
  rw [Jw2 f]; intro q hq; cases hq
theorem Jqr : Try.prog.funcs[167]? = some Try.f167 := by kernel_rfl
theorem Jqs : Try.f167.body = some (Try.f167.body.get!) := by kernel_rfl
theorem Jw4 : Enters Try.prog 167 := enters_of Jqr (by kernel_rfl) Jqs
noncomputable def Jhe : List PV → List Ent → (Res → Option Res) → Option Res
  | [.st 99 [.sc (.int .i64 c_Kind), .sc (.int .i64 c_N), .sc (.string c_S)]], [], k => Job 0 c_Kind c_N c_S k
  | _, _, _ => none
noncomputable def JAw : Sig := { own := [], run := Jhe }
theorem Jw5 : Ji tau Try.prog 167 JAw := JS Jr Joa Js Jqr Jqs JiT [.ro] 0 [] Jhe (Jw3 0) fun xs es k res hr => by
  unfold Jhe at hr
  split at hr
  · exact ⟨rfl, 0, (JAv 0 _ _ _  _).trans hr⟩
  · cases hr
noncomputable def Jw6 : Fns := F0
theorem Joc : Jz tau Try.prog Jw6 := JG
def JiU : An := (.seq .leaf (.seq (.seq .leaf (.block none (.seq (.seq .leaf (.cond .leaf .leaf)) (.cond (.seq .leaf (.cond (.seq .leaf .leaf) .leaf)) (.seq .leaf (.cond (.seq (.seq .leaf (.cond (.seq .leaf .leaf) .leaf)) (.seq .leaf (.cond (.seq .leaf .leaf) .leaf))) (.seq .leaf .leaf))))))) (.seq .leaf .leaf)))
noncomputable def Jod (f : Nat) (c_Kind : Int) (c_N : Int) (c_S : ByteArray) (k : Res → Option Res) : Option Res :=
  bif c_Kind == 1 then
    bif c_Kind == 1 then
      bif decide (c_N < 1) then
        k (Res.mk (PV.sc (Value.int IntKind.i64 1)) [] [])
      else bif decide (c_N > 120) then
        k (Res.mk (PV.sc (Value.int IntKind.i64 1)) [] [])
      else bif !XA c_S (ByteArray.mk (Array.mk [])) then
        k (Res.mk (PV.sc (Value.int IntKind.i64 1)) [] [])
      else k (Res.mk (PV.sc (Value.int IntKind.i64 0)) [] [])
    else bif c_Kind == 2 then
      bif c_N != 0 then
        k (Res.mk (PV.sc (Value.int IntKind.i64 1)) [] [])
      else bif XA c_S (ByteArray.mk (Array.mk [])) then
        k (Res.mk (PV.sc (Value.int IntKind.i64 1)) [] [])
      else bif decide (zi c_S.size > 120) then
        k (Res.mk (PV.sc (Value.int IntKind.i64 5)) [] [])
      else k (Res.mk (PV.sc (Value.int IntKind.i64 0)) [] [])
    else k (Res.mk (PV.sc (Value.int IntKind.i64 3)) [] [])
  else bif c_Kind == 3 then
    bif decide (c_N < 1) then
      k (Res.mk (PV.sc (Value.int IntKind.i64 1)) [] [])
    else bif decide (c_N > 120) then
      k (Res.mk (PV.sc (Value.int IntKind.i64 1)) [] [])
    else bif !XA c_S (ByteArray.mk (Array.mk [])) then
      k (Res.mk (PV.sc (Value.int IntKind.i64 1)) [] [])
    else k (Res.mk (PV.sc (Value.int IntKind.i64 0)) [] [])
  else bif c_Kind == 2 then
    bif c_N != 0 then
      k (Res.mk (PV.sc (Value.int IntKind.i64 1)) [] [])
    else bif XA c_S (ByteArray.mk (Array.mk [])) then
      k (Res.mk (PV.sc (Value.int IntKind.i64 1)) [] [])
    else bif decide (zi c_S.size > 120) then
      k (Res.mk (PV.sc (Value.int IntKind.i64 5)) [] [])
    else k (Res.mk (PV.sc (Value.int IntKind.i64 0)) [] [])
  else k (Res.mk (PV.sc (Value.int IntKind.i64 3)) [] [])
theorem JAx (f : Nat) (c_Kind : Int) (c_N : Int) (c_S : ByteArray) (k : Res → Option Res) : JM tau Jw6 Try.f145 (Try.f145.body.get!) JiU [.ro] 0 [.st 99 [.sc (.int .i64 c_Kind), .sc (.int .i64 c_N), .sc (.string c_S)]] [] k = Jod f c_Kind c_N c_S k := by kernel_rfl
theorem Jw7 (f : Nat) : Jg (Try.f145.body.get!) JiU = [] := by kernel_rfl
theorem Jw8 (f : Nat) : ∀ q ∈ Jg (Try.f145.body.get!) JiU, q.Ok tau Try.prog 0 := by
  rw [Jw7 f]; intro q hq; cases hq
theorem Jqt : Try.prog.funcs[145]? = some Try.f145 := by kernel_rfl
theorem Jqu : Try.f145.body = some (Try.f145.body.get!) := by kernel_rfl
theorem Jw9 : Enters Try.prog 145 := enters_of Jqt (by kernel_rfl) Jqu
noncomputable def Jhf : List PV → List Ent → (Res → Option Res) → Option Res
  | [.st 99 [.sc (.int .i64 c_Kind), .sc (.int .i64 c_N), .sc (.string c_S)]], [], k => Jod 0 c_Kind c_N c_S k
  | _, _, _ => none
noncomputable def JAy : Sig := { own := [], run := Jhf }
theorem Jxa : Ji tau Try.prog 145 JAy := JS Jr Joc Js Jqt Jqu JiU [.ro] 0 [] Jhf (Jw8 0) fun xs es k res hr => by
  unfold Jhf at hr
  split at hr
  · exact ⟨rfl, 0, (JAx 0 _ _ _  _).trans hr⟩
  · cases hr
-- FN op.check | ref4.check
structure CV where
  (kd n : Int) (s : ByteArray)
def Jlz (c : CV) : Int :=
  bif c.kd == 1 || c.kd == 3 then (bif decide (c.n < 1) || (decide (c.n > 120) || !(c.s.size == 0)) then 1 else 0)
  else bif c.kd == 2 then (bif !(c.n == 0) || c.s.size == 0 then 1 else bif decide (zi c.s.size > 120) then 5 else 0) else 3
noncomputable def ckC : CV → Int := hid Jlz
theorem Jhg (c : CV) : ckC c = Jlz c := by rw [ckC, hid_eq]
theorem JfA (s : ByteArray) : XA s (ByteArray.mk (Array.mk [])) = (s.size == 0) := by
  rw [Jh3]
  cases h : (s.size == 0) with
  | true =>
    have hs : s.size = 0 := by simpa using h
    refine decide_eq_true (ByteArray.ext (Array.eq_empty_of_size_eq_zero hs))
  | false =>
    refine decide_eq_false fun he => ?_
    rw [he] at h
    exact absurd h (by decide)
theorem Joe (kd n : Int) (s : ByteArray) (k : Res → Option Res) : Job 0 kd n s k = k ⟨.sc (.int .i64 (ckC ⟨kd, n, s⟩)), [], []⟩ := by
  rw [Jhg]
  unfold Job Jlz
  simp only [JfA, bne]
  have hcomb : (s.size == 0) = true → decide (zi s.size > 120) = false := fun h => by
    have : s.size = 0 := by simpa using h
    rw [this]; decide
  generalize (s.size == 0) = e0 at *
  generalize decide (zi s.size > 120) = e1 at *
  generalize decide (n < 1) = a
  generalize decide (n > 120) = b
  generalize (n == 0) = c
  generalize (kd == 1) = d1
  generalize (kd == 2) = d2
  generalize (kd == 3) = d3
  cases d1 <;> cases d3 <;> cases d2 <;> cases e0 <;> cases e1 <;> cases a <;> cases b <;> cases c <;> first | rfl | exact absurd (hcomb rfl) (by decide)
noncomputable def JdX : List PV → List Ent → (Res → Option Res) → Option Res
  | [.st 99 [.sc (.int .i64 kd), .sc (.int .i64 n), .sc (.string s)]], [], k => k ⟨.sc (.int .i64 (ckC ⟨kd, n, s⟩)), [], []⟩
  | _, _, _ => none
noncomputable def Jqv : Sig := { own := [], run := JdX }
theorem JsN : Ji tau Try.prog 167 Jqv := Jw5.of fun xs es k res hr => by
  change JdX xs es k = some res at hr
  unfold JdX at hr
  split at hr
  · rename_i kd n s
    exact (Joe kd n s k).trans hr
  · cases hr
theorem Jof (kd n : Int) (s : ByteArray) (k : Res → Option Res) : Jod 0 kd n s k = k ⟨.sc (.int .i64 (ckC ⟨kd, n, s⟩)), [], []⟩ := by
  rw [Jhg]
  unfold Jod Jlz
  simp only [JfA, bne]
  have hcomb : (s.size == 0) = true → decide (zi s.size > 120) = false := fun h => by
    have : s.size = 0 := by simpa using h
    rw [this]; decide
  generalize (s.size == 0) = e0 at *
  generalize decide (zi s.size > 120) = e1 at *
  generalize decide (n < 1) = a
  generalize decide (n > 120) = b
  generalize (n == 0) = c
  generalize (kd == 1) = d1
  generalize (kd == 2) = d2
  generalize (kd == 3) = d3
  cases d1 <;> cases d3 <;> cases d2 <;> cases e0 <;> cases e1 <;> cases a <;> cases b <;> cases c <;> first | rfl | exact absurd (hcomb rfl) (by decide)
noncomputable def JdY : List PV → List Ent → (Res → Option Res) → Option Res
  | [.st 99 [.sc (.int .i64 kd), .sc (.int .i64 n), .sc (.string s)]], [], k => k ⟨.sc (.int .i64 (ckC ⟨kd, n, s⟩)), [], []⟩
  | _, _, _ => none
noncomputable def Jqw : Sig := { own := [], run := JdY }
theorem JsO : Ji tau Try.prog 145 Jqw := Jxa.of fun xs es k res hr => by
  change JdY xs es k = some res at hr
  unfold JdY at hr
  split at hr
  · rename_i kd n s
    exact (Jof kd n s k).trans hr
  · cases hr
def Gb : Nat := 21
noncomputable def JlA : Fns := JD 167 Jqv (F0)
theorem JiV : Jz tau Try.prog JlA := (JG).add JsN Jw4
noncomputable def GH : Code := QB (Try.f160.body.get!) [1, 1, 0, 1, 0, 0]
def WN : Nm := [(9, .any), (10, .any), (11, .any)]
def QU : Nm := [(2, .any)]
def JbB : An := (.seq .leaf (.seq (.cond .leaf .leaf) (.seq (.block none (.seq .leaf (.seq .leaf (.seq .leaf (.cond (.seq .leaf .leaf) .leaf))))) .leaf)))
def JiW (r0 : QZ) : An := (.seq .leaf (.seq (.seq .leaf (.cond (.seq .leaf .leaf) .leaf)) (.seq (.seq .leaf (.block none (.sum WN Gb r0))) (.seq .leaf .leaf))))
noncomputable def Zs (f : Nat) (rc : Bool → Bool → List PV → Int → Int → Option Res) (k0 : Int → Option Res) (k1 : Option Res) (v0 : Bool) (v1 : Bool) (v2 : List PV) (v3 : Int) (v4 : Int) : Option Res :=
  bif decide (v4 < v3) then
    bif decide (0 ≤ v4) && decide (v4 < zi v2.length) &&
        (PV.isSt 99 #[Field.mk "Kind" 3 0 false "" "" 0, Field.mk "N" 3 1 false "" "" 8, Field.mk "S" 9 2 false "" "" 16].size (v2.getD v4.toNat PV.top) &&
          (PV.isInt IntKind.i64 (PV.child 0 (v2.getD v4.toNat PV.top)) &&
            (PV.isInt IntKind.i64 (PV.child (0 + 1) (v2.getD v4.toNat PV.top)) && ((PV.child (0 + 1 + 1) (v2.getD v4.toNat PV.top)).isStr && true)))) &&
      true then
      bif ckC (CV.mk (PV.child 0 (v2.getD v4.toNat PV.top)).int (PV.child (0 + 1) (v2.getD v4.toNat PV.top)).int (PV.child (0 + 1 + 1) (v2.getD v4.toNat PV.top)).str) != 0 then
        k0 (ckC (CV.mk (PV.child 0 (v2.getD v4.toNat PV.top)).int (PV.child (0 + 1) (v2.getD v4.toNat PV.top)).int (PV.child (0 + 1 + 1) (v2.getD v4.toNat PV.top)).str))
      else rc v0 v1 v2 v3 (IntKind.i64.wrap (v4 + 1))
    else none
  else k1
noncomputable def Ys (f : Nat) (k0 : Int → Option Res) (k1 : Option Res) : Nat → Bool → Bool → List PV → Int → Int → Option Res
  | 0, _, _, _, _, _ => none
  | n + 1, v0, v1, v2, v3, v4 => Zs f (Ys f k0 k1 n) k0 k1 v0 v1 v2 v3 v4
theorem JlB (f : Nat) (k : Kont) (n : Nat) (v0 : Bool) (v1 : Bool) (v2 : List
  PV) (v3 : Int) (v4 : Int) : Jo tau 0 WN (fun s k => ev tau JlA 0 0 GH (JbB ) s k) (n + 1) (Je WN Gb [PV.ro 99 v0 v1 v2, PV.sc (Value.int IntKind.i64 v3),
  PV.sc
    (Value.int IntKind.i64
      v4)] []) (Jv tau 0 QU k) = Zs f (fun v0 v1 v2 v3 v4 => Jo tau 0 WN (fun s k => ev tau JlA 0 0 GH (JbB ) s k) n (Je WN Gb [PV.ro 99 v0 v1 v2,
  PV.sc (Value.int IntKind.i64 v3),
  PV.sc
    (Value.int IntKind.i64
      v4)] []) (Jv tau 0 QU k)) (fun x0 => k Ex.ret (Je QU Gb [PV.sc (Value.int IntKind.i64 x0)] [])) (k (Ex.exit 0) (Je QU Gb [PV.top] [])) v0 v1 v2 v3 v4 := by kernel_rfl
theorem JfB (f : Nat) (k : Kont) : ∀ (n : Nat) (v0 : Bool) (v1 : Bool) (v2 : List
  PV) (v3 : Int) (v4 : Int), Jo tau 0 WN (fun s k => ev tau JlA 0 0 GH (JbB ) s k) n (Je WN Gb [PV.ro 99 v0 v1 v2, PV.sc (Value.int IntKind.i64 v3),
  PV.sc
    (Value.int IntKind.i64
      v4)] []) (Jv tau 0 QU k) = Ys f (fun x0 => k Ex.ret (Je QU Gb [PV.sc (Value.int IntKind.i64 x0)] [])) (k (Ex.exit 0) (Je QU Gb [PV.top] [])) n v0 v1 v2 v3 v4
  | 0, _, _, _, _, _ => rfl
  | n + 1, v0, v1, v2, v3, v4 => (JlB f k n v0 v1 v2 v3 v4).trans (congrArg (fun r => Zs f r (fun x0 => k Ex.ret (Je QU Gb [PV.sc
    (Value.int IntKind.i64 x0)] [])) (k (Ex.exit 0) (Je QU Gb [PV.top] [])) v0 v1 v2 v3 v4) (by funext v0 v1 v2 v3 v4; exact JfB f k n v0 v1 v2 v3 v4))
noncomputable def Vm (f : Nat) : List PV → List (Nat × Ent) → Kont → Option Res
  | [PV.ro 99 v0 v1 v2, PV.sc (Value.int IntKind.i64 v3),
  PV.sc
    (Value.int IntKind.i64 v4)], [], k => Ys f (fun x0 => k Ex.ret (Je QU Gb [PV.sc (Value.int IntKind.i64 x0)] [])) (k (Ex.exit 0) (Je QU Gb [PV.top] [])) f v0 v1 v2 v3 v4
  | _, _, _ => none
theorem Jog (f : Nat) : Jg GH JbB = [] := by kernel_rfl
theorem JsP (f : Nat) : (Item.l GH WN Gb (Vm f)).Ok tau Try.prog 0 := JI Jr JiV Js (x := JbB) (nm2 := QU) (Jp _ _ (by rw [Jog f]; intro q hq; cases hq)) fun vs hp k res hr => by
  unfold Vm at hr
  split at hr
  · exact ⟨f, 0, (JfB f _ f _ _ _ _ _ ).trans hr⟩
  · cases hr
noncomputable def JsQ (f : Nat) (o_z : Bool) (o_f : Bool) (o : List PV) (k : Res → Option Res) : Option Res :=
  bif decide (zi o.length > 40) then
    k (Res.mk (PV.sc (Value.int IntKind.i64 4)) [] [])
  else Ys f (fun x0_0 =>
    k (Res.mk (PV.sc (Value.int IntKind.i64 x0_0)) [] [])) (k (Res.mk (PV.sc (Value.int IntKind.i64 0)) [] [])) f o_z o_f o (zi o.length) (0)
theorem JAz (f : Nat) (o_z : Bool) (o_f : Bool) (o : List PV) (k : Res → Option Res) : JM tau JlA Try.f160 (Try.f160.body.get!) (JiW (Vm f)) [.ro] 0 [.ro 99 o_z o_f o] [] k = JsQ f o_z o_f o k := by kernel_rfl
theorem Jxb (f : Nat) : Jg (Try.f160.body.get!) (JiW (Vm f)) = [.l GH WN Gb (Vm f)] := by kernel_rfl
theorem Jxc (f : Nat) : ∀ q ∈ Jg (Try.f160.body.get!) (JiW (Vm f)), q.Ok tau Try.prog 0 := by
  rw [Jxb f]; simp only [List.forall_mem_cons, List.not_mem_nil, false_implies, implies_true, and_true]; exact JsP f
theorem Jqx : Try.prog.funcs[160]? = some Try.f160 := by kernel_rfl
theorem Jqy : Try.f160.body = some (Try.f160.body.get!) := by kernel_rfl
theorem Jqz : Enters Try.prog 160 := enters_of Jqx (by kernel_rfl) Jqy
def Gc : Nat := 22
noncomputable def JlC : Fns := JD 145 Jqw (F0)
theorem JiX : Jz tau Try.prog JlC := (JG).add JsO Jw9
noncomputable def GI : Code := QB (Try.f117.body.get!) [1, 1, 0, 1, 0, 0]
def WO : Nm := [(0, .any), (3, .any)]
def QV : Nm := [(2, .any)]
def JbC : An := (.seq (.seq .leaf (.cond .leaf .leaf)) (.seq (.block none (.seq .leaf (.seq .leaf (.cond (.seq .leaf .leaf) .leaf)))) .leaf))
def JiY (r0 : QZ) : An := (.seq .leaf (.seq (.seq .leaf (.cond (.seq .leaf .leaf) .leaf)) (.seq (.seq .leaf (.block none (.sum WO Gc r0))) (.seq .leaf .leaf))))
noncomputable def Zt (f : Nat) (rc : Bool → Bool → List PV → Int → Option Res) (k0 : Int → Option Res) (k1 : Option Res) (v0 : Bool) (v1 : Bool) (v2 : List PV) (v3 : Int) : Option Res := bif decide (v3 < zi v2.length) then bif decide (0 ≤ v3) && decide (v3 < zi v2.length) && (PV.isSt 99 #[Field.mk "Kind" 3 0 false "" "" 0, Field.mk "N" 3 1 false "" "" 8, Field.mk "S" 9 2 false "" "" 16].size (v2.getD v3.toNat PV.top) && (PV.isInt IntKind.i64 (PV.child 0 (v2.getD v3.toNat PV.top)) && (PV.isInt IntKind.i64 (PV.child (0 + 1) (v2.getD v3.toNat PV.top)) && ((PV.child (0 + 1 + 1) (v2.getD v3.toNat PV.top)).isStr && true)))) && true then bif ckC (CV.mk (PV.child 0 (v2.getD v3.toNat PV.top)).int (PV.child (0 + 1) (v2.getD v3.toNat PV.top)).int (PV.child (0 + 1 + 1) (v2.getD v3.toNat PV.top)).str) != 0 then k0 (ckC (CV.mk (PV.child 0 (v2.getD v3.toNat PV.top)).int (PV.child (0 + 1) (v2.getD v3.toNat PV.top)).int (PV.child (0 + 1 + 1) (v2.getD v3.toNat PV.top)).str)) else rc v0 v1 v2 (IntKind.i64.wrap (v3 + 1)) else none else k1
noncomputable def Yt (f : Nat) (k0 : Int → Option Res) (k1 : Option Res) : Nat → Bool → Bool → List PV → Int → Option Res
  | 0, _, _, _, _ => none
  | n + 1, v0, v1, v2, v3 => Zt f (Yt f k0 k1 n) k0 k1 v0 v1 v2 v3
theorem JlD (f : Nat) (k : Kont) (n : Nat) (v0 : Bool) (v1 : Bool) (v2 : List PV) (v3 : Int) : Jo tau 0 WO (fun s k => ev tau JlC 0 0 GI (JbC ) s k) (n + 1) (Je WO Gc [.ro 99 v0 v1 v2, .sc (.int .i64 v3)] []) (Jv tau 0 QV k) = Zt f (fun v0 v1 v2 v3 => Jo tau 0 WO (fun s k => ev tau JlC 0 0 GI (JbC ) s k) n (Je WO Gc [.ro 99 v0 v1 v2, .sc (.int .i64 v3)] []) (Jv tau 0 QV k)) (fun x0 => k Ex.ret (Je QV Gc [.sc (.int .i64 x0)] [])) (k (Ex.exit 0) (Je QV Gc [PV.top] [])) v0 v1 v2 v3 := by kernel_rfl
theorem JfC (f : Nat) (k : Kont) : ∀ (n : Nat) (v0 : Bool) (v1 : Bool) (v2 : List PV) (v3 : Int), Jo tau 0 WO (fun s k => ev tau JlC 0 0 GI (JbC ) s k) n (Je WO Gc [.ro 99 v0 v1 v2, .sc (.int .i64 v3)] []) (Jv tau 0 QV k) = Yt f (fun x0 => k Ex.ret (Je QV Gc [.sc (.int .i64 x0)] [])) (k (Ex.exit 0) (Je QV Gc [PV.top] [])) n v0 v1 v2 v3 | 0, _, _, _, _ => rfl | n + 1, v0, v1, v2, v3 => (JlD f k n v0 v1 v2 v3).trans (congrArg (fun r => Zt f r (fun x0 => k Ex.ret (Je QV Gc [.sc (.int .i64 x0)] [])) (k (Ex.exit 0) (Je QV Gc [PV.top] [])) v0 v1 v2 v3) (by funext v0 v1 v2 v3; exact JfC f k n v0 v1 v2 v3))
noncomputable def Vn (f : Nat) : List PV → List (Nat × Ent) → Kont → Option Res
  | [.ro 99 v0 v1 v2,
  .sc (.int .i64 v3)], [], k => Yt f (fun x0 => k Ex.ret (Je QV Gc [.sc (.int .i64 x0)] [])) (k (Ex.exit 0) (Je QV Gc [PV.top] [])) f v0 v1 v2 v3
  | _, _, _ => none
theorem Joh (f : Nat) : Jg GI JbC = [] := by kernel_rfl
theorem JsR (f : Nat) : (Item.l GI WO Gc (Vn f)).Ok tau Try.prog 0 := JI Jr JiX Js (x := JbC) (nm2 := QV) (Jp _ _ (by rw [Joh f]; intro q hq; cases hq)) fun vs hp k res hr => by
  unfold Vn at hr
  split at hr
  · exact ⟨f, 0, (JfC f _ f _ _ _ _ ).trans hr⟩
  · cases hr
noncomputable def JsS (f : Nat) (o_z : Bool) (o_f : Bool) (o : List PV) (k : Res → Option Res) : Option Res := bif decide (zi o.length > 40) then k (Res.mk (.sc (.int .i64 4)) [] []) else Yt f (fun x0_0 => k (Res.mk (.sc (.int .i64 x0_0)) [] [])) (k (Res.mk (.sc (.int .i64 0)) [] [])) f o_z o_f o (0)
theorem JAA (f : Nat) (o_z : Bool) (o_f : Bool) (o : List PV) (k : Res → Option Res) : JM tau JlC Try.f117 (Try.f117.body.get!) (JiY (Vn f)) [.ro] 0 [.ro 99 o_z o_f o] [] k = JsS f o_z o_f o k := by kernel_rfl
theorem Jxd (f : Nat) : Jg (Try.f117.body.get!) (JiY (Vn f)) = [.l GI WO Gc (Vn f)] := by kernel_rfl
theorem Jxe (f : Nat) : ∀ q ∈ Jg (Try.f117.body.get!) (JiY (Vn f)), q.Ok tau Try.prog 0 := by
  rw [Jxd f]; simp only [List.forall_mem_cons, List.not_mem_nil, false_implies, implies_true, and_true]; exact JsR f
theorem JqA : Try.prog.funcs[117]? = some Try.f117 := by kernel_rfl
theorem JqB : Try.f117.body = some (Try.f117.body.get!) := by kernel_rfl
theorem JqC : Enters Try.prog 117 := enters_of JqA (by kernel_rfl) JqB

-- FN op.Check | ref4.Check | law4.Few
def isCp : PV → Bool
  | .st t [.sc (.int .i64 _), .sc (.int .i64 _), .sc (.string _)] => t == 99
  | _ => false
theorem JbD {p : PV} : isCp p = true ↔ ∃ kd n s, p = .st 99 [.sc (.int .i64 kd), .sc (.int .i64 n), .sc (.string s)] := by
  constructor
  · intro h
    unfold isCp at h
    split at h
    · rename_i t kd n s
      obtain rfl : t = 99 := by simpa using h
      exact ⟨kd, n, s, rfl⟩
    · cases h
  · rintro ⟨kd, n, s, rfl⟩; rfl
def cv (p : PV) : CV := ⟨(p.child 0).int, (p.child 1).int, (p.child 2).str⟩
theorem XM {p : PV} (h : isCp p = true) : (PV.isSt 99 #[Field.mk "Kind" 3 0 false "" "" 0, Field.mk "N" 3 1 false "" "" 8, Field.mk "S" 9 2 false "" "" 16].size p && (PV.isInt IntKind.i64 (PV.child 0 p) && (PV.isInt IntKind.i64 (PV.child (0 + 1) p) && ((PV.child (0 + 1 + 1) p).isStr && true)))) = true := by
  obtain ⟨kd, n, s, rfl⟩ := JbD.1 h
  simp [PV.isSt, PV.child, PV.isInt, PV.isStr]
theorem XN {l : List PV} (h : l.all isCp = true) {i : Nat} (hi : i < l.length) : isCp (l.getD i .top) = true := by
  rw [List.getD_eq_getElem?_getD, List.getElem?_eq_getElem hi]
  exact List.all_eq_true.1 h _ (List.getElem_mem hi)
noncomputable def ckL : List PV → Int
  | [] => 0
  | p :: r => bif ckC (cv p) == 0 then ckL r else ckC (cv p)
noncomputable def JlE (l : List PV) : Int := bif decide (zi l.length > 40) then 4 else ckL l
noncomputable def ckO : List PV → Int := hid JlE
theorem JdZ (l : List PV) : ckO l = JlE l := by rw [ckO, hid_eq]
noncomputable def cOk : List PV → Bool := hid fun l => l.all isCp && Nat.ble l.length 9223372036854775807
theorem Yu {l : List PV} : cOk l = true ↔ l.all isCp = true ∧ l.length ≤ 9223372036854775807 := by
  rw [cOk, hid_eq, Bool.and_eq_true, Nat.ble_eq]
theorem XO {l : List PV} {i : Nat} (h : i < l.length) : l.drop i = l.getD i .top :: l.drop (i + 1) := by
  rw [List.drop_eq_getElem_cons h]; simp [List.getD_eq_getElem?_getD, h]
theorem JlF (l : List PV) (h1 : l.all isCp = true) (h2 : l.length ≤ 40) (f : Nat) (k0 : Int → Option Res) (k1 : Option Res) (z fl : Bool) : ∀ (d i n : Nat), i + d = l.length → d < n →
    Ys f k0 k1 n z fl l (zi l.length) (i : Int) = bif ckL (l.drop i) == 0 then k1 else k0 (ckL (l.drop i))
  | 0, i, n + 1, hi, hn => by
      rw [List.drop_of_length_le (by omega)]
      simp only [Ys, Zs]
      exact JK (by simp [zi]; omega)
  | d + 1, i, n + 1, hi, hn => by
      have g1 : ((i : Int)).toNat = i := by omega
      have w1 : IntKind.i64.wrap ((i : Int) + 1) = ((i + 1 : Nat) : Int) := by rw [wrap_i64 (by omega) (by omega)]; omega
      have hro : (decide (0 ≤ (i : Int)) && decide ((i : Int) < zi l.length) && (PV.isSt 99 #[Field.mk "Kind" 3 0 false "" "" 0, Field.mk "N" 3 1 false "" "" 8, Field.mk "S" 9 2 false "" "" 16].size (l.getD i PV.top) && (PV.isInt IntKind.i64 (PV.child 0 (l.getD i PV.top)) && (PV.isInt IntKind.i64 (PV.child (0 + 1) (l.getD i PV.top)) && ((PV.child (0 + 1 + 1) (l.getD i PV.top)).isStr && true)))) && true) = true := by
        have hq : (PV.isSt 99 #[Field.mk "Kind" 3 0 false "" "" 0, Field.mk "N" 3 1 false "" "" 8, Field.mk "S" 9 2 false "" "" 16].size (l.getD i PV.top) && (PV.isInt IntKind.i64 (PV.child 0 (l.getD i PV.top)) && (PV.isInt IntKind.i64 (PV.child (0 + 1) (l.getD i PV.top)) && ((PV.child (0 + 1 + 1) (l.getD i PV.top)).isStr && true)))) = true := XM (XN h1 (by omega))
        rw [hq]; simp [zi]; omega
      have hd := XO (l := l) (i := i) (by omega)
      have hs : CV.mk (PV.child 0 (l.getD i PV.top)).int (PV.child (0 + 1) (l.getD i PV.top)).int (PV.child (0 + 1 + 1) (l.getD i PV.top)).str = cv (l.getD i .top) := rfl
      simp only [Ys, Zs, g1, w1, hs]
      refine (Jc (by simp [zi]; omega)).trans ((Jc hro).trans ?_)
      rw [hd]
      cases hc : (ckC (cv (l.getD i .top)) == 0) with
      | true =>
        refine (JK (by simp only [bne, hc]; rfl)).trans ?_
        rw [JlF l h1 h2 f k0 k1 z fl d (i + 1) n (by omega) (by omega)]
        simp only [ckL, hc, cond_true]
      | false =>
        refine (Jc (by simp only [bne, hc]; rfl)).trans ?_
        simp only [ckL, hc, cond_false]
noncomputable def Jd0 : List PV → List Ent → (Res → Option Res) → Option Res
  | [.ro 99 z f l], [], k => bif cOk l then k ⟨.sc (.int .i64 (ckO l)), [], []⟩ else none
  | _, _, _ => none
noncomputable def JlG : Sig := { own := [], run := Jd0 }
theorem Joi (z f : Bool) (l : List PV) (h : cOk l = true) (k : Res → Option Res) : JsQ 50 z f l k = k ⟨.sc (.int .i64 (ckO l)), [], []⟩ := by
  obtain ⟨h1, h2⟩ := Yu.1 h
  rw [JdZ]
  unfold JsQ JlE
  cases hc : decide (zi l.length > 40) with
  | true => rfl
  | false =>
    have hl : l.length ≤ 40 := by simp only [zi, decide_eq_false_iff_not] at hc; omega
    rw [cond_false, cond_false]
    refine (JlF l h1 hl 50 _ _ z f l.length 0 50 (by omega) (by omega)).trans ?_
    rw [List.drop_zero]
    cases h0 : (ckL l == 0) with
    | true =>
      have : ckL l = 0 := by simpa using h0
      rw [this]; rfl
    | false => rfl
theorem JlH : Ji tau Try.prog 160 JlG := Ji.mk' fun xs es k res hl hr => by
  change Jd0 xs es k = some res at hr
  unfold Jd0 at hr
  split at hr
  · rename_i z f l
    obtain ⟨hc, hr⟩ := JL hr
    exact QQ Jr JiV Js Jqx Jqy (JiW (Vm 50)) [.ro] 0 0 (Jxc 50) hl rfl ((JAz 50 z f l k).trans ((Joi z f l hc k).trans hr))
  · cases hr
theorem JlI (l : List PV) (h1 : l.all isCp = true) (h2 : l.length ≤ 40) (f : Nat) (k0 : Int → Option Res) (k1 : Option Res) (z fl : Bool) : ∀ (d i n : Nat), i + d = l.length → d < n →
    Yt f k0 k1 n z fl l (i : Int) = bif ckL (l.drop i) == 0 then k1 else k0 (ckL (l.drop i))
  | 0, i, n + 1, hi, hn => by
      rw [List.drop_of_length_le (by omega)]
      simp only [Yt, Zt]
      exact JK (by simp [zi]; omega)
  | d + 1, i, n + 1, hi, hn => by
      have g1 : ((i : Int)).toNat = i := by omega
      have w1 : IntKind.i64.wrap ((i : Int) + 1) = ((i + 1 : Nat) : Int) := by rw [wrap_i64 (by omega) (by omega)]; omega
      have hro : (decide (0 ≤ (i : Int)) && decide ((i : Int) < zi l.length) && (PV.isSt 99 #[Field.mk "Kind" 3 0 false "" "" 0, Field.mk "N" 3 1 false "" "" 8, Field.mk "S" 9 2 false "" "" 16].size (l.getD i PV.top) && (PV.isInt IntKind.i64 (PV.child 0 (l.getD i PV.top)) && (PV.isInt IntKind.i64 (PV.child (0 + 1) (l.getD i PV.top)) && ((PV.child (0 + 1 + 1) (l.getD i PV.top)).isStr && true)))) && true) = true := by
        have hq : (PV.isSt 99 #[Field.mk "Kind" 3 0 false "" "" 0, Field.mk "N" 3 1 false "" "" 8, Field.mk "S" 9 2 false "" "" 16].size (l.getD i PV.top) && (PV.isInt IntKind.i64 (PV.child 0 (l.getD i PV.top)) && (PV.isInt IntKind.i64 (PV.child (0 + 1) (l.getD i PV.top)) && ((PV.child (0 + 1 + 1) (l.getD i PV.top)).isStr && true)))) = true := XM (XN h1 (by omega))
        rw [hq]; simp [zi]; omega
      have hd := XO (l := l) (i := i) (by omega)
      have hs : CV.mk (PV.child 0 (l.getD i PV.top)).int (PV.child (0 + 1) (l.getD i PV.top)).int (PV.child (0 + 1 + 1) (l.getD i PV.top)).str = cv (l.getD i .top) := rfl
      simp only [Yt, Zt, g1, w1, hs]
      refine (Jc (by simp [zi]; omega)).trans ((Jc hro).trans ?_)
      rw [hd]
      cases hc : (ckC (cv (l.getD i .top)) == 0) with
      | true =>
        refine (JK (by simp only [bne, hc]; rfl)).trans ?_
        rw [JlI l h1 h2 f k0 k1 z fl d (i + 1) n (by omega) (by omega)]
        simp only [ckL, hc, cond_true]
      | false =>
        refine (Jc (by simp only [bne, hc]; rfl)).trans ?_
        simp only [ckL, hc, cond_false]
noncomputable def Jd1 : List PV → List Ent → (Res → Option Res) → Option Res
  | [.ro 99 z f l], [], k => bif cOk l then k ⟨.sc (.int .i64 (ckO l)), [], []⟩ else none
  | _, _, _ => none
noncomputable def JlJ : Sig := { own := [], run := Jd1 }
theorem Joj (z f : Bool) (l : List PV) (h : cOk l = true) (k : Res → Option Res) : JsS 50 z f l k = k ⟨.sc (.int .i64 (ckO l)), [], []⟩ := by
  obtain ⟨h1, h2⟩ := Yu.1 h
  rw [JdZ]
  unfold JsS JlE
  cases hc : decide (zi l.length > 40) with
  | true => rfl
  | false =>
    have hl : l.length ≤ 40 := by simp only [zi, decide_eq_false_iff_not] at hc; omega
    rw [cond_false, cond_false]
    refine (JlI l h1 hl 50 _ _ z f l.length 0 50 (by omega) (by omega)).trans ?_
    rw [List.drop_zero]
    cases h0 : (ckL l == 0) with
    | true =>
      have : ckL l = 0 := by simpa using h0
      rw [this]; rfl
    | false => rfl
theorem JlK : Ji tau Try.prog 117 JlJ := Ji.mk' fun xs es k res hl hr => by
  change Jd1 xs es k = some res at hr
  unfold Jd1 at hr
  split at hr
  · rename_i z f l
    obtain ⟨hc, hr⟩ := JL hr
    exact QQ Jr JiX Js JqA JqB (JiY (Vn 50)) [.ro] 0 0 (Jxe 50) hl rfl ((JAA 50 z f l k).trans ((Joj z f l hc k).trans hr))
  · cases hr
-- FN delta.OpBytes | ref8.OpBytes
noncomputable def Zu (c : CV) : List Int := [IntKind.u8.wrap c.kd] ++ (Qj c.n ++ Qt c.s)
noncomputable def QL (l : List PV) : List Int := l.flatMap fun p => Zu (cv p)
noncomputable def Jok (l : List PV) : List Int := [IntKind.u8.wrap (zi l.length)] ++ QL l
noncomputable def opB : List PV → List Int := hid Jok
theorem Jd2 (l : List PV) : opB l = Jok l := by rw [opB, hid_eq]
theorem Gd (c : CV) : (Zu c).length = c.s.size + 11 := by simp [Zu]; omega
theorem JlL (c : CV) : ∀ x ∈ Zu c, 0 ≤ x ∧ x < 256 := by
  intro x hx
  simp only [Zu, List.mem_append, List.mem_singleton] at hx
  rcases hx with rfl | h | h
  · exact ZH _
  · exact Ye _ x h
  · exact Jfo _ x h
theorem JsT (l : List PV) : ∀ x ∈ opB l, 0 ≤ x ∧ x < 256 := by
  intro x hx
  rw [Jd2] at hx
  rcases List.mem_append.1 hx with h | h
  · rw [List.mem_singleton.1 h]; exact ZH _
  · obtain ⟨p, _, h⟩ := List.mem_flatMap.1 h
    exact JlL _ x h
noncomputable def cBy : List PV → Bool := hid fun l => l.all isCp && (l.all (fun p => decide ((cv p).s.size ≤ 65535)) && decide (l.length ≤ 1000))
theorem JaA {l : List PV} : cBy l = true ↔ l.all isCp = true ∧ (∀ p ∈ l, (cv p).s.size ≤ 65535) ∧ l.length ≤ 1000 := by
  rw [cBy, hid_eq]; simp only [Bool.and_eq_true, List.all_eq_true, decide_eq_true_eq]
theorem JiZ (L : List PV) (p : PV) : apT (apI (apY L (PV.child 0 p).int) (PV.child (0 + 1) p).int) (PV.child (0 + 1 + 1) p).str = L ++ pu .u8 (Zu (cv p)) := by
  rw [Vk, GF, JbA]
  show _ = L ++ pu .u8 ([IntKind.u8.wrap (PV.child 0 p).int] ++ (Qj (PV.child (0 + 1) p).int ++ Qt (PV.child (0 + 1 + 1) p).str))
  simp only [JZ, List.append_assoc]
theorem ZL (L : List PV) (n : Int) : (apY L n).length = L.length + 1 := by rw [JbA]; simp
theorem JaB (L : List PV) (n : Int) : (apI L n).length = L.length + 8 := by rw [GF]; simp
theorem Q1 {l : List PV} (h : l.length ≤ 1000000000) : okZ false l = true := by rw [Zq]; exact Wp.2 ⟨fun h => (by cases h), h⟩
theorem JlM (l : List PV) (h1 : l.all isCp = true) (h3 : ∀ p ∈ l, (cv p).s.size ≤ 65535) (h2 : l.length ≤ 1000) (f : Nat) (k0 : Nat → List PV → Option Res) (z fl : Bool) : ∀ (d i n : Nat) (L : List PV), i + d = l.length → d < n → L.length ≤ 1 + i * 65546 →
    Yr f k0 n z fl l L.length (i : Int) L = k0 (L ++ pu .u8 (QL (l.drop i))).length (L ++ pu .u8 (QL (l.drop i)))
  | 0, i, n + 1, L, hi, hn, hL => by
      rw [List.drop_of_length_le (by omega)]
      simp only [Yr, Zr, QL, List.flatMap_nil, Jrl, List.append_nil]
      exact JK (by simp [zi]; omega)
  | d + 1, i, n + 1, L, hi, hn, hL => by
      have g1 : ((i : Int)).toNat = i := by omega
      have w1 : IntKind.i64.wrap ((i : Int) + 1) = ((i + 1 : Nat) : Int) := by rw [wrap_i64 (by omega) (by omega)]; omega
      have hro : (decide (0 ≤ (i : Int)) && decide ((i : Int) < zi l.length) && (PV.isSt 99 #[Field.mk "Kind" 3 0 false "" "" 0, Field.mk "N" 3 1 false "" "" 8, Field.mk "S" 9 2 false "" "" 16].size (l.getD i PV.top) && (PV.isInt IntKind.i64 (PV.child 0 (l.getD i PV.top)) && (PV.isInt IntKind.i64 (PV.child (0 + 1) (l.getD i PV.top)) && ((PV.child (0 + 1 + 1) (l.getD i PV.top)).isStr && true)))) && true) = true := by
        have hq : (PV.isSt 99 #[Field.mk "Kind" 3 0 false "" "" 0, Field.mk "N" 3 1 false "" "" 8, Field.mk "S" 9 2 false "" "" 16].size (l.getD i PV.top) && (PV.isInt IntKind.i64 (PV.child 0 (l.getD i PV.top)) && (PV.isInt IntKind.i64 (PV.child (0 + 1) (l.getD i PV.top)) && ((PV.child (0 + 1 + 1) (l.getD i PV.top)).isStr && true)))) = true := XM (XN h1 (by omega))
        rw [hq]; simp [zi]; omega
      have hd := XO (l := l) (i := i) (by omega)
      have hmem : l.getD i .top ∈ l := by rw [List.getD_eq_getElem?_getD, List.getElem?_eq_getElem (by omega)]; exact List.getElem_mem (by omega)
      have hsz := h3 _ hmem
      have hs2 : (PV.child (0 + 1 + 1) (l.getD i PV.top)).str.size.ble 65535 = true := Nat.ble_eq.symm ▸ hsz
      have hi2 : i * 65546 ≤ 999 * 65546 := Nat.mul_le_mul_right _ (by omega)
      simp only [Yr, Zr, g1, w1, List.take_length]
      refine (Jc (by simp [zi]; omega)).trans ((Jc hro).trans ((Jc (Q1 (by omega))).trans ((Jc hro).trans ((Jc (Q1 (by rw [ZL]; omega))).trans ((Jc hro).trans ((Jc (by rw [Q1 (by rw [JaB, ZL]; omega), hs2]; rfl)).trans ?_))))))
      rw [JiZ]
      refine (JlM l h1 h3 h2 f k0 z fl d (i + 1) n _ (by omega) (by omega) (by rw [List.length_append, JO, Gd]; omega)).trans ?_
      rw [hd]
      simp only [QL, List.flatMap_cons, JZ, List.append_assoc]
theorem JlN {l : List PV} : apY [] (zi l.length) = pu .u8 [IntKind.u8.wrap (zi l.length)] := by rw [JbA]; rfl
noncomputable def Jd3 : List PV → List Ent → (Res → Option Res) → Option Res
  | [.ro 99 z f l], [], k => bif cBy l then k ⟨.ro 5 false false (pu .u8 (opB l)), [], []⟩ else none
  | _, _, _ => none
noncomputable def JlO : Sig := { own := [], run := Jd3 }
theorem Jol (z f : Bool) (l : List PV) (h : cBy l = true) (k : Res → Option Res) : JsM 1010 z f l k = k ⟨.ro 5 false false (pu .u8 (opB l)), [], []⟩ := by
  obtain ⟨h1, h3, h2⟩ := JaA.1 h
  have hY := JlN (l := l)
  rw [Jd2]
  unfold JsM
  simp only [List.take_length]
  refine (Jc (by rw [Zq]; rfl)).trans ?_
  cases l with
  | nil => exact (JK (by simp [zi])).trans (by rw [hY]; rfl)
  | cons p r =>
    have hq : (PV.isSt 99 #[Field.mk "Kind" 3 0 false "" "" 0, Field.mk "N" 3 1 false "" "" 8, Field.mk "S" 9 2 false "" "" 16].size ((p :: r).getD 0 PV.top) && (PV.isInt IntKind.i64 (PV.child 0 ((p :: r).getD 0 PV.top)) && (PV.isInt IntKind.i64 (PV.child (0 + 1) ((p :: r).getD 0 PV.top)) && ((PV.child (0 + 1 + 1) ((p :: r).getD 0 PV.top)).isStr && true)))) = true := by
      have := XM (XN h1 (i := 0) (by simp))
      exact this
    have hro : (decide (0 < zi (p :: r).length) && (PV.isSt 99 #[Field.mk "Kind" 3 0 false "" "" 0, Field.mk "N" 3 1 false "" "" 8, Field.mk "S" 9 2 false "" "" 16].size ((p :: r).getD 0 PV.top) && (PV.isInt IntKind.i64 (PV.child 0 ((p :: r).getD 0 PV.top)) && (PV.isInt IntKind.i64 (PV.child (0 + 1) ((p :: r).getD 0 PV.top)) && ((PV.child (0 + 1 + 1) ((p :: r).getD 0 PV.top)).isStr && true)))) && true) = true := by
      rw [hq]; simp [zi]
    have hsz := h3 p List.mem_cons_self
    have hs2 : (PV.child (0 + 1 + 1) ((p :: r).getD 0 PV.top)).str.size.ble 65535 = true := Nat.ble_eq.symm ▸ hsz
    have l1 : (apY [] (zi (p :: r).length)).length = 1 := by rw [ZL]; rfl
    refine (Jc (by simp [zi])).trans ((Jc hro).trans ((Jc (Q1 (by rw [l1]; decide))).trans ((Jc hro).trans ((Jc (Q1 (by rw [ZL, l1]; decide))).trans ((Jc hro).trans ((Jc (by rw [Q1 (by rw [JaB, ZL, l1]; decide), hs2]; rfl)).trans ?_))))))
    rw [JiZ]
    have w1 : IntKind.i64.wrap (0 + 1) = ((1 : Nat) : Int) := by decide
    rw [w1]
    refine (JlM (p :: r) h1 h3 h2 1010 _ z f r.length 1 1010 _ (by simp; omega) (by simp at h2; omega) (by rw [List.length_append, JO, Gd, l1]; have : (cv ((p :: r).getD 0 PV.top)).s.size ≤ 65535 := hsz; omega)).trans ?_
    rw [List.take_length, hY]
    simp only [Jok, QL, List.flatMap_cons, JZ, List.append_assoc, List.drop_succ_cons, List.drop_zero, List.getD_cons_zero]
theorem JlP : Ji tau Try.prog 114 JlO := Ji.mk' fun xs es k res hl hr => by
  change Jd3 xs es k = some res at hr
  unfold Jd3 at hr
  split at hr
  · rename_i z f l
    obtain ⟨hc, hr⟩ := JL hr
    exact QQ Jr JiR Js Jqo Jqp (JiS (Vl 1010)) [.ro] 0 0 (Jw0 1010) hl rfl ((JAu 1010 z f l k).trans ((Jol z f l hc k).trans hr))
  · cases hr
noncomputable def Jxf : Fns := JD 114 JlO (JD 98 Jn6 (JD 97 JsJ (JD 96 JsH (F0))))
theorem Jom : Jz tau Try.prog Jxf := ((((JG).add Jqm Jwc).add Jqn Jso).add Jlu Jsj).add JlP Jqq
def Jon : Nm := [(1, .any), (3, .any), (16, .any), (17, .any), (18, .any)]
def JsU : An := (.seq .leaf (.seq (.cond .leaf .leaf) (.seq (.block none (.seq .leaf .leaf)) .leaf)))
def Ji0 : An := (.seq .leaf (.seq .leaf (.seq (.seq .leaf (.block none (.loop Jon JsU))) (.seq .leaf (.seq .leaf .leaf)))))
noncomputable def JsV (f : Nat) (d_Author_D : Int) (d_Author_U : Int) (d_Id : Int) (d_Version : Int) (d_Hash : List PV) (d_Kind : Int) (d_Op_z : Bool) (d_Op_f : Bool) (d_Op : List PV) (d_Who_D : Int) (d_Who_U : Int) (k : Res → Option Res) : Option Res := bif okZ true [] then bif okZ false (List.take (apI [] d_Author_D).length (apI [] d_Author_D)) then bif okZ false (List.take (apI (List.take (apI [] d_Author_D).length (apI [] d_Author_D)) d_Author_U).length (apI (List.take (apI [] d_Author_D).length (apI [] d_Author_D)) d_Author_U)) then bif okZ false (List.take (apI (List.take (apI (List.take (apI [] d_Author_D).length (apI [] d_Author_D)) d_Author_U).length (apI (List.take (apI [] d_Author_D).length (apI [] d_Author_D)) d_Author_U)) d_Id).length (apI (List.take (apI (List.take (apI [] d_Author_D).length (apI [] d_Author_D)) d_Author_U).length (apI (List.take (apI [] d_Author_D).length (apI [] d_Author_D)) d_Author_U)) d_Id)) then bif Jn ((apI (List.take (apI (List.take (apI (List.take (apI [] d_Author_D).length (apI [] d_Author_D)) d_Author_U).length (apI (List.take (apI [] d_Author_D).length (apI [] d_Author_D)) d_Author_U)) d_Id).length (apI (List.take (apI (List.take (apI [] d_Author_D).length (apI [] d_Author_D)) d_Author_U).length (apI (List.take (apI [] d_Author_D).length (apI [] d_Author_D)) d_Author_U)) d_Id)) d_Version).length + (List.take 32 d_Hash).length) 1 && true then bif okZ false (List.take ((apI (List.take (apI (List.take (apI (List.take (apI [] d_Author_D).length (apI [] d_Author_D)) d_Author_U).length (apI (List.take (apI [] d_Author_D).length (apI [] d_Author_D)) d_Author_U)) d_Id).length (apI (List.take (apI (List.take (apI [] d_Author_D).length (apI [] d_Author_D)) d_Author_U).length (apI (List.take (apI [] d_Author_D).length (apI [] d_Author_D)) d_Author_U)) d_Id)) d_Version).length + (List.take 32 d_Hash).length) (List.take (apI (List.take (apI (List.take (apI (List.take (apI [] d_Author_D).length (apI [] d_Author_D)) d_Author_U).length (apI (List.take (apI [] d_Author_D).length (apI [] d_Author_D)) d_Author_U)) d_Id).length (apI (List.take (apI (List.take (apI [] d_Author_D).length (apI [] d_Author_D)) d_Author_U).length (apI (List.take (apI [] d_Author_D).length (apI [] d_Author_D)) d_Author_U)) d_Id)) d_Version).length (apI (List.take (apI (List.take (apI (List.take (apI [] d_Author_D).length (apI [] d_Author_D)) d_Author_U).length (apI (List.take (apI [] d_Author_D).length (apI [] d_Author_D)) d_Author_U)) d_Id).length (apI (List.take (apI (List.take (apI [] d_Author_D).length (apI [] d_Author_D)) d_Author_U).length (apI (List.take (apI [] d_Author_D).length (apI [] d_Author_D)) d_Author_U)) d_Id)) d_Version) ++ List.take 32 d_Hash)) then bif cBy d_Op then bif Jh IntKind.u8 (pu IntKind.u8 (opB d_Op)) && true then bif okZ false (List.take (apY (List.take ((apI (List.take (apI (List.take (apI (List.take (apI [] d_Author_D).length (apI [] d_Author_D)) d_Author_U).length (apI (List.take (apI [] d_Author_D).length (apI [] d_Author_D)) d_Author_U)) d_Id).length (apI (List.take (apI (List.take (apI [] d_Author_D).length (apI [] d_Author_D)) d_Author_U).length (apI (List.take (apI [] d_Author_D).length (apI [] d_Author_D)) d_Author_U)) d_Id)) d_Version).length + (List.take 32 d_Hash).length) (List.take (apI (List.take (apI (List.take (apI (List.take (apI [] d_Author_D).length (apI [] d_Author_D)) d_Author_U).length (apI (List.take (apI [] d_Author_D).length (apI [] d_Author_D)) d_Author_U)) d_Id).length (apI (List.take (apI (List.take (apI [] d_Author_D).length (apI [] d_Author_D)) d_Author_U).length (apI (List.take (apI [] d_Author_D).length (apI [] d_Author_D)) d_Author_U)) d_Id)) d_Version).length (apI (List.take (apI (List.take (apI (List.take (apI [] d_Author_D).length (apI [] d_Author_D)) d_Author_U).length (apI (List.take (apI [] d_Author_D).length (apI [] d_Author_D)) d_Author_U)) d_Id).length (apI (List.take (apI (List.take (apI [] d_Author_D).length (apI [] d_Author_D)) d_Author_U).length (apI (List.take (apI [] d_Author_D).length (apI [] d_Author_D)) d_Author_U)) d_Id)) d_Version) ++ List.take 32 d_Hash)) d_Kind).length (apY (List.take ((apI (List.take (apI (List.take (apI (List.take (apI [] d_Author_D).length (apI [] d_Author_D)) d_Author_U).length (apI (List.take (apI [] d_Author_D).length (apI [] d_Author_D)) d_Author_U)) d_Id).length (apI (List.take (apI (List.take (apI [] d_Author_D).length (apI [] d_Author_D)) d_Author_U).length (apI (List.take (apI [] d_Author_D).length (apI [] d_Author_D)) d_Author_U)) d_Id)) d_Version).length + (List.take 32 d_Hash).length) (List.take (apI (List.take (apI (List.take (apI (List.take (apI [] d_Author_D).length (apI [] d_Author_D)) d_Author_U).length (apI (List.take (apI [] d_Author_D).length (apI [] d_Author_D)) d_Author_U)) d_Id).length (apI (List.take (apI (List.take (apI [] d_Author_D).length (apI [] d_Author_D)) d_Author_U).length (apI (List.take (apI [] d_Author_D).length (apI [] d_Author_D)) d_Author_U)) d_Id)) d_Version).length (apI (List.take (apI (List.take (apI (List.take (apI [] d_Author_D).length (apI [] d_Author_D)) d_Author_U).length (apI (List.take (apI [] d_Author_D).length (apI [] d_Author_D)) d_Author_U)) d_Id).length (apI (List.take (apI (List.take (apI [] d_Author_D).length (apI [] d_Author_D)) d_Author_U).length (apI (List.take (apI [] d_Author_D).length (apI [] d_Author_D)) d_Author_U)) d_Id)) d_Version) ++ List.take 32 d_Hash)) d_Kind)) && (ByteArray.mk (Array.mk (Jq (false, pu IntKind.u8 (opB d_Op)).snd))).size.ble 65535 then bif okZ false (List.take (apT (List.take (apY (List.take ((apI (List.take (apI (List.take (apI (List.take (apI [] d_Author_D).length (apI [] d_Author_D)) d_Author_U).length (apI (List.take (apI [] d_Author_D).length (apI [] d_Author_D)) d_Author_U)) d_Id).length (apI (List.take (apI (List.take (apI [] d_Author_D).length (apI [] d_Author_D)) d_Author_U).length (apI (List.take (apI [] d_Author_D).length (apI [] d_Author_D)) d_Author_U)) d_Id)) d_Version).length + (List.take 32 d_Hash).length) (List.take (apI (List.take (apI (List.take (apI (List.take (apI [] d_Author_D).length (apI [] d_Author_D)) d_Author_U).length (apI (List.take (apI [] d_Author_D).length (apI [] d_Author_D)) d_Author_U)) d_Id).length (apI (List.take (apI (List.take (apI [] d_Author_D).length (apI [] d_Author_D)) d_Author_U).length (apI (List.take (apI [] d_Author_D).length (apI [] d_Author_D)) d_Author_U)) d_Id)) d_Version).length (apI (List.take (apI (List.take (apI (List.take (apI [] d_Author_D).length (apI [] d_Author_D)) d_Author_U).length (apI (List.take (apI [] d_Author_D).length (apI [] d_Author_D)) d_Author_U)) d_Id).length (apI (List.take (apI (List.take (apI [] d_Author_D).length (apI [] d_Author_D)) d_Author_U).length (apI (List.take (apI [] d_Author_D).length (apI [] d_Author_D)) d_Author_U)) d_Id)) d_Version) ++ List.take 32 d_Hash)) d_Kind).length (apY (List.take ((apI (List.take (apI (List.take (apI (List.take (apI [] d_Author_D).length (apI [] d_Author_D)) d_Author_U).length (apI (List.take (apI [] d_Author_D).length (apI [] d_Author_D)) d_Author_U)) d_Id).length (apI (List.take (apI (List.take (apI [] d_Author_D).length (apI [] d_Author_D)) d_Author_U).length (apI (List.take (apI [] d_Author_D).length (apI [] d_Author_D)) d_Author_U)) d_Id)) d_Version).length + (List.take 32 d_Hash).length) (List.take (apI (List.take (apI (List.take (apI (List.take (apI [] d_Author_D).length (apI [] d_Author_D)) d_Author_U).length (apI (List.take (apI [] d_Author_D).length (apI [] d_Author_D)) d_Author_U)) d_Id).length (apI (List.take (apI (List.take (apI [] d_Author_D).length (apI [] d_Author_D)) d_Author_U).length (apI (List.take (apI [] d_Author_D).length (apI [] d_Author_D)) d_Author_U)) d_Id)) d_Version).length (apI (List.take (apI (List.take (apI (List.take (apI [] d_Author_D).length (apI [] d_Author_D)) d_Author_U).length (apI (List.take (apI [] d_Author_D).length (apI [] d_Author_D)) d_Author_U)) d_Id).length (apI (List.take (apI (List.take (apI [] d_Author_D).length (apI [] d_Author_D)) d_Author_U).length (apI (List.take (apI [] d_Author_D).length (apI [] d_Author_D)) d_Author_U)) d_Id)) d_Version) ++ List.take 32 d_Hash)) d_Kind)) (ByteArray.mk (Array.mk (Jq (false, pu IntKind.u8 (opB d_Op)).snd)))).length (apT (List.take (apY (List.take ((apI (List.take (apI (List.take (apI (List.take (apI [] d_Author_D).length (apI [] d_Author_D)) d_Author_U).length (apI (List.take (apI [] d_Author_D).length (apI [] d_Author_D)) d_Author_U)) d_Id).length (apI (List.take (apI (List.take (apI [] d_Author_D).length (apI [] d_Author_D)) d_Author_U).length (apI (List.take (apI [] d_Author_D).length (apI [] d_Author_D)) d_Author_U)) d_Id)) d_Version).length + (List.take 32 d_Hash).length) (List.take (apI (List.take (apI (List.take (apI (List.take (apI [] d_Author_D).length (apI [] d_Author_D)) d_Author_U).length (apI (List.take (apI [] d_Author_D).length (apI [] d_Author_D)) d_Author_U)) d_Id).length (apI (List.take (apI (List.take (apI [] d_Author_D).length (apI [] d_Author_D)) d_Author_U).length (apI (List.take (apI [] d_Author_D).length (apI [] d_Author_D)) d_Author_U)) d_Id)) d_Version).length (apI (List.take (apI (List.take (apI (List.take (apI [] d_Author_D).length (apI [] d_Author_D)) d_Author_U).length (apI (List.take (apI [] d_Author_D).length (apI [] d_Author_D)) d_Author_U)) d_Id).length (apI (List.take (apI (List.take (apI [] d_Author_D).length (apI [] d_Author_D)) d_Author_U).length (apI (List.take (apI [] d_Author_D).length (apI [] d_Author_D)) d_Author_U)) d_Id)) d_Version) ++ List.take 32 d_Hash)) d_Kind).length (apY (List.take ((apI (List.take (apI (List.take (apI (List.take (apI [] d_Author_D).length (apI [] d_Author_D)) d_Author_U).length (apI (List.take (apI [] d_Author_D).length (apI [] d_Author_D)) d_Author_U)) d_Id).length (apI (List.take (apI (List.take (apI [] d_Author_D).length (apI [] d_Author_D)) d_Author_U).length (apI (List.take (apI [] d_Author_D).length (apI [] d_Author_D)) d_Author_U)) d_Id)) d_Version).length + (List.take 32 d_Hash).length) (List.take (apI (List.take (apI (List.take (apI (List.take (apI [] d_Author_D).length (apI [] d_Author_D)) d_Author_U).length (apI (List.take (apI [] d_Author_D).length (apI [] d_Author_D)) d_Author_U)) d_Id).length (apI (List.take (apI (List.take (apI [] d_Author_D).length (apI [] d_Author_D)) d_Author_U).length (apI (List.take (apI [] d_Author_D).length (apI [] d_Author_D)) d_Author_U)) d_Id)) d_Version).length (apI (List.take (apI (List.take (apI (List.take (apI [] d_Author_D).length (apI [] d_Author_D)) d_Author_U).length (apI (List.take (apI [] d_Author_D).length (apI [] d_Author_D)) d_Author_U)) d_Id).length (apI (List.take (apI (List.take (apI [] d_Author_D).length (apI [] d_Author_D)) d_Author_U).length (apI (List.take (apI [] d_Author_D).length (apI [] d_Author_D)) d_Author_U)) d_Id)) d_Version) ++ List.take 32 d_Hash)) d_Kind)) (ByteArray.mk (Array.mk (Jq (false, pu IntKind.u8 (opB d_Op)).snd))))) then bif okZ false (List.take (apI (List.take (apT (List.take (apY (List.take ((apI (List.take (apI (List.take (apI (List.take (apI [] d_Author_D).length (apI [] d_Author_D)) d_Author_U).length (apI (List.take (apI [] d_Author_D).length (apI [] d_Author_D)) d_Author_U)) d_Id).length (apI (List.take (apI (List.take (apI [] d_Author_D).length (apI [] d_Author_D)) d_Author_U).length (apI (List.take (apI [] d_Author_D).length (apI [] d_Author_D)) d_Author_U)) d_Id)) d_Version).length + (List.take 32 d_Hash).length) (List.take (apI (List.take (apI (List.take (apI (List.take (apI [] d_Author_D).length (apI [] d_Author_D)) d_Author_U).length (apI (List.take (apI [] d_Author_D).length (apI [] d_Author_D)) d_Author_U)) d_Id).length (apI (List.take (apI (List.take (apI [] d_Author_D).length (apI [] d_Author_D)) d_Author_U).length (apI (List.take (apI [] d_Author_D).length (apI [] d_Author_D)) d_Author_U)) d_Id)) d_Version).length (apI (List.take (apI (List.take (apI (List.take (apI [] d_Author_D).length (apI [] d_Author_D)) d_Author_U).length (apI (List.take (apI [] d_Author_D).length (apI [] d_Author_D)) d_Author_U)) d_Id).length (apI (List.take (apI (List.take (apI [] d_Author_D).length (apI [] d_Author_D)) d_Author_U).length (apI (List.take (apI [] d_Author_D).length (apI [] d_Author_D)) d_Author_U)) d_Id)) d_Version) ++ List.take 32 d_Hash)) d_Kind).length (apY (List.take ((apI (List.take (apI (List.take (apI (List.take (apI [] d_Author_D).length (apI [] d_Author_D)) d_Author_U).length (apI (List.take (apI [] d_Author_D).length (apI [] d_Author_D)) d_Author_U)) d_Id).length (apI (List.take (apI (List.take (apI [] d_Author_D).length (apI [] d_Author_D)) d_Author_U).length (apI (List.take (apI [] d_Author_D).length (apI [] d_Author_D)) d_Author_U)) d_Id)) d_Version).length + (List.take 32 d_Hash).length) (List.take (apI (List.take (apI (List.take (apI (List.take (apI [] d_Author_D).length (apI [] d_Author_D)) d_Author_U).length (apI (List.take (apI [] d_Author_D).length (apI [] d_Author_D)) d_Author_U)) d_Id).length (apI (List.take (apI (List.take (apI [] d_Author_D).length (apI [] d_Author_D)) d_Author_U).length (apI (List.take (apI [] d_Author_D).length (apI [] d_Author_D)) d_Author_U)) d_Id)) d_Version).length (apI (List.take (apI (List.take (apI (List.take (apI [] d_Author_D).length (apI [] d_Author_D)) d_Author_U).length (apI (List.take (apI [] d_Author_D).length (apI [] d_Author_D)) d_Author_U)) d_Id).length (apI (List.take (apI (List.take (apI [] d_Author_D).length (apI [] d_Author_D)) d_Author_U).length (apI (List.take (apI [] d_Author_D).length (apI [] d_Author_D)) d_Author_U)) d_Id)) d_Version) ++ List.take 32 d_Hash)) d_Kind)) (ByteArray.mk (Array.mk (Jq (false, pu IntKind.u8 (opB d_Op)).snd)))).length (apT (List.take (apY (List.take ((apI (List.take (apI (List.take (apI (List.take (apI [] d_Author_D).length (apI [] d_Author_D)) d_Author_U).length (apI (List.take (apI [] d_Author_D).length (apI [] d_Author_D)) d_Author_U)) d_Id).length (apI (List.take (apI (List.take (apI [] d_Author_D).length (apI [] d_Author_D)) d_Author_U).length (apI (List.take (apI [] d_Author_D).length (apI [] d_Author_D)) d_Author_U)) d_Id)) d_Version).length + (List.take 32 d_Hash).length) (List.take (apI (List.take (apI (List.take (apI (List.take (apI [] d_Author_D).length (apI [] d_Author_D)) d_Author_U).length (apI (List.take (apI [] d_Author_D).length (apI [] d_Author_D)) d_Author_U)) d_Id).length (apI (List.take (apI (List.take (apI [] d_Author_D).length (apI [] d_Author_D)) d_Author_U).length (apI (List.take (apI [] d_Author_D).length (apI [] d_Author_D)) d_Author_U)) d_Id)) d_Version).length (apI (List.take (apI (List.take (apI (List.take (apI [] d_Author_D).length (apI [] d_Author_D)) d_Author_U).length (apI (List.take (apI [] d_Author_D).length (apI [] d_Author_D)) d_Author_U)) d_Id).length (apI (List.take (apI (List.take (apI [] d_Author_D).length (apI [] d_Author_D)) d_Author_U).length (apI (List.take (apI [] d_Author_D).length (apI [] d_Author_D)) d_Author_U)) d_Id)) d_Version) ++ List.take 32 d_Hash)) d_Kind).length (apY (List.take ((apI (List.take (apI (List.take (apI (List.take (apI [] d_Author_D).length (apI [] d_Author_D)) d_Author_U).length (apI (List.take (apI [] d_Author_D).length (apI [] d_Author_D)) d_Author_U)) d_Id).length (apI (List.take (apI (List.take (apI [] d_Author_D).length (apI [] d_Author_D)) d_Author_U).length (apI (List.take (apI [] d_Author_D).length (apI [] d_Author_D)) d_Author_U)) d_Id)) d_Version).length + (List.take 32 d_Hash).length) (List.take (apI (List.take (apI (List.take (apI (List.take (apI [] d_Author_D).length (apI [] d_Author_D)) d_Author_U).length (apI (List.take (apI [] d_Author_D).length (apI [] d_Author_D)) d_Author_U)) d_Id).length (apI (List.take (apI (List.take (apI [] d_Author_D).length (apI [] d_Author_D)) d_Author_U).length (apI (List.take (apI [] d_Author_D).length (apI [] d_Author_D)) d_Author_U)) d_Id)) d_Version).length (apI (List.take (apI (List.take (apI (List.take (apI [] d_Author_D).length (apI [] d_Author_D)) d_Author_U).length (apI (List.take (apI [] d_Author_D).length (apI [] d_Author_D)) d_Author_U)) d_Id).length (apI (List.take (apI (List.take (apI [] d_Author_D).length (apI [] d_Author_D)) d_Author_U).length (apI (List.take (apI [] d_Author_D).length (apI [] d_Author_D)) d_Author_U)) d_Id)) d_Version) ++ List.take 32 d_Hash)) d_Kind)) (ByteArray.mk (Array.mk (Jq (false, pu IntKind.u8 (opB d_Op)).snd))))) d_Who_D).length (apI (List.take (apT (List.take (apY (List.take ((apI (List.take (apI (List.take (apI (List.take (apI [] d_Author_D).length (apI [] d_Author_D)) d_Author_U).length (apI (List.take (apI [] d_Author_D).length (apI [] d_Author_D)) d_Author_U)) d_Id).length (apI (List.take (apI (List.take (apI [] d_Author_D).length (apI [] d_Author_D)) d_Author_U).length (apI (List.take (apI [] d_Author_D).length (apI [] d_Author_D)) d_Author_U)) d_Id)) d_Version).length + (List.take 32 d_Hash).length) (List.take (apI (List.take (apI (List.take (apI (List.take (apI [] d_Author_D).length (apI [] d_Author_D)) d_Author_U).length (apI (List.take (apI [] d_Author_D).length (apI [] d_Author_D)) d_Author_U)) d_Id).length (apI (List.take (apI (List.take (apI [] d_Author_D).length (apI [] d_Author_D)) d_Author_U).length (apI (List.take (apI [] d_Author_D).length (apI [] d_Author_D)) d_Author_U)) d_Id)) d_Version).length (apI (List.take (apI (List.take (apI (List.take (apI [] d_Author_D).length (apI [] d_Author_D)) d_Author_U).length (apI (List.take (apI [] d_Author_D).length (apI [] d_Author_D)) d_Author_U)) d_Id).length (apI (List.take (apI (List.take (apI [] d_Author_D).length (apI [] d_Author_D)) d_Author_U).length (apI (List.take (apI [] d_Author_D).length (apI [] d_Author_D)) d_Author_U)) d_Id)) d_Version) ++ List.take 32 d_Hash)) d_Kind).length (apY (List.take ((apI (List.take (apI (List.take (apI (List.take (apI [] d_Author_D).length (apI [] d_Author_D)) d_Author_U).length (apI (List.take (apI [] d_Author_D).length (apI [] d_Author_D)) d_Author_U)) d_Id).length (apI (List.take (apI (List.take (apI [] d_Author_D).length (apI [] d_Author_D)) d_Author_U).length (apI (List.take (apI [] d_Author_D).length (apI [] d_Author_D)) d_Author_U)) d_Id)) d_Version).length + (List.take 32 d_Hash).length) (List.take (apI (List.take (apI (List.take (apI (List.take (apI [] d_Author_D).length (apI [] d_Author_D)) d_Author_U).length (apI (List.take (apI [] d_Author_D).length (apI [] d_Author_D)) d_Author_U)) d_Id).length (apI (List.take (apI (List.take (apI [] d_Author_D).length (apI [] d_Author_D)) d_Author_U).length (apI (List.take (apI [] d_Author_D).length (apI [] d_Author_D)) d_Author_U)) d_Id)) d_Version).length (apI (List.take (apI (List.take (apI (List.take (apI [] d_Author_D).length (apI [] d_Author_D)) d_Author_U).length (apI (List.take (apI [] d_Author_D).length (apI [] d_Author_D)) d_Author_U)) d_Id).length (apI (List.take (apI (List.take (apI [] d_Author_D).length (apI [] d_Author_D)) d_Author_U).length (apI (List.take (apI [] d_Author_D).length (apI [] d_Author_D)) d_Author_U)) d_Id)) d_Version) ++ List.take 32 d_Hash)) d_Kind)) (ByteArray.mk (Array.mk (Jq (false, pu IntKind.u8 (opB d_Op)).snd)))).length (apT (List.take (apY (List.take ((apI (List.take (apI (List.take (apI (List.take (apI [] d_Author_D).length (apI [] d_Author_D)) d_Author_U).length (apI (List.take (apI [] d_Author_D).length (apI [] d_Author_D)) d_Author_U)) d_Id).length (apI (List.take (apI (List.take (apI [] d_Author_D).length (apI [] d_Author_D)) d_Author_U).length (apI (List.take (apI [] d_Author_D).length (apI [] d_Author_D)) d_Author_U)) d_Id)) d_Version).length + (List.take 32 d_Hash).length) (List.take (apI (List.take (apI (List.take (apI (List.take (apI [] d_Author_D).length (apI [] d_Author_D)) d_Author_U).length (apI (List.take (apI [] d_Author_D).length (apI [] d_Author_D)) d_Author_U)) d_Id).length (apI (List.take (apI (List.take (apI [] d_Author_D).length (apI [] d_Author_D)) d_Author_U).length (apI (List.take (apI [] d_Author_D).length (apI [] d_Author_D)) d_Author_U)) d_Id)) d_Version).length (apI (List.take (apI (List.take (apI (List.take (apI [] d_Author_D).length (apI [] d_Author_D)) d_Author_U).length (apI (List.take (apI [] d_Author_D).length (apI [] d_Author_D)) d_Author_U)) d_Id).length (apI (List.take (apI (List.take (apI [] d_Author_D).length (apI [] d_Author_D)) d_Author_U).length (apI (List.take (apI [] d_Author_D).length (apI [] d_Author_D)) d_Author_U)) d_Id)) d_Version) ++ List.take 32 d_Hash)) d_Kind).length (apY (List.take ((apI (List.take (apI (List.take (apI (List.take (apI [] d_Author_D).length (apI [] d_Author_D)) d_Author_U).length (apI (List.take (apI [] d_Author_D).length (apI [] d_Author_D)) d_Author_U)) d_Id).length (apI (List.take (apI (List.take (apI [] d_Author_D).length (apI [] d_Author_D)) d_Author_U).length (apI (List.take (apI [] d_Author_D).length (apI [] d_Author_D)) d_Author_U)) d_Id)) d_Version).length + (List.take 32 d_Hash).length) (List.take (apI (List.take (apI (List.take (apI (List.take (apI [] d_Author_D).length (apI [] d_Author_D)) d_Author_U).length (apI (List.take (apI [] d_Author_D).length (apI [] d_Author_D)) d_Author_U)) d_Id).length (apI (List.take (apI (List.take (apI [] d_Author_D).length (apI [] d_Author_D)) d_Author_U).length (apI (List.take (apI [] d_Author_D).length (apI [] d_Author_D)) d_Author_U)) d_Id)) d_Version).length (apI (List.take (apI (List.take (apI (List.take (apI [] d_Author_D).length (apI [] d_Author_D)) d_Author_U).length (apI (List.take (apI [] d_Author_D).length (apI [] d_Author_D)) d_Author_U)) d_Id).length (apI (List.take (apI (List.take (apI [] d_Author_D).length (apI [] d_Author_D)) d_Author_U).length (apI (List.take (apI [] d_Author_D).length (apI [] d_Author_D)) d_Author_U)) d_Id)) d_Version) ++ List.take 32 d_Hash)) d_Kind)) (ByteArray.mk (Array.mk (Jq (false, pu IntKind.u8 (opB d_Op)).snd))))) d_Who_D)) then k (Res.mk (.ro 5 false false (List.take (apI (List.take (apI (List.take (apT (List.take (apY (List.take ((apI (List.take (apI (List.take (apI (List.take (apI [] d_Author_D).length (apI [] d_Author_D)) d_Author_U).length (apI (List.take (apI [] d_Author_D).length (apI [] d_Author_D)) d_Author_U)) d_Id).length (apI (List.take (apI (List.take (apI [] d_Author_D).length (apI [] d_Author_D)) d_Author_U).length (apI (List.take (apI [] d_Author_D).length (apI [] d_Author_D)) d_Author_U)) d_Id)) d_Version).length + (List.take 32 d_Hash).length) (List.take (apI (List.take (apI (List.take (apI (List.take (apI [] d_Author_D).length (apI [] d_Author_D)) d_Author_U).length (apI (List.take (apI [] d_Author_D).length (apI [] d_Author_D)) d_Author_U)) d_Id).length (apI (List.take (apI (List.take (apI [] d_Author_D).length (apI [] d_Author_D)) d_Author_U).length (apI (List.take (apI [] d_Author_D).length (apI [] d_Author_D)) d_Author_U)) d_Id)) d_Version).length (apI (List.take (apI (List.take (apI (List.take (apI [] d_Author_D).length (apI [] d_Author_D)) d_Author_U).length (apI (List.take (apI [] d_Author_D).length (apI [] d_Author_D)) d_Author_U)) d_Id).length (apI (List.take (apI (List.take (apI [] d_Author_D).length (apI [] d_Author_D)) d_Author_U).length (apI (List.take (apI [] d_Author_D).length (apI [] d_Author_D)) d_Author_U)) d_Id)) d_Version) ++ List.take 32 d_Hash)) d_Kind).length (apY (List.take ((apI (List.take (apI (List.take (apI (List.take (apI [] d_Author_D).length (apI [] d_Author_D)) d_Author_U).length (apI (List.take (apI [] d_Author_D).length (apI [] d_Author_D)) d_Author_U)) d_Id).length (apI (List.take (apI (List.take (apI [] d_Author_D).length (apI [] d_Author_D)) d_Author_U).length (apI (List.take (apI [] d_Author_D).length (apI [] d_Author_D)) d_Author_U)) d_Id)) d_Version).length + (List.take 32 d_Hash).length) (List.take (apI (List.take (apI (List.take (apI (List.take (apI [] d_Author_D).length (apI [] d_Author_D)) d_Author_U).length (apI (List.take (apI [] d_Author_D).length (apI [] d_Author_D)) d_Author_U)) d_Id).length (apI (List.take (apI (List.take (apI [] d_Author_D).length (apI [] d_Author_D)) d_Author_U).length (apI (List.take (apI [] d_Author_D).length (apI [] d_Author_D)) d_Author_U)) d_Id)) d_Version).length (apI (List.take (apI (List.take (apI (List.take (apI [] d_Author_D).length (apI [] d_Author_D)) d_Author_U).length (apI (List.take (apI [] d_Author_D).length (apI [] d_Author_D)) d_Author_U)) d_Id).length (apI (List.take (apI (List.take (apI [] d_Author_D).length (apI [] d_Author_D)) d_Author_U).length (apI (List.take (apI [] d_Author_D).length (apI [] d_Author_D)) d_Author_U)) d_Id)) d_Version) ++ List.take 32 d_Hash)) d_Kind)) (ByteArray.mk (Array.mk (Jq (false, pu IntKind.u8 (opB d_Op)).snd)))).length (apT (List.take (apY (List.take ((apI (List.take (apI (List.take (apI (List.take (apI [] d_Author_D).length (apI [] d_Author_D)) d_Author_U).length (apI (List.take (apI [] d_Author_D).length (apI [] d_Author_D)) d_Author_U)) d_Id).length (apI (List.take (apI (List.take (apI [] d_Author_D).length (apI [] d_Author_D)) d_Author_U).length (apI (List.take (apI [] d_Author_D).length (apI [] d_Author_D)) d_Author_U)) d_Id)) d_Version).length + (List.take 32 d_Hash).length) (List.take (apI (List.take (apI (List.take (apI (List.take (apI [] d_Author_D).length (apI [] d_Author_D)) d_Author_U).length (apI (List.take (apI [] d_Author_D).length (apI [] d_Author_D)) d_Author_U)) d_Id).length (apI (List.take (apI (List.take (apI [] d_Author_D).length (apI [] d_Author_D)) d_Author_U).length (apI (List.take (apI [] d_Author_D).length (apI [] d_Author_D)) d_Author_U)) d_Id)) d_Version).length (apI (List.take (apI (List.take (apI (List.take (apI [] d_Author_D).length (apI [] d_Author_D)) d_Author_U).length (apI (List.take (apI [] d_Author_D).length (apI [] d_Author_D)) d_Author_U)) d_Id).length (apI (List.take (apI (List.take (apI [] d_Author_D).length (apI [] d_Author_D)) d_Author_U).length (apI (List.take (apI [] d_Author_D).length (apI [] d_Author_D)) d_Author_U)) d_Id)) d_Version) ++ List.take 32 d_Hash)) d_Kind).length (apY (List.take ((apI (List.take (apI (List.take (apI (List.take (apI [] d_Author_D).length (apI [] d_Author_D)) d_Author_U).length (apI (List.take (apI [] d_Author_D).length (apI [] d_Author_D)) d_Author_U)) d_Id).length (apI (List.take (apI (List.take (apI [] d_Author_D).length (apI [] d_Author_D)) d_Author_U).length (apI (List.take (apI [] d_Author_D).length (apI [] d_Author_D)) d_Author_U)) d_Id)) d_Version).length + (List.take 32 d_Hash).length) (List.take (apI (List.take (apI (List.take (apI (List.take (apI [] d_Author_D).length (apI [] d_Author_D)) d_Author_U).length (apI (List.take (apI [] d_Author_D).length (apI [] d_Author_D)) d_Author_U)) d_Id).length (apI (List.take (apI (List.take (apI [] d_Author_D).length (apI [] d_Author_D)) d_Author_U).length (apI (List.take (apI [] d_Author_D).length (apI [] d_Author_D)) d_Author_U)) d_Id)) d_Version).length (apI (List.take (apI (List.take (apI (List.take (apI [] d_Author_D).length (apI [] d_Author_D)) d_Author_U).length (apI (List.take (apI [] d_Author_D).length (apI [] d_Author_D)) d_Author_U)) d_Id).length (apI (List.take (apI (List.take (apI [] d_Author_D).length (apI [] d_Author_D)) d_Author_U).length (apI (List.take (apI [] d_Author_D).length (apI [] d_Author_D)) d_Author_U)) d_Id)) d_Version) ++ List.take 32 d_Hash)) d_Kind)) (ByteArray.mk (Array.mk (Jq (false, pu IntKind.u8 (opB d_Op)).snd))))) d_Who_D).length (apI (List.take (apT (List.take (apY (List.take ((apI (List.take (apI (List.take (apI (List.take (apI [] d_Author_D).length (apI [] d_Author_D)) d_Author_U).length (apI (List.take (apI [] d_Author_D).length (apI [] d_Author_D)) d_Author_U)) d_Id).length (apI (List.take (apI (List.take (apI [] d_Author_D).length (apI [] d_Author_D)) d_Author_U).length (apI (List.take (apI [] d_Author_D).length (apI [] d_Author_D)) d_Author_U)) d_Id)) d_Version).length + (List.take 32 d_Hash).length) (List.take (apI (List.take (apI (List.take (apI (List.take (apI [] d_Author_D).length (apI [] d_Author_D)) d_Author_U).length (apI (List.take (apI [] d_Author_D).length (apI [] d_Author_D)) d_Author_U)) d_Id).length (apI (List.take (apI (List.take (apI [] d_Author_D).length (apI [] d_Author_D)) d_Author_U).length (apI (List.take (apI [] d_Author_D).length (apI [] d_Author_D)) d_Author_U)) d_Id)) d_Version).length (apI (List.take (apI (List.take (apI (List.take (apI [] d_Author_D).length (apI [] d_Author_D)) d_Author_U).length (apI (List.take (apI [] d_Author_D).length (apI [] d_Author_D)) d_Author_U)) d_Id).length (apI (List.take (apI (List.take (apI [] d_Author_D).length (apI [] d_Author_D)) d_Author_U).length (apI (List.take (apI [] d_Author_D).length (apI [] d_Author_D)) d_Author_U)) d_Id)) d_Version) ++ List.take 32 d_Hash)) d_Kind).length (apY (List.take ((apI (List.take (apI (List.take (apI (List.take (apI [] d_Author_D).length (apI [] d_Author_D)) d_Author_U).length (apI (List.take (apI [] d_Author_D).length (apI [] d_Author_D)) d_Author_U)) d_Id).length (apI (List.take (apI (List.take (apI [] d_Author_D).length (apI [] d_Author_D)) d_Author_U).length (apI (List.take (apI [] d_Author_D).length (apI [] d_Author_D)) d_Author_U)) d_Id)) d_Version).length + (List.take 32 d_Hash).length) (List.take (apI (List.take (apI (List.take (apI (List.take (apI [] d_Author_D).length (apI [] d_Author_D)) d_Author_U).length (apI (List.take (apI [] d_Author_D).length (apI [] d_Author_D)) d_Author_U)) d_Id).length (apI (List.take (apI (List.take (apI [] d_Author_D).length (apI [] d_Author_D)) d_Author_U).length (apI (List.take (apI [] d_Author_D).length (apI [] d_Author_D)) d_Author_U)) d_Id)) d_Version).length (apI (List.take (apI (List.take (apI (List.take (apI [] d_Author_D).length (apI [] d_Author_D)) d_Author_U).length (apI (List.take (apI [] d_Author_D).length (apI [] d_Author_D)) d_Author_U)) d_Id).length (apI (List.take (apI (List.take (apI [] d_Author_D).length (apI [] d_Author_D)) d_Author_U).length (apI (List.take (apI [] d_Author_D).length (apI [] d_Author_D)) d_Author_U)) d_Id)) d_Version) ++ List.take 32 d_Hash)) d_Kind)) (ByteArray.mk (Array.mk (Jq (false, pu IntKind.u8 (opB d_Op)).snd)))).length (apT (List.take (apY (List.take ((apI (List.take (apI (List.take (apI (List.take (apI [] d_Author_D).length (apI [] d_Author_D)) d_Author_U).length (apI (List.take (apI [] d_Author_D).length (apI [] d_Author_D)) d_Author_U)) d_Id).length (apI (List.take (apI (List.take (apI [] d_Author_D).length (apI [] d_Author_D)) d_Author_U).length (apI (List.take (apI [] d_Author_D).length (apI [] d_Author_D)) d_Author_U)) d_Id)) d_Version).length + (List.take 32 d_Hash).length) (List.take (apI (List.take (apI (List.take (apI (List.take (apI [] d_Author_D).length (apI [] d_Author_D)) d_Author_U).length (apI (List.take (apI [] d_Author_D).length (apI [] d_Author_D)) d_Author_U)) d_Id).length (apI (List.take (apI (List.take (apI [] d_Author_D).length (apI [] d_Author_D)) d_Author_U).length (apI (List.take (apI [] d_Author_D).length (apI [] d_Author_D)) d_Author_U)) d_Id)) d_Version).length (apI (List.take (apI (List.take (apI (List.take (apI [] d_Author_D).length (apI [] d_Author_D)) d_Author_U).length (apI (List.take (apI [] d_Author_D).length (apI [] d_Author_D)) d_Author_U)) d_Id).length (apI (List.take (apI (List.take (apI [] d_Author_D).length (apI [] d_Author_D)) d_Author_U).length (apI (List.take (apI [] d_Author_D).length (apI [] d_Author_D)) d_Author_U)) d_Id)) d_Version) ++ List.take 32 d_Hash)) d_Kind).length (apY (List.take ((apI (List.take (apI (List.take (apI (List.take (apI [] d_Author_D).length (apI [] d_Author_D)) d_Author_U).length (apI (List.take (apI [] d_Author_D).length (apI [] d_Author_D)) d_Author_U)) d_Id).length (apI (List.take (apI (List.take (apI [] d_Author_D).length (apI [] d_Author_D)) d_Author_U).length (apI (List.take (apI [] d_Author_D).length (apI [] d_Author_D)) d_Author_U)) d_Id)) d_Version).length + (List.take 32 d_Hash).length) (List.take (apI (List.take (apI (List.take (apI (List.take (apI [] d_Author_D).length (apI [] d_Author_D)) d_Author_U).length (apI (List.take (apI [] d_Author_D).length (apI [] d_Author_D)) d_Author_U)) d_Id).length (apI (List.take (apI (List.take (apI [] d_Author_D).length (apI [] d_Author_D)) d_Author_U).length (apI (List.take (apI [] d_Author_D).length (apI [] d_Author_D)) d_Author_U)) d_Id)) d_Version).length (apI (List.take (apI (List.take (apI (List.take (apI [] d_Author_D).length (apI [] d_Author_D)) d_Author_U).length (apI (List.take (apI [] d_Author_D).length (apI [] d_Author_D)) d_Author_U)) d_Id).length (apI (List.take (apI (List.take (apI [] d_Author_D).length (apI [] d_Author_D)) d_Author_U).length (apI (List.take (apI [] d_Author_D).length (apI [] d_Author_D)) d_Author_U)) d_Id)) d_Version) ++ List.take 32 d_Hash)) d_Kind)) (ByteArray.mk (Array.mk (Jq (false, pu IntKind.u8 (opB d_Op)).snd))))) d_Who_D)) d_Who_U).length (apI (List.take (apI (List.take (apT (List.take (apY (List.take ((apI (List.take (apI (List.take (apI (List.take (apI [] d_Author_D).length (apI [] d_Author_D)) d_Author_U).length (apI (List.take (apI [] d_Author_D).length (apI [] d_Author_D)) d_Author_U)) d_Id).length (apI (List.take (apI (List.take (apI [] d_Author_D).length (apI [] d_Author_D)) d_Author_U).length (apI (List.take (apI [] d_Author_D).length (apI [] d_Author_D)) d_Author_U)) d_Id)) d_Version).length + (List.take 32 d_Hash).length) (List.take (apI (List.take (apI (List.take (apI (List.take (apI [] d_Author_D).length (apI [] d_Author_D)) d_Author_U).length (apI (List.take (apI [] d_Author_D).length (apI [] d_Author_D)) d_Author_U)) d_Id).length (apI (List.take (apI (List.take (apI [] d_Author_D).length (apI [] d_Author_D)) d_Author_U).length (apI (List.take (apI [] d_Author_D).length (apI [] d_Author_D)) d_Author_U)) d_Id)) d_Version).length (apI (List.take (apI (List.take (apI (List.take (apI [] d_Author_D).length (apI [] d_Author_D)) d_Author_U).length (apI (List.take (apI [] d_Author_D).length (apI [] d_Author_D)) d_Author_U)) d_Id).length (apI (List.take (apI (List.take (apI [] d_Author_D).length (apI [] d_Author_D)) d_Author_U).length (apI (List.take (apI [] d_Author_D).length (apI [] d_Author_D)) d_Author_U)) d_Id)) d_Version) ++ List.take 32 d_Hash)) d_Kind).length (apY (List.take ((apI (List.take (apI (List.take (apI (List.take (apI [] d_Author_D).length (apI [] d_Author_D)) d_Author_U).length (apI (List.take (apI [] d_Author_D).length (apI [] d_Author_D)) d_Author_U)) d_Id).length (apI (List.take (apI (List.take (apI [] d_Author_D).length (apI [] d_Author_D)) d_Author_U).length (apI (List.take (apI [] d_Author_D).length (apI [] d_Author_D)) d_Author_U)) d_Id)) d_Version).length + (List.take 32 d_Hash).length) (List.take (apI (List.take (apI (List.take (apI (List.take (apI [] d_Author_D).length (apI [] d_Author_D)) d_Author_U).length (apI (List.take (apI [] d_Author_D).length (apI [] d_Author_D)) d_Author_U)) d_Id).length (apI (List.take (apI (List.take (apI [] d_Author_D).length (apI [] d_Author_D)) d_Author_U).length (apI (List.take (apI [] d_Author_D).length (apI [] d_Author_D)) d_Author_U)) d_Id)) d_Version).length (apI (List.take (apI (List.take (apI (List.take (apI [] d_Author_D).length (apI [] d_Author_D)) d_Author_U).length (apI (List.take (apI [] d_Author_D).length (apI [] d_Author_D)) d_Author_U)) d_Id).length (apI (List.take (apI (List.take (apI [] d_Author_D).length (apI [] d_Author_D)) d_Author_U).length (apI (List.take (apI [] d_Author_D).length (apI [] d_Author_D)) d_Author_U)) d_Id)) d_Version) ++ List.take 32 d_Hash)) d_Kind)) (ByteArray.mk (Array.mk (Jq (false, pu IntKind.u8 (opB d_Op)).snd)))).length (apT (List.take (apY (List.take ((apI (List.take (apI (List.take (apI (List.take (apI [] d_Author_D).length (apI [] d_Author_D)) d_Author_U).length (apI (List.take (apI [] d_Author_D).length (apI [] d_Author_D)) d_Author_U)) d_Id).length (apI (List.take (apI (List.take (apI [] d_Author_D).length (apI [] d_Author_D)) d_Author_U).length (apI (List.take (apI [] d_Author_D).length (apI [] d_Author_D)) d_Author_U)) d_Id)) d_Version).length + (List.take 32 d_Hash).length) (List.take (apI (List.take (apI (List.take (apI (List.take (apI [] d_Author_D).length (apI [] d_Author_D)) d_Author_U).length (apI (List.take (apI [] d_Author_D).length (apI [] d_Author_D)) d_Author_U)) d_Id).length (apI (List.take (apI (List.take (apI [] d_Author_D).length (apI [] d_Author_D)) d_Author_U).length (apI (List.take (apI [] d_Author_D).length (apI [] d_Author_D)) d_Author_U)) d_Id)) d_Version).length (apI (List.take (apI (List.take (apI (List.take (apI [] d_Author_D).length (apI [] d_Author_D)) d_Author_U).length (apI (List.take (apI [] d_Author_D).length (apI [] d_Author_D)) d_Author_U)) d_Id).length (apI (List.take (apI (List.take (apI [] d_Author_D).length (apI [] d_Author_D)) d_Author_U).length (apI (List.take (apI [] d_Author_D).length (apI [] d_Author_D)) d_Author_U)) d_Id)) d_Version) ++ List.take 32 d_Hash)) d_Kind).length (apY (List.take ((apI (List.take (apI (List.take (apI (List.take (apI [] d_Author_D).length (apI [] d_Author_D)) d_Author_U).length (apI (List.take (apI [] d_Author_D).length (apI [] d_Author_D)) d_Author_U)) d_Id).length (apI (List.take (apI (List.take (apI [] d_Author_D).length (apI [] d_Author_D)) d_Author_U).length (apI (List.take (apI [] d_Author_D).length (apI [] d_Author_D)) d_Author_U)) d_Id)) d_Version).length + (List.take 32 d_Hash).length) (List.take (apI (List.take (apI (List.take (apI (List.take (apI [] d_Author_D).length (apI [] d_Author_D)) d_Author_U).length (apI (List.take (apI [] d_Author_D).length (apI [] d_Author_D)) d_Author_U)) d_Id).length (apI (List.take (apI (List.take (apI [] d_Author_D).length (apI [] d_Author_D)) d_Author_U).length (apI (List.take (apI [] d_Author_D).length (apI [] d_Author_D)) d_Author_U)) d_Id)) d_Version).length (apI (List.take (apI (List.take (apI (List.take (apI [] d_Author_D).length (apI [] d_Author_D)) d_Author_U).length (apI (List.take (apI [] d_Author_D).length (apI [] d_Author_D)) d_Author_U)) d_Id).length (apI (List.take (apI (List.take (apI [] d_Author_D).length (apI [] d_Author_D)) d_Author_U).length (apI (List.take (apI [] d_Author_D).length (apI [] d_Author_D)) d_Author_U)) d_Id)) d_Version) ++ List.take 32 d_Hash)) d_Kind)) (ByteArray.mk (Array.mk (Jq (false, pu IntKind.u8 (opB d_Op)).snd))))) d_Who_D).length (apI (List.take (apT (List.take (apY (List.take ((apI (List.take (apI (List.take (apI (List.take (apI [] d_Author_D).length (apI [] d_Author_D)) d_Author_U).length (apI (List.take (apI [] d_Author_D).length (apI [] d_Author_D)) d_Author_U)) d_Id).length (apI (List.take (apI (List.take (apI [] d_Author_D).length (apI [] d_Author_D)) d_Author_U).length (apI (List.take (apI [] d_Author_D).length (apI [] d_Author_D)) d_Author_U)) d_Id)) d_Version).length + (List.take 32 d_Hash).length) (List.take (apI (List.take (apI (List.take (apI (List.take (apI [] d_Author_D).length (apI [] d_Author_D)) d_Author_U).length (apI (List.take (apI [] d_Author_D).length (apI [] d_Author_D)) d_Author_U)) d_Id).length (apI (List.take (apI (List.take (apI [] d_Author_D).length (apI [] d_Author_D)) d_Author_U).length (apI (List.take (apI [] d_Author_D).length (apI [] d_Author_D)) d_Author_U)) d_Id)) d_Version).length (apI (List.take (apI (List.take (apI (List.take (apI [] d_Author_D).length (apI [] d_Author_D)) d_Author_U).length (apI (List.take (apI [] d_Author_D).length (apI [] d_Author_D)) d_Author_U)) d_Id).length (apI (List.take (apI (List.take (apI [] d_Author_D).length (apI [] d_Author_D)) d_Author_U).length (apI (List.take (apI [] d_Author_D).length (apI [] d_Author_D)) d_Author_U)) d_Id)) d_Version) ++ List.take 32 d_Hash)) d_Kind).length (apY (List.take ((apI (List.take (apI (List.take (apI (List.take (apI [] d_Author_D).length (apI [] d_Author_D)) d_Author_U).length (apI (List.take (apI [] d_Author_D).length (apI [] d_Author_D)) d_Author_U)) d_Id).length (apI (List.take (apI (List.take (apI [] d_Author_D).length (apI [] d_Author_D)) d_Author_U).length (apI (List.take (apI [] d_Author_D).length (apI [] d_Author_D)) d_Author_U)) d_Id)) d_Version).length + (List.take 32 d_Hash).length) (List.take (apI (List.take (apI (List.take (apI (List.take (apI [] d_Author_D).length (apI [] d_Author_D)) d_Author_U).length (apI (List.take (apI [] d_Author_D).length (apI [] d_Author_D)) d_Author_U)) d_Id).length (apI (List.take (apI (List.take (apI [] d_Author_D).length (apI [] d_Author_D)) d_Author_U).length (apI (List.take (apI [] d_Author_D).length (apI [] d_Author_D)) d_Author_U)) d_Id)) d_Version).length (apI (List.take (apI (List.take (apI (List.take (apI [] d_Author_D).length (apI [] d_Author_D)) d_Author_U).length (apI (List.take (apI [] d_Author_D).length (apI [] d_Author_D)) d_Author_U)) d_Id).length (apI (List.take (apI (List.take (apI [] d_Author_D).length (apI [] d_Author_D)) d_Author_U).length (apI (List.take (apI [] d_Author_D).length (apI [] d_Author_D)) d_Author_U)) d_Id)) d_Version) ++ List.take 32 d_Hash)) d_Kind)) (ByteArray.mk (Array.mk (Jq (false, pu IntKind.u8 (opB d_Op)).snd)))).length (apT (List.take (apY (List.take ((apI (List.take (apI (List.take (apI (List.take (apI [] d_Author_D).length (apI [] d_Author_D)) d_Author_U).length (apI (List.take (apI [] d_Author_D).length (apI [] d_Author_D)) d_Author_U)) d_Id).length (apI (List.take (apI (List.take (apI [] d_Author_D).length (apI [] d_Author_D)) d_Author_U).length (apI (List.take (apI [] d_Author_D).length (apI [] d_Author_D)) d_Author_U)) d_Id)) d_Version).length + (List.take 32 d_Hash).length) (List.take (apI (List.take (apI (List.take (apI (List.take (apI [] d_Author_D).length (apI [] d_Author_D)) d_Author_U).length (apI (List.take (apI [] d_Author_D).length (apI [] d_Author_D)) d_Author_U)) d_Id).length (apI (List.take (apI (List.take (apI [] d_Author_D).length (apI [] d_Author_D)) d_Author_U).length (apI (List.take (apI [] d_Author_D).length (apI [] d_Author_D)) d_Author_U)) d_Id)) d_Version).length (apI (List.take (apI (List.take (apI (List.take (apI [] d_Author_D).length (apI [] d_Author_D)) d_Author_U).length (apI (List.take (apI [] d_Author_D).length (apI [] d_Author_D)) d_Author_U)) d_Id).length (apI (List.take (apI (List.take (apI [] d_Author_D).length (apI [] d_Author_D)) d_Author_U).length (apI (List.take (apI [] d_Author_D).length (apI [] d_Author_D)) d_Author_U)) d_Id)) d_Version) ++ List.take 32 d_Hash)) d_Kind).length (apY (List.take ((apI (List.take (apI (List.take (apI (List.take (apI [] d_Author_D).length (apI [] d_Author_D)) d_Author_U).length (apI (List.take (apI [] d_Author_D).length (apI [] d_Author_D)) d_Author_U)) d_Id).length (apI (List.take (apI (List.take (apI [] d_Author_D).length (apI [] d_Author_D)) d_Author_U).length (apI (List.take (apI [] d_Author_D).length (apI [] d_Author_D)) d_Author_U)) d_Id)) d_Version).length + (List.take 32 d_Hash).length) (List.take (apI (List.take (apI (List.take (apI (List.take (apI [] d_Author_D).length (apI [] d_Author_D)) d_Author_U).length (apI (List.take (apI [] d_Author_D).length (apI [] d_Author_D)) d_Author_U)) d_Id).length (apI (List.take (apI (List.take (apI [] d_Author_D).length (apI [] d_Author_D)) d_Author_U).length (apI (List.take (apI [] d_Author_D).length (apI [] d_Author_D)) d_Author_U)) d_Id)) d_Version).length (apI (List.take (apI (List.take (apI (List.take (apI [] d_Author_D).length (apI [] d_Author_D)) d_Author_U).length (apI (List.take (apI [] d_Author_D).length (apI [] d_Author_D)) d_Author_U)) d_Id).length (apI (List.take (apI (List.take (apI [] d_Author_D).length (apI [] d_Author_D)) d_Author_U).length (apI (List.take (apI [] d_Author_D).length (apI [] d_Author_D)) d_Author_U)) d_Id)) d_Version) ++ List.take 32 d_Hash)) d_Kind)) (ByteArray.mk (Array.mk (Jq (false, pu IntKind.u8 (opB d_Op)).snd))))) d_Who_D)) d_Who_U))) [] []) else none else none else none else none else none else none else none else none else none else none else none
theorem JAB (f : Nat) (d_Author_D : Int) (d_Author_U : Int) (d_Id : Int) (d_Version : Int) (d_Hash : List PV) (d_Kind : Int) (d_Op_z : Bool) (d_Op_f : Bool) (d_Op : List PV) (d_Who_D : Int) (d_Who_U : Int) (k : Res → Option Res) : JM tau Jxf Try.f101 (Try.f101.body.get!) Ji0 [.ro] 6 [.st 73 [.st 45 [.sc (.int .i64 d_Author_D), .sc (.int .i64 d_Author_U)], .sc (.int .i64 d_Id), .sc (.int .i64 d_Version), .ar 37 d_Hash, .sc (.int .i64 d_Kind), .ro 99 d_Op_z d_Op_f d_Op, .st 45 [.sc (.int .i64 d_Who_D), .sc (.int .i64 d_Who_U)]]] [] k = JsV f d_Author_D d_Author_U d_Id d_Version d_Hash d_Kind d_Op_z d_Op_f d_Op d_Who_D d_Who_U k := by kernel_rfl
theorem Jxg (f : Nat) : Jg (Try.f101.body.get!) Ji0 = [] := by kernel_rfl
theorem Jxh (f : Nat) : ∀ q ∈ Jg (Try.f101.body.get!) Ji0, q.Ok tau Try.prog 0 := by
  rw [Jxg f]; intro q hq; cases hq
theorem JqD : Try.prog.funcs[101]? = some Try.f101 := by kernel_rfl
theorem JqE : Try.f101.body = some (Try.f101.body.get!) := by kernel_rfl
theorem Jxi : Enters Try.prog 101 := enters_of JqD (by kernel_rfl) JqE

noncomputable def F58 : Fns := JD 114 JlO (JD 98 Jn6 (JD 97 JsJ (F0)))
theorem JsW : Jz tau Try.prog F58 := (((JG).add Jqn Jso).add Jlu Jsj).add JlP Jqq
def Joo : An := (.seq .leaf (.seq .leaf (.seq .leaf .leaf)))
noncomputable def g58 (f : Nat) (e_S_Body_z : Bool) (e_S_Body_f : Bool) (e_S_Body : List PV) (e_S_Mac : List PV) (e_At : Int) (e_Op_z : Bool) (e_Op_f : Bool) (e_Op : List PV) (e_Hash : List PV) (e_Mac : List PV) (k : Res → Option Res) : Option Res := bif Jh IntKind.u8 e_S_Body && true then bif okZ true [] && (ByteArray.mk (Array.mk (Jq (e_S_Body_z, e_S_Body).snd))).size.ble 65535 then bif Jn ((apT [] (ByteArray.mk (Array.mk (Jq (e_S_Body_z, e_S_Body).snd)))).length + (List.take 32 e_S_Mac).length) 1 && true then bif okZ false (List.take ((apT [] (ByteArray.mk (Array.mk (Jq (e_S_Body_z, e_S_Body).snd)))).length + (List.take 32 e_S_Mac).length) (List.take (apT [] (ByteArray.mk (Array.mk (Jq (e_S_Body_z, e_S_Body).snd)))).length (apT [] (ByteArray.mk (Array.mk (Jq (e_S_Body_z, e_S_Body).snd)))) ++ List.take 32 e_S_Mac)) then bif cBy e_Op then bif Jh IntKind.u8 (pu IntKind.u8 (opB e_Op)) && true then bif okZ false (List.take (apI (List.take ((apT [] (ByteArray.mk (Array.mk (Jq (e_S_Body_z, e_S_Body).snd)))).length + (List.take 32 e_S_Mac).length) (List.take (apT [] (ByteArray.mk (Array.mk (Jq (e_S_Body_z, e_S_Body).snd)))).length (apT [] (ByteArray.mk (Array.mk (Jq (e_S_Body_z, e_S_Body).snd)))) ++ List.take 32 e_S_Mac)) e_At).length (apI (List.take ((apT [] (ByteArray.mk (Array.mk (Jq (e_S_Body_z, e_S_Body).snd)))).length + (List.take 32 e_S_Mac).length) (List.take (apT [] (ByteArray.mk (Array.mk (Jq (e_S_Body_z, e_S_Body).snd)))).length (apT [] (ByteArray.mk (Array.mk (Jq (e_S_Body_z, e_S_Body).snd)))) ++ List.take 32 e_S_Mac)) e_At)) && (ByteArray.mk (Array.mk (Jq (false, pu IntKind.u8 (opB e_Op)).snd))).size.ble 65535 then k (Res.mk (.ro 5 false false (List.take (apT (List.take (apI (List.take ((apT [] (ByteArray.mk (Array.mk (Jq (e_S_Body_z, e_S_Body).snd)))).length + (List.take 32 e_S_Mac).length) (List.take (apT [] (ByteArray.mk (Array.mk (Jq (e_S_Body_z, e_S_Body).snd)))).length (apT [] (ByteArray.mk (Array.mk (Jq (e_S_Body_z, e_S_Body).snd)))) ++ List.take 32 e_S_Mac)) e_At).length (apI (List.take ((apT [] (ByteArray.mk (Array.mk (Jq (e_S_Body_z, e_S_Body).snd)))).length + (List.take 32 e_S_Mac).length) (List.take (apT [] (ByteArray.mk (Array.mk (Jq (e_S_Body_z, e_S_Body).snd)))).length (apT [] (ByteArray.mk (Array.mk (Jq (e_S_Body_z, e_S_Body).snd)))) ++ List.take 32 e_S_Mac)) e_At)) (ByteArray.mk (Array.mk (Jq (false, pu IntKind.u8 (opB e_Op)).snd)))).length (apT (List.take (apI (List.take ((apT [] (ByteArray.mk (Array.mk (Jq (e_S_Body_z, e_S_Body).snd)))).length + (List.take 32 e_S_Mac).length) (List.take (apT [] (ByteArray.mk (Array.mk (Jq (e_S_Body_z, e_S_Body).snd)))).length (apT [] (ByteArray.mk (Array.mk (Jq (e_S_Body_z, e_S_Body).snd)))) ++ List.take 32 e_S_Mac)) e_At).length (apI (List.take ((apT [] (ByteArray.mk (Array.mk (Jq (e_S_Body_z, e_S_Body).snd)))).length + (List.take 32 e_S_Mac).length) (List.take (apT [] (ByteArray.mk (Array.mk (Jq (e_S_Body_z, e_S_Body).snd)))).length (apT [] (ByteArray.mk (Array.mk (Jq (e_S_Body_z, e_S_Body).snd)))) ++ List.take 32 e_S_Mac)) e_At)) (ByteArray.mk (Array.mk (Jq (false, pu IntKind.u8 (opB e_Op)).snd)))))) [] []) else none else none else none else none else none else none else none
theorem e58 (f : Nat) (e_S_Body_z : Bool) (e_S_Body_f : Bool) (e_S_Body : List PV) (e_S_Mac : List PV) (e_At : Int) (e_Op_z : Bool) (e_Op_f : Bool) (e_Op : List PV) (e_Hash : List PV) (e_Mac : List PV) (k : Res → Option Res) : JM tau F58 Try.f58 (Try.f58.body.get!) Joo [.ro] 0 [.st 93 [.st 77 [.ro 5 e_S_Body_z e_S_Body_f e_S_Body, .ar 37 e_S_Mac], .sc (.int .i64 e_At), .ro 99 e_Op_z e_Op_f e_Op, .ar 37 e_Hash, .ar 37 e_Mac]] [] k = g58 f e_S_Body_z e_S_Body_f e_S_Body e_S_Mac e_At e_Op_z e_Op_f e_Op e_Hash e_Mac k := by kernel_rfl
theorem JAC (f : Nat) : Jg (Try.f58.body.get!) Joo = [] := by kernel_rfl
theorem JAD (f : Nat) : ∀ q ∈ Jg (Try.f58.body.get!) Joo, q.Ok tau Try.prog 0 := by
  rw [JAC f]; intro q hq; cases hq
theorem Jxj : Try.prog.funcs[58]? = some Try.f58 := by kernel_rfl
theorem Jxk : Try.f58.body = some (Try.f58.body.get!) := by kernel_rfl
theorem JAE : Enters Try.prog 58 := enters_of Jxj (by kernel_rfl) Jxk

-- FN sign.Core | ref9.Core
def tx (l : List PV) : ByteArray := ByteArray.mk (Array.mk (Jq l))
theorem Yv (l : List PV) : (tx l).size = l.length := Y1 l
structure EV where
  (b m : List PV) (at1 : Int) (o : List PV)
noncomputable def JbE (e : EV) : List Int := Qt (tx e.b) ++ (Jd e.m ++ (Qj e.at1 ++ Qt (tx (pu .u8 (opB e.o)))))
noncomputable def Wz : EV → List Int := hid JbE
theorem JbF (e : EV) : Wz e = JbE e := by rw [Wz, hid_eq]
noncomputable def eOk : EV → Bool := hid fun e => Jh .u8 e.b && (decide (e.b.length ≤ 65535) && (Jh .u8 e.m && (decide (e.m.length = 32) && (cBy e.o && decide ((opB e.o).length ≤ 65535)))))
theorem Ge {e : EV} : eOk e = true ↔ Jh .u8 e.b = true ∧ e.b.length ≤ 65535 ∧ Jh .u8 e.m = true ∧ e.m.length = 32 ∧ cBy e.o = true ∧ (opB e.o).length ≤ 65535 := by
  rw [eOk, hid_eq]; simp only [Bool.and_eq_true, decide_eq_true_eq]
theorem Gf {e : EV} (h : eOk e = true) : (Wz e).length = e.b.length + (opB e.o).length + 44 := by
  obtain ⟨h1, h2, h3, h4, h5, h6⟩ := Ge.1 h
  rw [JbF]
  simp only [JbE, List.length_append, V0, Qu, Xq, Yv, JO, h4]; omega
theorem Jhh {e : EV} (h : eOk e = true) : apT (apI (apT [] (tx e.b) ++ List.take 32 e.m) e.at1) (tx (pu .u8 (opB e.o))) = pu .u8 (Wz e) := by
  obtain ⟨h1, h2, h3, h4, h5, h6⟩ := Ge.1 h
  rw [JbF, Vk, GF, Vk, List.take_of_length_le (by omega)]
  simp only [JbE, JZ, List.nil_append, List.append_assoc, ← Qb h3]
noncomputable def Jhi : List PV → List Ent → (Res → Option Res) → Option Res
  | [.st 93 [.st 77 [.ro 5 bz bf b, .ar 37 m], .sc (.int .i64 at1), .ro 99 oz of o, .ar 37 h, .ar 37 mc]], [], k => bif eOk ⟨b, m, at1, o⟩ then k ⟨.ro 5 false false (pu .u8 (Wz ⟨b, m, at1, o⟩)), [], []⟩ else none
  | _, _, _ => none
noncomputable def Jxl : Sig := { own := [], run := Jhi }
theorem JsX (bz bf : Bool) (b m : List PV) (at1 : Int) (oz of : Bool) (o h mc : List PV) (he : eOk ⟨b, m, at1, o⟩ = true) (k : Res → Option Res) : g58 0 bz bf b m at1 oz of o h mc k = k ⟨.ro 5 false false (pu .u8 (Wz ⟨b, m, at1, o⟩)), [], []⟩ := by
  have hl := Gf he
  have hp := Jhh he
  obtain ⟨h1, h2, h3, h4, h5, h6⟩ := Ge.1 he
  simp only at hl hp h1 h2 h3 h4 h5 h6
  have ht : ∀ l : List PV, ByteArray.mk (Array.mk (Jq l)) = tx l := fun l => rfl
  have hm : List.take 32 m = m := List.take_of_length_le (by omega)
  have l1 : (apT [] (tx b)).length = b.length + 2 := by rw [Vk]; simp [Yv]
  have l2 : ∀ (L : List PV) (n : Int), (apI L n).length = L.length + 8 := JaB
  have htp : ∀ l : List Int, List.take l.length (pu .u8 l) = pu .u8 l := fun l => List.take_of_length_le (by simp)
  have hcat : ∀ n, n = (apT [] (tx b)).length + m.length → List.take n (apT [] (tx b) ++ m) = apT [] (tx b) ++ m := fun n hn => List.take_of_length_le (by simp; omega)
  rw [hm] at hp
  unfold g58
  simp only [ht, hm, List.take_length, htp, List.drop_zero, hcat _ rfl, Yv, JO]
  refine (Jc (by rw [h1]; rfl)).trans ((Jc (by rw [Zq]; show (true && _) = true; rw [Bool.true_and, Nat.ble_eq]; exact h2)).trans ((Jc (by simp only [Jn, Nat.mul_one, Bool.and_true, decide_eq_true_eq, l1]; omega)).trans ((Jc (by rw [Q1 (by rw [List.length_append, l1]; omega)])).trans ((Jc h5).trans ((Jc (by rw [J6]; rfl)).trans ((Jc (by rw [Q1 (by rw [l2, List.length_append, l1]; omega), Bool.true_and, Nat.ble_eq]; exact h6)).trans ?_))))))
  rw [hp]
  try rfl
theorem Jxm : Ji tau Try.prog 58 Jxl := Ji.mk' fun xs es k res hl hr => by
  change Jhi xs es k = some res at hr
  unfold Jhi at hr
  split at hr
  · rename_i bz bf b m at1 oz of o h mc
    obtain ⟨hc, hr⟩ := JL hr
    exact QQ Jr JsW Js Jxj Jxk Joo [.ro] 0 0 (JAD 0) hl rfl ((e58 0 bz bf b m at1 oz of o h mc k).trans ((JsX bz bf b m at1 oz of o h mc hc k).trans hr))
  · cases hr
-- FN delta.Bytes | ref8.Bytes
structure DV where
  (ad au id ve : Int) (h : List PV) (kd : Int) (o : List PV) (wd wu : Int)
noncomputable def JjV (d : DV) : List Int := Qj d.ad ++ (Qj d.au ++ (Qj d.id ++ (Qj d.ve ++ (Jd d.h ++ ([IntKind.u8.wrap d.kd] ++ (Qt (tx (pu .u8 (opB d.o))) ++ (Qj d.wd ++ Qj d.wu)))))))
noncomputable def dlB : DV → List Int := hid JjV
theorem Jd4 (d : DV) : dlB d = JjV d := by rw [dlB, hid_eq]
noncomputable def dOk : DV → Bool := hid fun d => Jh .u8 d.h && (decide (d.h.length = 32) && (cBy d.o && decide ((opB d.o).length ≤ 65535)))
theorem Yw {d : DV} : dOk d = true ↔ Jh .u8 d.h = true ∧ d.h.length = 32 ∧ cBy d.o = true ∧ (opB d.o).length ≤ 65535 := by
  rw [dOk, hid_eq]; simp only [Bool.and_eq_true, decide_eq_true_eq]
theorem JbG {d : DV} (h : dOk d = true) : (dlB d).length = (opB d.o).length + 83 := by
  obtain ⟨h1, h2, h3, h4⟩ := Yw.1 h
  rw [Jd4]
  simp only [JjV, List.length_append, V0, Qu, Xq, Yv, JO, h2, List.length_cons, List.length_nil]; omega
theorem JlQ {d : DV} (h : dOk d = true) : apI (apI (apT (apY (apI (apI (apI (apI [] d.ad) d.au) d.id) d.ve ++ List.take 32 d.h) d.kd) (tx (pu .u8 (opB d.o)))) d.wd) d.wu = pu .u8 (dlB d) := by
  obtain ⟨h1, h2, h3, h4⟩ := Yw.1 h
  rw [Jd4, List.take_of_length_le (by omega)]
  simp only [Vk, GF, JbA, JjV, JZ, List.nil_append, List.append_assoc, ← Qb h1]
noncomputable def Jd5 : List PV → List Ent → (Res → Option Res) → Option Res
  | [.st 73 [.st 45 [.sc (.int .i64 ad), .sc (.int .i64 au)], .sc (.int .i64 id1), .sc (.int .i64 ve), .ar 37 h, .sc (.int .i64 kd), .ro 99 oz of o, .st 45 [.sc (.int .i64 wd), .sc (.int .i64 wu)]]], [], k => bif dOk ⟨ad, au, id1, ve, h, kd, o, wd, wu⟩ then k ⟨.ro 5 false false (pu .u8 (dlB ⟨ad, au, id1, ve, h, kd, o, wd, wu⟩)), [], []⟩ else none
  | _, _, _ => none
noncomputable def JqF : Sig := { own := [], run := Jd5 }
theorem Jop (ad au id1 ve : Int) (h : List PV) (kd : Int) (oz of : Bool) (o : List PV) (wd wu : Int) (he : dOk ⟨ad, au, id1, ve, h, kd, o, wd, wu⟩ = true) (k : Res → Option Res) : JsV 0 ad au id1 ve h kd oz of o wd wu k = k ⟨.ro 5 false false (pu .u8 (dlB ⟨ad, au, id1, ve, h, kd, o, wd, wu⟩)), [], []⟩ := by
  have hl := JbG he
  have hp := JlQ he
  obtain ⟨h1, h2, h3, h4⟩ := Yw.1 he
  simp only at hl hp h1 h2 h3 h4
  have ht : ∀ l : List PV, ByteArray.mk (Array.mk (Jq l)) = tx l := fun l => rfl
  have hm : List.take 32 h = h := List.take_of_length_le (by omega)
  have l1 : ∀ (L : List PV) (n : Int), (apY L n).length = L.length + 1 := ZL
  have l2 : ∀ (L : List PV) (n : Int), (apI L n).length = L.length + 8 := JaB
  have l3 : ∀ (L : List PV), (apT L (tx (pu .u8 (opB o)))).length = L.length + ((opB o).length + 2) := fun L => by rw [Vk]; simp [Yv]
  have htp : ∀ l : List Int, List.take l.length (pu .u8 l) = pu .u8 l := fun l => List.take_of_length_le (by simp)
  have hcat : ∀ L : List PV, List.take (L.length + h.length) (L ++ h) = L ++ h := fun L => List.take_of_length_le (by simp)
  rw [hm] at hp
  unfold JsV
  simp only [ht, hm, List.take_length, htp, List.drop_zero, hcat, Yv, JO]
  refine (Jc (by rw [Zq]; rfl)).trans ((Jc (Q1 (by simp only [l2, List.length_nil]; omega))).trans ((Jc (Q1 (by simp only [l2, List.length_nil]; omega))).trans ((Jc (Q1 (by simp only [l2, List.length_nil]; omega))).trans ?_)))
  refine (Jc (by simp only [Jn, Nat.mul_one, Bool.and_true, decide_eq_true_eq, l2, List.length_nil]; omega)).trans ?_
  refine (Jc (by rw [Q1 (by simp only [List.length_append, l2, List.length_nil]; omega)])).trans ((Jc h3).trans ((Jc (by rw [J6]; rfl)).trans ?_))
  refine (Jc (by rw [Q1 (by simp only [l1, List.length_append, l2, List.length_nil]; omega), Bool.true_and, Nat.ble_eq]; exact h4)).trans ?_
  refine (Jc (Q1 (by rw [l3]; simp only [l1, List.length_append, l2, List.length_nil]; omega))).trans ?_
  refine (Jc (Q1 (by rw [l2, l3]; simp only [l1, List.length_append, l2, List.length_nil]; omega))).trans ?_
  rw [hp]
  try rfl
theorem JsY : Ji tau Try.prog 101 JqF := Ji.mk' fun xs es k res hl hr => by
  change Jd5 xs es k = some res at hr
  unfold Jd5 at hr
  split at hr
  · rename_i ad au id1 ve h kd oz of o wd wu
    obtain ⟨hc, hr⟩ := JL hr
    exact QQ Jr Jom Js JqD JqE Ji0 [.ro] 0 6 (Jxh 0) hl rfl ((JAB 0 ad au id1 ve h kd oz of o wd wu k).trans ((Jop ad au id1 ve h kd oz of o wd wu hc k).trans hr))
  · cases hr
noncomputable def Jxn : Fns := F0
theorem Joq : Jz tau Try.prog Jxn := JG
def Ji1 : An := (.seq .leaf (.seq (.seq .leaf (.cond (.seq .leaf .leaf) .leaf)) (.seq .leaf .leaf)))
noncomputable def Jor (f : Nat) (k0_z : Bool) (k0_f : Bool) (k0 : List PV) (k1_z : Bool) (k1_f : Bool) (k1 : List PV) (k2_z : Bool) (k2_f : Bool) (k2 : List PV) (d : Int) (k : Res → Option Res) : Option Res := bif decide (d < 0) then k (Res.mk (.tup [.ro 5 true true [], .sc (.bool false)]) [] []) else bif decide (d ≥ 3) then k (Res.mk (.tup [.ro 5 true true [], .sc (.bool false)]) [] []) else bif decide (0 ≤ d) && decide (d < zi 3) && true then bif PV.isRo 5 (Jj (PV.st 31 [.ro 5 k0_z k0_f k0, .ro 5 k1_z k1_f k1, .ro 5 k2_z k2_f k2]) [d.toNat]) && true then k (Res.mk (.tup [.ro 5 (Jj (PV.st 31 [.ro 5 k0_z k0_f k0, .ro 5 k1_z k1_f k1, .ro 5 k2_z k2_f k2]) [d.toNat]).nl (Jj (PV.st 31 [.ro 5 k0_z k0_f k0, .ro 5 k1_z k1_f k1, .ro 5 k2_z k2_f k2]) [d.toNat]).fl (Jj (PV.st 31 [.ro 5 k0_z k0_f k0, .ro 5 k1_z k1_f k1, .ro 5 k2_z k2_f k2]) [d.toNat]).els, .sc (.bool true)]) [] []) else none else none
theorem JAF (f : Nat) (k0_z : Bool) (k0_f : Bool) (k0 : List PV) (k1_z : Bool) (k1_f : Bool) (k1 : List PV) (k2_z : Bool) (k2_f : Bool) (k2 : List PV) (d : Int) (k : Res → Option Res) : JM tau Jxn Try.f102 (Try.f102.body.get!) Ji1 [.ro, .ro] 0 [.st 31 [.ro 5 k0_z k0_f k0, .ro 5 k1_z k1_f k1, .ro 5 k2_z k2_f k2], .sc (.int .i64 d)] [] k = Jor f k0_z k0_f k0 k1_z k1_f k1 k2_z k2_f k2 d k := by kernel_rfl
theorem Jxo (f : Nat) : Jg (Try.f102.body.get!) Ji1 = [] := by kernel_rfl
theorem Jxp (f : Nat) : ∀ q ∈ Jg (Try.f102.body.get!) Ji1, q.Ok tau Try.prog 0 := by
  rw [Jxo f]; intro q hq; cases hq
theorem JqG : Try.prog.funcs[102]? = some Try.f102 := by kernel_rfl
theorem JqH : Try.f102.body = some (Try.f102.body.get!) := by kernel_rfl
theorem JlR : Enters Try.prog 102 := enters_of JqG (by kernel_rfl) JqH
noncomputable def Jhj : List PV → List Ent → (Res → Option Res) → Option Res
  | [.st 31 [.ro 5 k0_z k0_f k0, .ro 5 k1_z k1_f k1, .ro 5 k2_z k2_f k2], .sc (.int .i64 d)], [], k => Jor 0 k0_z k0_f k0 k1_z k1_f k1 k2_z k2_f k2 d k
  | _, _, _ => none
noncomputable def JAG : Sig := { own := [], run := Jhj }
theorem Jxq : Ji tau Try.prog 102 JAG := JS Jr Joq Js JqG JqH Ji1 [.ro, .ro] 0 [] Jhj (Jxp 0) fun xs es k res hr => by
  unfold Jhj at hr
  split at hr
  · exact ⟨rfl, 0, (JAF 0 _ _ _ _ _ _ _ _ _ _  _).trans hr⟩
  · cases hr
-- FN sign.key
noncomputable def kIn : Int → Bool := hid fun d => QK d 2
theorem Jd6 (d : Int) : kIn d = QK d 2 := by rw [kIn, hid_eq]
noncomputable def Jd7 : List PV → List Ent → (Res → Option Res) → Option Res
  | [.st 31 [.ro 5 z0 f0 k0, .ro 5 z1 f1 k1, .ro 5 z2 f2 k2], .sc (.int .i64 d)], [], k =>
    k ⟨.tup [.ro 5 (JrK ⟨[.ro 5 z0 f0 k0, .ro 5 z1 f1 k1, .ro 5 z2 f2 k2], d⟩) (JrL ⟨[.ro 5 z0 f0 k0, .ro 5 z1 f1 k1, .ro 5 z2 f2 k2], d⟩) (QG ⟨[.ro 5 z0 f0 k0, .ro 5 z1 f1 k1, .ro 5 z2 f2 k2], d⟩), .sc (.bool (kIn d))], [], []⟩
  | _, _, _ => none
noncomputable def Ji2 : Sig := { own := [], run := Jd7 }
theorem Jhk : Ji tau Try.prog 102 Ji2 := Jxq.of fun xs es k res hr => by
  change Jd7 xs es k = some res at hr
  unfold Jd7 at hr
  split at hr
  · rename_i z0 f0 k0 z1 f1 k1 z2 f2 k2 d
    show Jor 0 z0 f0 k0 z1 f1 k1 z2 f2 k2 d k = some res
    rw [Jnm, Jnn, Jax, Jd6] at hr
    unfold Jor
    by_cases h1 : 0 ≤ d
    · refine (JK (by simp; omega)).trans ?_
      by_cases h2 : d ≤ 2
      · refine (JK (by simp; omega)).trans ?_
        refine (Jc (by simp [zi]; omega)).trans ?_
        have hi : QK d 2 = true := by simp [QK]; omega
        have hk : W4 [.ro 5 z0 f0 k0, .ro 5 z1 f1 k1, .ro 5 z2 f2 k2] d = Jj (PV.st 31 [.ro 5 z0 f0 k0, .ro 5 z1 f1 k1, .ro 5 z2 f2 k2]) [d.toNat] := by unfold W4; rw [hi]; rfl
        simp only [hk, hi] at hr
        refine (Jc ?_).trans hr
        have : d = 0 ∨ d = 1 ∨ d = 2 := by omega
        rcases this with rfl | rfl | rfl <;> rfl
      · refine (Jc (by simp; omega)).trans ?_
        have hi : QK d 2 = false := by simp [QK]; omega
        have hk : W4 [.ro 5 z0 f0 k0, .ro 5 z1 f1 k1, .ro 5 z2 f2 k2] d = .ro 5 true true [] := by unfold W4; rw [hi]; rfl
        simp only [hk, hi] at hr
        exact hr
    · refine (Jc (by simp; omega)).trans ?_
      have hi : QK d 2 = false := by simp [QK]; omega
      have hk : W4 [.ro 5 z0 f0 k0, .ro 5 z1 f1 k1, .ro 5 z2 f2 k2] d = .ro 5 true true [] := by unfold W4; rw [hi]; rfl
      simp only [hk, hi] at hr
      exact hr
  · cases hr
noncomputable def F46 : Fns := JD 102 Ji2 (JD 101 JqF (JD 80 JnK (F0)))
theorem JsZ : Jz tau Try.prog F46 := (((JG).add Jlg Jsh).add JsY Jxi).add Jhk JlR
def Jos : An := (.seq .leaf (.seq .leaf (.seq .leaf (.seq .leaf .leaf))))
noncomputable def g46 (f : Nat) (k0_z : Bool) (k0_f : Bool) (k0 : List PV) (k1_z : Bool) (k1_f : Bool) (k1 : List PV) (k2_z : Bool) (k2_f : Bool) (k2 : List PV) (d_Author_D : Int) (d_Author_U : Int) (d_Id : Int) (d_Version : Int) (d_Hash : List PV) (d_Kind : Int) (d_Op_z : Bool) (d_Op_f : Bool) (d_Op : List PV) (d_Who_D : Int) (d_Who_U : Int) (k : Res → Option Res) : Option Res := bif dOk (DV.mk d_Author_D d_Author_U d_Id d_Version d_Hash d_Kind d_Op d_Who_D d_Who_U) then bif Jh IntKind.u8 (QG (K3.mk [.ro 5 k0_z k0_f k0, .ro 5 k1_z k1_f k1, .ro 5 k2_z k2_f k2] d_Author_D)) && decide ((QG (K3.mk [.ro 5 k0_z k0_f k0, .ro 5 k1_z k1_f k1, .ro 5 k2_z k2_f k2] d_Author_D)).length ≤ 1000000000) && (Jh IntKind.u8 (Jm [.ro 5 false false (pu IntKind.u8 (dlB (DV.mk d_Author_D d_Author_U d_Id d_Version d_Hash d_Kind d_Op d_Who_D d_Who_U)))]) && decide ((Jm [.ro 5 false false (pu IntKind.u8 (dlB (DV.mk d_Author_D d_Author_U d_Id d_Version d_Hash d_Kind d_Op d_Who_D d_Who_U)))]).length ≤ 1000000000)) && true then k (Res.mk (.st 77 [.ro 5 false false (pu IntKind.u8 (dlB (DV.mk d_Author_D d_Author_U d_Id d_Version d_Hash d_Kind d_Op d_Who_D d_Who_U))), .ar 37 (pu IntKind.u8 (JU (Jd (QG (K3.mk [.ro 5 k0_z k0_f k0, .ro 5 k1_z k1_f k1, .ro 5 k2_z k2_f k2] d_Author_D))) (Jd (Jm [.ro 5 false false (pu IntKind.u8 (dlB (DV.mk d_Author_D d_Author_U d_Id d_Version d_Hash d_Kind d_Op d_Who_D d_Who_U)))]))))]) [] []) else none else none
theorem e46 (f : Nat) (k0_z : Bool) (k0_f : Bool) (k0 : List PV) (k1_z : Bool) (k1_f : Bool) (k1 : List PV) (k2_z : Bool) (k2_f : Bool) (k2 : List PV) (d_Author_D : Int) (d_Author_U : Int) (d_Id : Int) (d_Version : Int) (d_Hash : List PV) (d_Kind : Int) (d_Op_z : Bool) (d_Op_f : Bool) (d_Op : List PV) (d_Who_D : Int) (d_Who_U : Int) (k : Res → Option Res) : JM tau F46 Try.f46 (Try.f46.body.get!) Jos [.ro] 0 [.st 31 [.ro 5 k0_z k0_f k0, .ro 5 k1_z k1_f k1, .ro 5 k2_z k2_f k2], .st 73 [.st 45 [.sc (.int .i64 d_Author_D), .sc (.int .i64 d_Author_U)], .sc (.int .i64 d_Id), .sc (.int .i64 d_Version), .ar 37 d_Hash, .sc (.int .i64 d_Kind), .ro 99 d_Op_z d_Op_f d_Op, .st 45 [.sc (.int .i64 d_Who_D), .sc (.int .i64 d_Who_U)]]] [] k = g46 f k0_z k0_f k0 k1_z k1_f k1 k2_z k2_f k2 d_Author_D d_Author_U d_Id d_Version d_Hash d_Kind d_Op_z d_Op_f d_Op d_Who_D d_Who_U k := by kernel_rfl
theorem JAH (f : Nat) : Jg (Try.f46.body.get!) Jos = [] := by kernel_rfl
theorem JAI (f : Nat) : ∀ q ∈ Jg (Try.f46.body.get!) Jos, q.Ok tau Try.prog 0 := by
  rw [JAH f]; intro q hq; cases hq
theorem Jxr : Try.prog.funcs[46]? = some Try.f46 := by kernel_rfl
theorem Jxs : Try.f46.body = some (Try.f46.body.get!) := by kernel_rfl
theorem JAJ : Enters Try.prog 46 := enters_of Jxr (by kernel_rfl) Jxs
noncomputable def JlS : List PV → List Ent → (Res → Option Res) → Option Res
  | [.st 31 [.ro 5 k0_z k0_f k0, .ro 5 k1_z k1_f k1, .ro 5 k2_z k2_f k2], .st 73 [.st 45 [.sc (.int .i64 d_Author_D), .sc (.int .i64 d_Author_U)], .sc (.int .i64 d_Id), .sc (.int .i64 d_Version), .ar 37 d_Hash, .sc (.int .i64 d_Kind), .ro 99 d_Op_z d_Op_f d_Op, .st 45 [.sc (.int .i64 d_Who_D), .sc (.int .i64 d_Who_U)]]], [], k => g46 0 k0_z k0_f k0 k1_z k1_f k1 k2_z k2_f k2 d_Author_D d_Author_U d_Id d_Version d_Hash d_Kind d_Op_z d_Op_f d_Op d_Who_D d_Who_U k
  | _, _, _ => none
noncomputable def s46 : Sig := { own := [], run := JlS }
theorem JAK : Ji tau Try.prog 46 s46 := JS Jr JsZ Js Jxr Jxs Jos [.ro] 0 [] JlS (JAI 0) fun xs es k res hr => by
  unfold JlS at hr
  split at hr
  · exact ⟨rfl, 0, (e46 0 _ _ _ _ _ _ _ _ _ _ _ _ _ _ _ _ _ _ _ _  _).trans hr⟩
  · cases hr
noncomputable def Jxt : Fns := F0
theorem Jot : Jz tau Try.prog Jxt := JG
def Ji3 : An := (.seq .leaf (.seq (.seq .leaf (.cond (.seq .leaf .leaf) .leaf)) (.seq .leaf .leaf)))
noncomputable def Jxu (f : Nat) (s_z : Bool) (s_f : Bool) (s : List PV) (k : Res → Option Res) : Option Res :=
  bif s_z then
    k (Res.mk (PV.ro 99 true true []) [] [])
  else bif Jn (0 + s.length) 32 && true then
    k (Res.mk (PV.ro 99 false false (List.take (0 + s.length) s)) [] [])
  else none
theorem JAL (f : Nat) (s_z : Bool) (s_f : Bool) (s : List PV) (k : Res → Option Res) : JM tau Jxt Try.f161 (Try.f161.body.get!) Ji3 [.ro] 0 [.ro 99 s_z s_f s] [] k = Jxu f s_z s_f s k := by kernel_rfl
theorem Jxv (f : Nat) : Jg (Try.f161.body.get!) Ji3 = [] := by kernel_rfl
theorem Jxw (f : Nat) : ∀ q ∈ Jg (Try.f161.body.get!) Ji3, q.Ok tau Try.prog 0 := by
  rw [Jxv f]; intro q hq; cases hq
theorem JqI : Try.prog.funcs[161]? = some Try.f161 := by kernel_rfl
theorem JqJ : Try.f161.body = some (Try.f161.body.get!) := by kernel_rfl
theorem Jxx : Enters Try.prog 161 := enters_of JqI (by kernel_rfl) JqJ
noncomputable def Jhl : List PV → List Ent → (Res → Option Res) → Option Res
  | [.ro 99 s_z s_f s], [], k => Jxu 0 s_z s_f s k
  | _, _, _ => none
noncomputable def Jxy : Sig := { own := [], run := Jhl }
theorem Jxz : Ji tau Try.prog 161 Jxy := JS Jr Jot Js JqI JqJ Ji3 [.ro] 0 [] Jhl (Jxw 0) fun xs es k res hr => by
  unfold Jhl at hr
  split at hr
  · exact ⟨rfl, 0, (JAL 0 _ _ _  _).trans hr⟩
  · cases hr
end Go.Proofs.Ytcklhipdldpkhaa.Rx
