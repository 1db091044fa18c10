/- What the functions of this law compute, and their plain laws. Conditions: none. -/
import Derived.Test.YtodldmomneecpaaShaHexP1
-- FN law2.ShaHex
/- ShaHex: a sum's digits say its bytes. Own work. -/
namespace Go.Proofs.Ytodldmomneecpaa.Rx
open Go
set_option linter.unusedVariables false
set_option linter.unusedSimpArgs false
set_option maxRecDepth 100000
set_option maxHeartbeats 1000000
def stepD (rc : Int → Option Res) (bad : Option Res) (n c : Int) : Option Res :=
  bif decide (c ≥ 48) then
    bif decide (c ≤ 57) then rc (IntKind.i64.wrap (IntKind.i64.wrap (16 * n) + IntKind.i64.wrap (IntKind.u8.wrap (c - 48))))
    else bif decide (c ≥ 97) then bif decide (c ≤ 102) then rc (IntKind.i64.wrap (IntKind.i64.wrap (IntKind.i64.wrap (16 * n) + IntKind.i64.wrap (IntKind.u8.wrap (c - 97))) + 10)) else bad else bad
  else bif decide (c ≥ 97) then bif decide (c ≤ 102) then rc (IntKind.i64.wrap (IntKind.i64.wrap (IntKind.i64.wrap (16 * n) + IntKind.i64.wrap (IntKind.u8.wrap (c - 97))) + 10)) else bad else bad
theorem lpS11_1_eq (f : Nat) (rc : ByteArray → Int → Int → Int → List PV → Option Res) (k0 : Bool → ByteArray → Int → Int → List PV → Option Res) (k1 : ByteArray → Int → Int → List PV → Option Res) (v0 : ByteArray) (v1 v2 v3 : Int) (v4 : List PV) :
    lpS11_1 f rc k0 k1 v0 v1 v2 v3 v4 = bif decide (v3 < 2) then
      (bif decide (0 ≤ IntKind.i64.wrap (IntKind.i64.wrap (2 * v1) + v3)) && decide (IntKind.i64.wrap (IntKind.i64.wrap (2 * v1) + v3) < zi v0.size) && true then
        stepD (fun n => rc v0 v1 n (IntKind.i64.wrap (v3 + 1)) v4) (k0 false v0 v1 v2 v4) v2 (zi (v0.data.toList.getD (IntKind.i64.wrap (IntKind.i64.wrap (2 * v1) + v3)).toNat 0).toNat)
      else none) else k1 v0 v1 v2 v4 := by kernel_rfl
theorem dg_all : ((List.range 16).all fun x => (decide (48 ≤ dg (x : Int)) && decide (dg (x : Int) ≤ 57) && (dg (x : Int) - 48 == (x : Int))) || (decide (97 ≤ dg (x : Int)) && decide (dg (x : Int) ≤ 102) && (dg (x : Int) - 87 == (x : Int)))) = true := by kernel_rfl
theorem dg_digit {x : Int} (h0 : 0 ≤ x) (h1 : x < 16) : (48 ≤ dg x ∧ dg x ≤ 57 ∧ dg x = 48 + x) ∨ (97 ≤ dg x ∧ dg x ≤ 102 ∧ dg x = 87 + x) := by
  obtain ⟨n, rfl⟩ := Int.eq_ofNat_of_zero_le h0
  have := List.all_eq_true.1 dg_all n (List.mem_range.2 (by omega))
  simp only [Bool.or_eq_true, Bool.and_eq_true, decide_eq_true_eq, beq_iff_eq] at this
  rcases this with ⟨⟨a, b⟩, c⟩ | ⟨⟨a, b⟩, c⟩
  · exact .inl ⟨a, b, by omega⟩
  · exact .inr ⟨a, b, by omega⟩
theorem stepD_eq {x n : Int} (h0 : 0 ≤ x) (h1 : x < 16) (n0 : 0 ≤ n) (n1 : n < 16) (rc : Int → Option Res) (bad : Option Res) : stepD rc bad n (dg x) = rc (16 * n + x) := by
  unfold stepD
  rcases dg_digit h0 h1 with ⟨a, b, c⟩ | ⟨a, b, c⟩
  · have e : IntKind.i64.wrap (IntKind.i64.wrap (16 * n) + IntKind.i64.wrap (IntKind.u8.wrap (dg x - 48))) = 16 * n + x := by
      have u : IntKind.u8.wrap (dg x - 48) = x := by rw [wrap_u8_eq]; omega
      rw [u, wrap_i64 (x := 16 * n) (by omega) (by omega), wrap_i64 (x := x) (by omega) (by omega), wrap_i64 (by omega) (by omega)]
    rw [bif_t (by simpa using a), bif_t (by simpa using b), e]
  · have e : IntKind.i64.wrap (IntKind.i64.wrap (IntKind.i64.wrap (16 * n) + IntKind.i64.wrap (IntKind.u8.wrap (dg x - 97))) + 10) = 16 * n + x := by
      have u : IntKind.u8.wrap (dg x - 97) = x - 10 := by rw [wrap_u8_eq]; omega
      rw [u, wrap_i64 (x := 16 * n) (by omega) (by omega), wrap_i64 (x := x - 10) (by omega) (by omega), wrap_i64 (x := 16 * n + (x - 10)) (by omega) (by omega), wrap_i64 (by omega) (by omega)]; omega
    rw [bif_t (by simp; omega), bif_f (by simp; omega), bif_t (by simpa using a), bif_t (by simpa using b), e]
theorem hexP_get : ∀ (xs : List Int) (i : Nat), i < xs.length → (hexP xs).getD (2 * i) 0 = dg (IntKind.u8.wrap ((xs.getD i 0).tdiv 16)) ∧ (hexP xs).getD (2 * i + 1) 0 = dg ((xs.getD i 0).tmod 16)
  | x :: r, 0, h => ⟨rfl, rfl⟩
  | x :: r, i + 1, h => by
      have ih := hexP_get r i (by simpa using h)
      have e : hexP (x :: r) = dg (IntKind.u8.wrap (x.tdiv 16)) :: dg (x.tmod 16) :: hexP r := rfl
      rw [e, show 2 * (i + 1) = 2 * i + 1 + 1 from by omega]
      simpa only [List.getD_cons_succ] using ih
theorem toBytes_get : ∀ (l : List Int) (j : Nat), j < l.length → (toBytes (pu .u8 l)).getD j 0 = UInt8.ofNat (l.getD j 0).toNat
  | x :: r, 0, h => rfl
  | x :: r, j + 1, h => by
      have := toBytes_get r j (by simpa using h)
      show (UInt8.ofNat _ :: toBytes (pu .u8 r)).getD (j + 1) 0 = _
      simpa only [List.getD_cons_succ] using this
theorem hexS_get {xs : List Int} {j : Nat} (h : j < 2 * xs.length) {y : Int} (hy : (hexP xs).getD j 0 = dg y) (h0 : 0 ≤ y) (h1 : y < 16) : zi ((hexS xs).data.toList.getD j 0).toNat = dg y := by
  have e : (hexS xs).data.toList.getD j 0 = UInt8.ofNat ((hexP xs).getD j 0).toNat := toBytes_get _ _ (by rw [hexP_length]; exact h)
  rw [e, hy]
  have hd : 0 ≤ dg y ∧ dg y < 256 := by rcases dg_digit h0 h1 with ⟨a, b, c⟩ | ⟨a, b, c⟩ <;> omega
  rw [UInt8.toNat_ofNat']
  simp only [zi]
  omega
theorem l11_1 (xs : List Int) (hx : xs.length = 32) (hr : inR xs = true) (f n i : Nat) (hi : i < 32) (k0 : Bool → ByteArray → Int → Int → List PV → Option Res) (k1 : ByteArray → Int → Int → List PV → Option Res) (v4 : List PV) :
    lp11_1 f k0 k1 (n + 3) (hexS xs) (i : Int) 0 0 v4 = k1 (hexS xs) (i : Int) (xs.getD i 0) v4 := by
  obtain ⟨b1, b2⟩ := inR_get hr (i := i) (by omega)
  obtain ⟨q1, q2⟩ := hexP_get xs i (by omega)
  have e1 : (xs.getD i 0).tdiv 16 = (xs.getD i 0) / 16 := Int.tdiv_eq_ediv_of_nonneg b1
  have e2 : (xs.getD i 0).tmod 16 = (xs.getD i 0) % 16 := Int.tmod_eq_emod_of_nonneg b1
  have e3 : IntKind.u8.wrap ((xs.getD i 0).tdiv 16) = (xs.getD i 0) / 16 := by rw [e1, wrap_u8_eq]; omega
  rw [e3] at q1
  rw [e2] at q2
  have p0 : IntKind.i64.wrap (IntKind.i64.wrap (2 * (i : Int)) + 0) = ((2 * i : Nat) : Int) := by rw [wrap_i64 (x := 2 * (i : Int)) (by omega) (by omega), wrap_i64 (by omega) (by omega)]; omega
  have p1 : IntKind.i64.wrap (IntKind.i64.wrap (2 * (i : Int)) + 1) = ((2 * i + 1 : Nat) : Int) := by rw [wrap_i64 (x := 2 * (i : Int)) (by omega) (by omega), wrap_i64 (by omega) (by omega)]; omega
  have r0 : IntKind.i64.wrap (0 + 1) = 1 := by decide
  have r1 : IntKind.i64.wrap (1 + 1) = 2 := by decide
  have hz := hexS_size xs
  have c1 := hexS_get (xs := xs) (j := 2 * i) (by omega) q1 (by omega) (by omega)
  have c2 := hexS_get (xs := xs) (j := 2 * i + 1) (by omega) q2 (by omega) (by omega)
  simp only [lp11_1]
  rw [lpS11_1_eq, p0, Int.toNat_natCast, c1, r0]
  refine (bif_t (by decide)).trans ((bif_t (by simp [hz]; omega)).trans ?_)
  rw [stepD_eq (by omega) (by omega) (by omega) (by omega)]
  rw [lpS11_1_eq, p1, Int.toNat_natCast, c2, r1]
  refine (bif_t (by decide)).trans ((bif_t (by simp [hz]; omega)).trans ?_)
  rw [stepD_eq (by omega) (by omega) (by omega) (by omega)]
  rw [lpS11_1_eq]
  refine (bif_f (by decide)).trans ?_
  have : 16 * (16 * 0 + xs.getD i 0 / 16) + xs.getD i 0 % 16 = xs.getD i 0 := by omega
  rw [this]
theorem l11_0 (xs : List Int) (hx : xs.length = 32) (hr : inR xs = true) (f : Nat) (k0 : Bool → Option Res) (k1 : Option Res) : ∀ (d i n : Nat), i + d = 32 → d < n →
    lp11_0 (f + 3) k0 k1 n (hexS xs) (i : Int) (pu .u8 xs) = k1
  | 0, i, n + 1, h, hn => by
      obtain rfl : i = 32 := by omega
      simp only [lp11_0, lpS11_0]
      exact bif_f (by decide)
  | d + 1, i, n + 1, h, hn => by
      obtain ⟨b1, b2⟩ := inR_get hr (i := i) (by omega)
      have h1 : IntKind.i64.wrap ((i : Int) + 1) = ((i + 1 : Nat) : Int) := by rw [wrap_i64 (by omega) (by omega)]; omega
      have g1 : ((i : Int)).toNat = i := by omega
      have w : IntKind.i64.wrap (xs.getD i 0) = xs.getD i 0 := wrap_i64 (by omega) (by omega)
      simp only [lp11_0, lpS11_0]
      refine (bif_t (by simp; omega)).trans ?_
      rw [l11_1 xs hx hr (f + 3) f i (by omega)]
      simp only [g1, h1, getP_ar, pu_isInt (show i < xs.length by omega), pu_int (show i < xs.length by omega), w]
      refine (bif_t (by simp; omega)).trans ((bif_t rfl).trans ((bif_f (by simp)).trans ?_))
      exact l11_0 xs hx hr f k0 k1 d (i + 1) n (by omega) (by omega)
theorem g11_true (xs : List Int) (hx : xs.length = 32) (hr : inR xs = true) (k : Res → Option Res) : g11 40 (pu .u8 xs) k = k ⟨.sc (.bool true), [], []⟩ := by
  unfold g11
  refine (bif_t (by simp [hx, hr])).trans ?_
  rw [ints_pu]
  refine (bif_f (by simp [hexS_size, hx])).trans ?_
  exact l11_0 xs hx hr 37 _ _ 32 0 40 (by omega) (by omega)
noncomputable def run11' : List PV → List Ent → (Res → Option Res) → Option Res
  | [.ar 26 h], [], k => bif (allInt .u8 h && decide (h.length = 32)) && inR (ints h) then k ⟨.sc (.bool true), [], []⟩ else none
  | _, _, _ => none
noncomputable def s11' : Sig := { own := [], run := run11' }
theorem ok11' : CallOk tau Try.prog 11 s11' := CallOk.mk' fun xs es k res hl hr => by
  change run11' xs es k = some res at hr
  unfold run11' at hr
  split at hr
  · rename_i h
    obtain ⟨hc, hr⟩ := of_bif hr
    simp only [Bool.and_eq_true, decide_eq_true_eq] at hc
    have h2 : g11 40 h k = some res := by
      rw [pu_ints hc.1.1, g11_true _ (by simpa using hc.1.2) hc.2]; exact hr
    exact fn_at tabOk F11_ok mixed fo11 bo11 (an11 (r11_0 40)) [.ro] 0 0 (ia11 40) hl rfl ((e11 40 h k).trans h2)
  · cases hr
theorem tyL1 {τ : Tab} {m : Nat} {a : TypeId} {pvs : List PV} (h : TyL τ m [a] pvs) : ∃ p, pvs = [p] ∧ Ty τ m a p := by
  match pvs, h with
  | [p], h => exact ⟨p, rfl, h.1⟩
theorem inR_wf {l : List PV} (h : ∀ x ∈ ints l, (Lit.int .u8 x).wf = true) : inR (ints l) = true := by
  refine List.all_eq_true.2 fun x hx => ?_
  have := h x hx
  have e1 : IntKind.u8.min = 0 := rfl
  have e2 : IntKind.u8.max = 255 := rfl
  simp only [Lit.wf, e1, e2, Bool.and_eq_true, decide_eq_true_eq] at this
  simp only [Bool.and_eq_true, decide_eq_true_eq]
  omega
theorem run11_true : ∀ pvs, TyL tau 4 [26] pvs → s11'.run pvs [] some = some ⟨.sc (.bool true), [], []⟩ := by
  intro pvs h
  obtain ⟨p, rfl, h1⟩ := tyL1 h
  have u1 : tau.und 26 = some (.array 32 5) := by kernel_rfl
  have u2 : tau.und 5 = some (.int .u8) := by kernel_rfl
  obtain ⟨els, rfl, hl, t1⟩ := ty_array u1 h1
  exact bif_t (by rw [ty_ints u2 els t1, inR_wf (ty_wf u2 els t1), hl]; rfl)
end Go.Proofs.Ytodldmomneecpaa.Rx
