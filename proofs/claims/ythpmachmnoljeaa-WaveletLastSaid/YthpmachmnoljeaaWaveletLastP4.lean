/- What the functions of this law compute, and their plain laws. Conditions: none. -/
import Derived.Test.YthpmachmnoljeaaWaveletLastP3
namespace Go.Proofs.Ythpmachmnoljeaa.Rx
noncomputable section
open Go
set_option linter.unusedVariables false
set_option linter.unusedSimpArgs false
set_option maxRecDepth 100000
set_option maxHeartbeats 0
-- FN ref4.Apply
structure AP where
 (doc : ByteArray) (o : List PV)
def apl : List PV -> ByteArray -> Nat -> ByteArray -> ByteArray
 | [], _, _, out => out
 | p :: ps, doc, at1, out =>
  bif (cv p).kd == 1 then apl ps doc (at1 + (cv p).n.toNat) (out ++ doc.extract at1 (at1 + (cv p).n.toNat))
  else bif (cv p).kd == 2 then apl ps doc at1 (out ++ (cv p).s)
  else apl ps doc (at1 + (cv p).n.toNat) out
def JhZ (x : AP) : Int := bif inL x.o != zi x.doc.size then 7 else bif decide (outL x.o > 120) then 5 else 0
def apE : AP -> Int := hid JhZ
def apD : AP -> ByteArray := hid fun x => bif JhZ x == 0 then apl x.o x.doc 0 (ByteArray.mk (Array.mk [])) else ByteArray.mk (Array.mk [])
theorem Juc (x : AP) : apE x = JhZ x := by rw [apE, hid_eq]
theorem Jmi (x : AP) : apD x = bif JhZ x == 0 then apl x.o x.doc 0 (ByteArray.mk (Array.mk [])) else ByteArray.mk (Array.mk []) := by rw [apD, hid_eq]
theorem JaJ (a b : ByteArray) : (a ++ b).size = a.size + b.size := ByteArray.size_append
theorem Jf9 (a : ByteArray) (i j : Nat) (h : i <= j) (h2 : j <= a.size) : (a.extract i j).size = j - i := by rw [ByteArray.size_extract]; omega
theorem Yy : ∀ {l : List PV}, (∀ p ∈ l, ckC (cv p) = 0) -> 0 <= inL l
 | [], _ => by simp [inL]
 | p :: l, h => by
  have h1 := (JeA (h p List.mem_cons_self)).1
  have h2 := Yy fun q hq => h q (List.mem_cons_of_mem _ hq)
  simp only [inL]; omega
theorem ZB : ∀ {l : List PV}, (∀ p ∈ l, ckC (cv p) = 0) -> 0 <= outL l
 | [], _ => by simp [outL]
 | p :: l, h => by
  have h1 := (Ja6 (h p List.mem_cons_self)).1
  have h2 := ZB fun q hq => h q (List.mem_cons_of_mem _ hq)
  simp only [outL]; omega
theorem Gw : ∀ {l : List PV} {doc : ByteArray} {at1 : Nat} {out : ByteArray}, (∀ p ∈ l, ckC (cv p) = 0) -> (at1 : Int) + inL l <= doc.size -> ((apl l doc at1 out).size : Int) = out.size + outL l
 | [], _, _, _, _, _ => by simp [apl, outL]
 | p :: l, doc, at1, out, h, hi => by
  have hk := h p List.mem_cons_self
  have h' : ∀ q ∈ l, ckC (cv q) = 0 := fun q hq => h q (List.mem_cons_of_mem _ hq)
  have hn := Yy h'
  simp only [apl, inL, outL] at hi ⊢
  rcases XP hk with ⟨h1, h2, h3, h4⟩ | ⟨h1, h2, h3, h4⟩
  · rcases h1 with h1 | h1
    · have e1 : inC (cv p) = (cv p).n := by unfold inC; rw [h1]; rfl
      have e2 : Wc (cv p) = (cv p).n := by unfold Wc; rw [h1]; rfl
      rw [h1]
      refine (congrArg (fun b : ByteArray => (b.size : Int)) (Ja rfl)).trans ?_
      rw [Gw h' (by omega), JaJ, Jf9 _ _ _ (by omega) (by omega)]; omega
    · have e1 : inC (cv p) = (cv p).n := by unfold inC; rw [h1]; rfl
      have e2 : Wc (cv p) = (cv p).s.size := by unfold Wc; rw [h1]; rfl
      rw [h1]
      refine (congrArg (fun b : ByteArray => (b.size : Int)) ((Jj rfl).trans (Jj rfl))).trans ?_
      rw [Gw h' (by omega)]; omega
  · have e1 : inC (cv p) = 0 := by unfold inC; rw [h1]; rfl
    have e2 : Wc (cv p) = (cv p).s.size := by unfold Wc; rw [h1]; rfl
    rw [h1]
    refine (congrArg (fun b : ByteArray => (b.size : Int)) ((Jj rfl).trans (Ja rfl))).trans ?_
    rw [Gw h' (by omega), JaJ]; omega
theorem Jmj : ∀ {l : List PV}, (∀ p ∈ l, ckC (cv p) = 0) -> inL l <= 120 * l.length
 | [], _ => by simp [inL]
 | p :: l, h => by
  have h1 := (JeA (h p List.mem_cons_self)).2
  have h2 := Jmj fun q hq => h q (List.mem_cons_of_mem _ hq)
  simp only [inL, List.length_cons]; omega
theorem Jmk {x : AP} (h : aOk x.o = true) : (apD x).size <= 120 := by
 obtain ⟨h1, h2, h3⟩ := Yx.1 h
 rw [Jmi]
 cases he : (JhZ x == 0) with
 | false => exact Nat.zero_le _
 | true =>
  rw [cond_true]
  unfold JhZ at he
  cases hi : (inL x.o != zi x.doc.size) with
  | true => rw [hi] at he; exact absurd (show false = true from he) (by decide)
  | false =>
   rw [hi] at he
   cases ho : decide (outL x.o > 120) with
   | true => rw [ho] at he; exact absurd (show false = true from he) (by decide)
   | false =>
    have ho := of_decide_eq_false ho
    have hi : inL x.o = zi x.doc.size := by simpa [bne] using hi
    have := Gw (l := x.o) (doc := x.doc) (at1 := 0) (out := ByteArray.mk (Array.mk [])) h3 (by rw [hi]; simp [zi])
    have e : (ByteArray.mk (Array.mk ([] : List UInt8))).size = 0 := rfl
    rw [e] at this; omega


-- FN ref12.Add | ref12.Remove
def Wd : List PV -> AV -> Nat
 | [], _ => 0
 | p :: ps, a => bif ltA (av p) a then Wd ps a + 1 else 0
def Gx (l : List PV) (a : AV) : List PV := l.take (Wd l a) ++ adP a :: l.drop (Wd l a)
theorem Ja7 : ∀ (l : List PV) (a : AV), Wd l a <= l.length
 | [], _ => Nat.zero_le _
 | p :: ps, a => by
  simp only [Wd, List.length_cons]
  have := Ja7 ps a
  cases ltA (av p) a with
  | true => rw [cond_true]; omega
  | false => rw [cond_false]; omega
def G6 (x : PH) : Int := bif !inA [x.a.d, 2, x.a.u, 7] then 1 else bif hasL x.l x.a then 12 else bif decide (x.l.length >= 8) then 4 else 0
def adE : PH -> Int := hid G6
def adL : PH -> List PV := hid fun x => bif G6 x == 0 then Gx x.l x.a else x.l
def adF : PH -> Bool := hid fun x => !(G6 x == 0)
theorem Jud (x : PH) : adE x = G6 x := by rw [adE, hid_eq]
theorem Jb9 (x : PH) : adL x = bif G6 x == 0 then Gx x.l x.a else x.l := by rw [adL, hid_eq]
theorem Jml (x : PH) : adF x = !(G6 x == 0) := by rw [adF, hid_eq]
def Jpi (x : PH) : Int := bif hasL x.l x.a then 0 else 2
def rmA (l : List PV) (a : AV) : List PV := l.filter fun p => !eqA (av p) a
def rmE : PH -> Int := hid Jpi
def rmL : PH -> List PV := hid fun x => bif hasL x.l x.a then rmA x.l x.a else x.l
def rmZ : PH -> Bool -> Bool := hid fun x z => bif hasL x.l x.a then (rmA x.l x.a).isEmpty else z
def rmF : PH -> Bool -> Bool := hid fun x f => bif hasL x.l x.a then false else f
theorem Jmm (x : PH) : rmE x = Jpi x := by rw [rmE, hid_eq]
theorem G7 (x : PH) : rmL x = bif hasL x.l x.a then rmA x.l x.a else x.l := by rw [rmL, hid_eq]
theorem Jmn (x : PH) (z : Bool) : rmZ x z = bif hasL x.l x.a then (rmA x.l x.a).isEmpty else z := by rw [rmZ, hid_eq]
theorem Jue (x : PH) (z : Bool) : rmF x z = bif hasL x.l x.a then false else z := by rw [rmF, hid_eq]
/-! what stays -/
theorem Xc {p : PV} {l : List PV} : srt (p :: l) = true ↔ (∀ q ∈ l, ltA (av p) (av q) = true) /\ srt l = true := by
 simp only [srt, Bool.and_eq_true, List.all_eq_true]
theorem VD (P : PV -> Bool) : ∀ {l : List PV}, srt l = true -> srt (l.filter P) = true
 | [], _ => rfl
 | p :: l, h => by
  obtain ⟨h1, h2⟩ := Xc.1 h
  rw [List.filter_cons]
  cases P p with
  | false => exact VD P h2
  | true => exact Xc.2 ⟨fun q hq => h1 q (List.mem_filter.1 hq).1, VD P h2⟩
theorem Jdu {a b c : AV} (h : ltA a b = true) (h2 : ltA b c = true) : ltA a c = true := by
 rw [Xr] at *; omega
theorem Jmo {a b : AV} (h : ltA a b = false) (h2 : eqA a b = false) : ltA b a = true := by
 have h1 : ¬ ltA a b = true := by rw [h]; decide
 have h3 : ¬ eqA a b = true := by rw [h2]; decide
 rw [Xr] at h1
 rw [Qo] at h3
 rw [Xr]
 rcases a with ⟨p, q⟩; rcases b with ⟨r, s⟩
 have : ¬ (p = r /\ q = s) := fun ⟨x, y⟩ => h3 (by rw [x, y])
 simp only at h1 ⊢
 omega
theorem Jdv (p : PV) (l : List PV) (a : AV) : Gx (p :: l) a = bif ltA (av p) a then p :: Gx l a else adP a :: p :: l := by
 unfold Gx
 simp only [Wd]
 cases ltA (av p) a with
 | true => simp
 | false => simp
theorem Gy {a : AV} {q : PV} : ∀ {l : List PV}, q ∈ Gx l a -> q = adP a ∨ q ∈ l
 | [], h => by simp [Gx, Wd] at h; exact .inl h
 | p :: l, h => by
  rw [Jdv] at h
  cases hc : ltA (av p) a with
  | true =>
   rw [hc, cond_true] at h
   rcases List.mem_cons.1 h with h | h
   · exact .inr (h ▸ List.mem_cons_self)
   · rcases Gy h with h | h
     · exact .inl h
     · exact .inr (List.mem_cons_of_mem _ h)
  | false =>
   rw [hc, cond_false] at h
   exact List.mem_cons.1 h
theorem Jga {a : AV} : ∀ {l : List PV}, srt l = true -> hasL l a = false -> srt (Gx l a) = true
 | [], _, _ => rfl
 | p :: l, h, hh => by
  obtain ⟨h1, h2⟩ := Xc.1 h
  have hh2 : eqA (av p) a = false /\ hasL l a = false := by
   have : hasL (p :: l) a = (eqA (av p) a || hasL l a) := rfl
   rw [this, Bool.or_eq_false_iff] at hh; exact hh
  rw [Jdv]
  cases hc : ltA (av p) a with
  | true =>
   rw [cond_true]
   refine Xc.2 ⟨fun q hq => ?_, Jga h2 hh2.2⟩
   rcases Gy hq with rfl | hq
   · exact hc
   · exact h1 q hq
  | false =>
   rw [cond_false]
   have hl := Jmo hc hh2.1
   refine Xc.2 ⟨fun q hq => ?_, h⟩
   rcases List.mem_cons.1 hq with rfl | hq
   · exact hl
   · exact Jdu hl (h1 q hq)
theorem ZC (l : List PV) (a : AV) : (Gx l a).length = l.length + 1 := by
 have := Ja7 l a
 simp [Gx]; omega
theorem Jpj {x : PH} (h : pOk x.l = true) : pOk (adL x) = true := by
 rw [Jb9]
 cases he : (G6 x == 0) with
 | false => exact h
 | true =>
  rw [cond_true]
  obtain ⟨h1, h2, h3⟩ := Q1.1 h
  unfold G6 at he
  cases hu : inA [x.a.d, 2, x.a.u, 7] with
  | false => rw [hu] at he; exact absurd (show false = true from he) (by decide)
  | true =>
   rw [hu] at he
   cases hh : hasL x.l x.a with
   | true => rw [hh] at he; exact absurd (show false = true from he) (by decide)
   | false =>
    rw [hh] at he
    by_cases h8 : x.l.length >= 8
    · rw [decide_eq_true h8] at he; exact absurd (show false = true from he) (by decide)
    · refine Q1.2 ⟨List.all_eq_true.2 fun q hq => ?_, Jga h2 hh, by rw [ZC]; omega⟩
      rcases Gy hq with rfl | hq
      · rfl
      · exact List.all_eq_true.1 h1 q hq
theorem Jpk {x : PH} (h : pOk x.l = true) : pOk (rmL x) = true := by
 rw [G7]
 cases hasL x.l x.a with
 | false => exact h
 | true =>
  obtain ⟨h1, h2, h3⟩ := Q1.1 h
  exact Q1.2 ⟨List.all_eq_true.2 fun q hq => List.all_eq_true.1 h1 q (List.mem_filter.1 hq).1, VD _ h2, by have := List.length_filter_le (fun p => !eqA (av p) x.a) x.l; show (rmA x.l x.a).length <= 8; unfold rmA; omega⟩

theorem JCd {τ : Tab} {m : Nat} {a : TypeId} {pvs : List PV} (h : TyL τ m [a] pvs) : ∃ p, pvs = [p] /\ Ty τ m a p := by
 match pvs, h with
 | [p], h => exact ⟨p, rfl, h.1⟩
def F12 : Fns := F0
theorem Juf : Jy tau Try.prog F12 := JE
def Jpl : An := (.seq .leaf (.seq .leaf (.seq .leaf .leaf)))
def g12 (f : Nat) (b_z b_f : Bool) (b : List PV) (k : Res -> Option Res) : Option Res := bif decide (0 <= JK (zi b.length) 60) && true && decide ((JK (zi b.length) 60).toNat <= b.length) && true then bif Jf (2 + (List.take (JK (zi b.length) 60).toNat b).length) 1 && true then bif Jf (2 + (List.take (JK (zi b.length) 60).toNat b).length) 1 && true then bif Jf (2 + (List.take (JK (zi b.length) 60).toNat b).length) 1 && true then k (Res.mk (.st 31 [.ro 5 false false (List.take (2 + (List.take (JK (zi b.length) 60).toNat b).length) (.sc (.int .u8 107) :: .sc (.int .u8 48) :: id (List.take (JK (zi b.length) 60).toNat b))), .ro 5 false false (List.take (2 + (List.take (JK (zi b.length) 60).toNat b).length) (.sc (.int .u8 107) :: .sc (.int .u8 49) :: id (List.take (JK (zi b.length) 60).toNat b))), .ro 5 false false (List.take (2 + (List.take (JK (zi b.length) 60).toNat b).length) (.sc (.int .u8 107) :: .sc (.int .u8 50) :: id (List.take (JK (zi b.length) 60).toNat b)))]) [] []) else none else none else none else none
theorem e12 (f : Nat) (b_z b_f : Bool) (b : List PV) (k : Res -> Option Res) : JL tau F12 Try.f12 (Try.f12.body.get!) Jpl [.ro] 0 [.ro 5 b_z b_f b] [] k = g12 f b_z b_f b k := by kernel_rfl
theorem JCe (f : Nat) : Je (Try.f12.body.get!) Jpl = [] := by kernel_rfl
theorem JCf (f : Nat) : ∀ q ∈ Je (Try.f12.body.get!) Jpl, q.Ok tau Try.prog 0 := by
 rw [JCe f]; intro q hq; cases hq
theorem JyT : Try.prog.funcs[12]? = some Try.f12 := by kernel_rfl
theorem JyU : Try.f12.body = some (Try.f12.body.get!) := by kernel_rfl
theorem JCg : Enters Try.prog 12 := enters_of JyT (by kernel_rfl) JyU
def Jmp : List PV -> List Ent -> (Res -> Option Res) -> Option Res
 | [.ro 5 b_z b_f b], [], k => g12 0 b_z b_f b k
 | _, _, _ => none
def s12 : Sig := { own := [], run := Jmp }
theorem JCh : Jh tau Try.prog 12 s12 := JY Jq Juf Js JyT JyU Jpl [.ro] 0 [] Jmp (JCf 0) fun xs es k res hr => by
 unfold Jmp at hr
 split at hr
 · exact ⟨rfl, 0, (e12 0 _ _ _  _).trans hr⟩
 · cases hr


theorem JaK (n : Int) (i : Nat) (h : 8 * i < 64) : ib n i = (n % 18446744073709551616) / (2 ^ (8 * i)) % 256 := by
 unfold ib Jz
 rw [W6, QT]
 have : min (8 * (i : Int)).toNat IntKind.u64.bits = 8 * i := by
  show min _ 64 = _
  omega
 rw [this, Int.fdiv_eq_ediv_of_nonneg _ (Int.pow_nonneg (by decide))]
theorem Jkq (n : Int) : Xy (JS n) = n % 18446744073709551616 := by
 rw [WF]
 simp only [Ji3, Xy]
 have e0 : ib n 0 = n % 18446744073709551616 / 2 ^ (8 * 0) % 256 := JaK n 0 (by decide)
 have e1 : ib n 1 = n % 18446744073709551616 / 2 ^ (8 * 1) % 256 := JaK n 1 (by decide)
 have e2 : ib n 2 = n % 18446744073709551616 / 2 ^ (8 * 2) % 256 := JaK n 2 (by decide)
 have e3 : ib n 3 = n % 18446744073709551616 / 2 ^ (8 * 3) % 256 := JaK n 3 (by decide)
 have e4 : ib n 4 = n % 18446744073709551616 / 2 ^ (8 * 4) % 256 := JaK n 4 (by decide)
 have e5 : ib n 5 = n % 18446744073709551616 / 2 ^ (8 * 5) % 256 := JaK n 5 (by decide)
 have e6 : ib n 6 = n % 18446744073709551616 / 2 ^ (8 * 6) % 256 := JaK n 6 (by decide)
 have e7 : ib n 7 = n % 18446744073709551616 / 2 ^ (8 * 7) % 256 := JaK n 7 (by decide)
 simp only [Nat.reduceMul, Int.reducePow] at e0 e1 e2 e3 e4 e5 e6 e7
 omega
theorem Jcv (n : Int) : IntKind.i64.wrap (n % 18446744073709551616) = IntKind.i64.wrap n := by
 have h : n % 18446744073709551616 % 18446744073709551616 = n % 18446744073709551616 := Int.emod_emod_of_dvd n (Int.dvd_refl _)
 show (if _ then _ else _) = (if _ then _ else _)
 have e : ∀ x : Int, x % 2 ^ IntKind.i64.bits = x % 18446744073709551616 := fun x => rfl
 simp only [e, h]
def i64B (n : Int) : Bool := decide (-9223372036854775808 <= n) && decide (n < 9223372036854775808)
theorem JeB {n : Int} (h : i64B n = true) : IntKind.i64.wrap (n % 18446744073709551616) = n := by
 simp only [i64B, Bool.and_eq_true, decide_eq_true_eq] at h
 have e : IntKind.i64.wrap (n % 18446744073709551616) = IntKind.i64.wrap n := Jcv n
 rw [e]; exact wrap_i64 h.1 h.2
theorem Jmq (l : List Int) (r : List PV) {n : Nat} (h : l.length = n) : QC n ⟨pu .u8 l ++ r, 0⟩ = pu .u8 l := by
 unfold QC YZ
 have : Nat.ble n (pu .u8 l ++ r).length = true := (Nat.ble_eq ▸ (by simp; omega) : Nat.ble n (pu .u8 l ++ r).length = true)
 rw [this]
 show List.take n (pu .u8 l ++ r) = _
 rw [List.take_append_of_le_length (by simp; omega), List.take_of_length_le (by simp; omega)]
theorem Gz (l : List Int) (r : List PV) {n : Nat} (h : l.length = n) : Qe n ⟨pu .u8 l ++ r, 0⟩ = ⟨r, 0⟩ := by
 unfold Qe YZ
 have : Nat.ble n (pu .u8 l ++ r).length = true := (Nat.ble_eq ▸ (by simp; omega) : Nat.ble n (pu .u8 l ++ r).length = true)
 rw [this]
 show RS.mk (List.drop n (pu .u8 l ++ r)) 0 = _
 rw [List.drop_append_of_le_length (by simp; omega), List.drop_of_length_le (by simp; omega), List.nil_append]
theorem JeC (l : List Int) (r : List PV) {n : Nat} (h : l.length = n) : Wo n ⟨pu .u8 l ++ r, 0⟩ = IntKind.i64.wrap (Xy l) := by
 unfold Wo; rw [Jmq l r h, Q0]
theorem Yz {n : Int} (h : i64B n = true) (r : List PV) : JB 8 ⟨pu .u8 (JS n) ++ r, 0⟩ = n := by
 rw [Xj, JeC _ _ (Wp n), Jkq, JeB h]
theorem QG (n : Int) (r : List PV) : Jb 8 ⟨pu .u8 (JS n) ++ r, 0⟩ = ⟨r, 0⟩ := by
 rw [W7, Gz _ _ (Wp n)]
theorem Jca (n : Int) (r : List PV) : JB 1 ⟨pu .u8 [IntKind.u8.wrap n] ++ r, 0⟩ = IntKind.u8.wrap n := by
 rw [Xj, JeC [IntKind.u8.wrap n] r (n := 1) rfl]
 have := Ya n
 simp only [Xy]
 rw [wrap_i64 (by omega) (by omega)]; omega
theorem ZX (n : Int) (r : List PV) : Jb 1 ⟨pu .u8 [IntKind.u8.wrap n] ++ r, 0⟩ = ⟨r, 0⟩ := by
 rw [W7, Gz [IntKind.u8.wrap n] r (n := 1) rfl]
theorem Jpm (l : List PV) (h : byB l = true) : Jg (⟨(Jm l).toArray⟩ : ByteArray) = l := by
 simp only [Jg]
 show (Jm l).map _ = l
 induction l with
 | nil => rfl
 | cons p ps ih =>
  have h1 : (p.isInt .u8 && (decide (0 <= p.int) && decide (p.int < 256))) = true /\ byB ps = true := by
   have : byB (p :: ps) = ((p.isInt .u8 && (decide (0 <= p.int) && decide (p.int < 256))) && byB ps) := rfl
   rw [this, Bool.and_eq_true] at h; exact h
  simp only [Jm, List.map_cons, ih h1.2]
  congr 1
  have h2 := h1.1
  simp only [Bool.and_eq_true, decide_eq_true_eq] at h2
  obtain ⟨h2, h3, h4⟩ := h2
  match p, h2 with
  | .sc (.int .u8 x), _ =>
   simp only [PV.int] at h3 h4 ⊢
   congr 2
   simp [UInt8.toNat_ofNat]
   omega
  all_goals skip
theorem Jju {t : ByteArray} (h : t.size <= 65535) (r : List PV) : JT ⟨pu .u8 (Qm t) ++ r, 0⟩ = t /\ J2 ⟨pu .u8 (Qm t) ++ r, 0⟩ = ⟨r, 0⟩ := by
 have hn : ∀ r, Wo 2 ⟨pu .u8 [IntKind.u8.wrap (zi t.size), IntKind.u8.wrap (Jz .i64 (zi t.size) 8)] ++ r, 0⟩ = (t.size : Int) := by
  intro r
  rw [JeC [IntKind.u8.wrap (zi t.size), IntKind.u8.wrap (Jz .i64 (zi t.size) 8)] r (n := 2) rfl]
  simp only [Xy, Jz, W6, zi]
  have : min (8 : Int).toNat IntKind.i64.bits = 8 := by decide
  rw [this, Int.fdiv_eq_ediv_of_nonneg _ (by decide), wrap_i64 (by omega) (by omega)]
  omega
 have hs : ∀ r, Qe 2 ⟨pu .u8 [IntKind.u8.wrap (zi t.size), IntKind.u8.wrap (Jz .i64 (zi t.size) 8)] ++ r, 0⟩ = ⟨r, 0⟩ := fun r => Gz _ _ rfl
 have he : pu .u8 (Qm t) ++ r = pu .u8 [IntKind.u8.wrap (zi t.size), IntKind.u8.wrap (Jz .i64 (zi t.size) 8)] ++ (pu .u8 (bsI t) ++ r) := by
  rw [W9, Y7, JO, List.append_assoc]
 rw [Ja2, Ja1, he]
 unfold Jfx Jfw
 rw [hn, hs, Int.toNat_natCast, Jmq _ _ (Vl t), Gz _ _ (Vl t)]
 refine ⟨?_, rfl⟩
 rw [← Wb]
 apply ByteArray.ext
 apply Array.ext'
 show Jm (Jg t) = t.data.toList
 simp only [Jg]
 generalize t.data.toList = l
 induction l with
 | nil => rfl
 | cons x l ih =>
  simp only [List.map_cons, Jm, ih, PV.int]
  congr 1
  simp
theorem Jmr : ∀ (l : List Int) (r : List PV), (∀ x ∈ l, 0 <= x /\ x < 256) -> G2 l.length ⟨pu .u8 l ++ r, 0⟩ = ⟨r, 0⟩ /\ G3 l.length ⟨pu .u8 l ++ r, 0⟩ = l
 | [], r, _ => ⟨rfl, rfl⟩
 | x :: l, r, h => by
  have h2 := Jmr l r fun y hy => h y (List.mem_cons_of_mem _ hy)
  have hx := h x List.mem_cons_self
  have e1 : Qe 1 ⟨pu .u8 (x :: l) ++ r, 0⟩ = ⟨pu .u8 l ++ r, 0⟩ := by
   rw [show pu .u8 (x :: l) ++ r = pu .u8 [x] ++ (pu .u8 l ++ r) from rfl, Gz [x] _ (n := 1) rfl]
  have e2 : Wo 1 ⟨pu .u8 (x :: l) ++ r, 0⟩ = x := by
   rw [show pu .u8 (x :: l) ++ r = pu .u8 [x] ++ (pu .u8 l ++ r) from rfl, JeC [x] _ (n := 1) rfl]
   simp only [Xy]
   rw [wrap_i64 (by omega) (by omega)]; omega
  simp only [List.length_cons, G2, G3, e1, e2, h2.1, h2.2, true_and]
  rw [W6]; congr 1; omega
structure MsgOk (ns : List Int) (ts : List ByteArray) (h : List Int) : Prop where
 len : ns.length = 12
 num : ∀ n, n < 12 -> i64B (ns.getD n 0) = true
 cnt : ts.length <= 4
 txt : ∀ t ∈ ts, t.size <= 65535
 sum : h.length = 32
 sumB : ∀ x ∈ h, 0 <= x /\ x < 256
-- FN law9.Keys | law16.Good | law16.Few
def kb : Nat -> List PV -> List PV := hid fun i b => pu .u8 [107, 48 + i] ++ b.take 60
theorem JrB (i : Nat) (b : List PV) : kb i b = pu .u8 [107, 48 + i] ++ b.take 60 := by rw [kb, hid_eq]
theorem JyV (i : Nat) {b : List PV} (h : Jo .u8 b = true) : kOk (kb i b) = true := by
 rw [JrB]; unfold kOk
 have h2 : Jo .u8 (b.take 60) = true := by
  rw [Qk h, Xh]; simp
 rw [Wf, h2, JP]
 simp; omega
def Jh0 : List PV -> List Ent -> (Res -> Option Res) -> Option Res
 | [.ro 5 z f b], [], k => k ⟨.st 31 [.ro 5 false false (kb 0 b), .ro 5 false false (kb 1 b), .ro 5 false false (kb 2 b)], [], []⟩
 | _, _, _ => none
def JyW : Sig := { own := [], run := Jh0 }
theorem JyX (n m : Nat) : (JK (zi n) m).toNat = min n m := by unfold JK; simp only [zi]; split <;> omega
theorem JyY : Jh tau Try.prog 12 JyW := JCh.of fun xs es k res hr => by
 change Jh0 xs es k = some res at hr
 unfold Jh0 at hr
 split at hr
 · rename_i z f b
   show g12 0 z f b k = some res
   have hm : (JK (zi b.length) 60).toNat = min b.length 60 := JyX b.length 60
   have ht : List.take (min b.length 60) b = b.take 60 := by rw [Nat.min_comm, List.take_eq_take_iff]; omega
   have hl : (b.take 60).length <= 60 := by simp; omega
   have e : ∀ x y : Int, List.take (2 + (b.take 60).length) (.sc (.int .u8 x) :: .sc (.int .u8 y) :: id (b.take 60)) = .sc (.int .u8 x) :: .sc (.int .u8 y) :: b.take 60 := fun x y => List.take_of_length_le (by simp; omega)
   have hk : ∀ i, kb i b = .sc (.int .u8 107) :: .sc (.int .u8 (48 + i)) :: b.take 60 := fun i => by rw [JrB]; simp
   unfold g12
   simp only [hm, ht, e]
   have hr4 : Jf (2 + (b.take 60).length) 1 = true := by simp only [Jf, Nat.mul_one, decide_eq_true_eq]; omega
   rw [Ja (by simp; unfold JK; simp only [zi]; split <;> omega), hr4]
   simp only [hk] at hr
   exact hr
 · cases hr
def Jug : Nat -> C13 -> Int
 | 0, c => 1 + c.kd % 5
 | 1, c => c.fr % 3
 | 2, c => (c.fr % 3 + 1 + c.to % 2) % 3
 | 3, c => c.wh % 3
 | 4, c => c.wn % 100
 | 5, c => c.cd % 3
 | 6, c => c.cu % 8
 | 7, c => c.ve % 1073741824
 | 8, c => c.co % 1073741824
 | 9, c => c.ad % 3
 | 10, c => c.au % 8
 | 11, c => c.su % 1073741824
 | _, c => c.er % 256
def XQ : Nat -> C13 -> Int := hid Jug
noncomputable abbrev JDb (c : C13) : C13 := ⟨XQ 0 c, XQ 1 c, XQ 2 c, XQ 3 c, XQ 4 c, XQ 5 c, XQ 6 c, XQ 7 c, XQ 8 c, XQ 9 c, XQ 10 c, XQ 11 c, XQ 12 c⟩
theorem Juh {n : Nat} {p : PV} (h : Ty tau (n + 1) 3 p) : ∃ x, p = .sc (.int .i64 x) /\ i64B x = true := by
 have u : tau.und 3 = some (.int .i64) := by kernel_rfl
 obtain ⟨x, rfl, hx⟩ := Jsa u h
 refine ⟨x, rfl, ?_⟩
 have e1 : IntKind.i64.min = -9223372036854775808 := rfl
 have e2 : IntKind.i64.max = 9223372036854775807 := rfl
 simp only [Lit.wf, e1, e2, Bool.and_eq_true, decide_eq_true_eq] at hx
 simp only [i64B, Bool.and_eq_true, decide_eq_true_eq]
 omega

-- FN
theorem JyZ {n : Int} (h : 0 < n) (h2 : n < 1000000000000) : okW n = true := by rw [Jme, Bool.and_eq_true, decide_eq_true_eq, decide_eq_true_eq]; exact ⟨h, h2⟩
theorem Jgb {l : List PV} (h : Jo .u8 l = true) : Qt l l = true := by
 rw [Qk h, GT]; exact beq_self_eq_true _
structure EW where
 (b m : List PV) (at1 : Int) (o h mc : List PV)
theorem Ja8 (x : Int) {m : Int} (h : 0 < m) : 0 <= x % m /\ x % m < m := ⟨Int.emod_nonneg _ (by omega), Int.emod_lt_of_pos _ h⟩
-- FN ref13.Do
structure SV where
 (ih iN : Int) (doc : ByteArray) (l : List PV) (ver : Int) (hash : List PV)
structure DX where
 (s : SV) (e : EW)
def Jcw (e : EW) : EV := ⟨e.b, e.m, e.at1, e.o⟩
def auA (b : List PV) : AV := ⟨dF 0 b, dF 1 b⟩
def whA (b : List PV) : AV := ⟨dF 5 b, dF 6 b⟩
def chE (x : DX) : Int := bif dF 4 x.e.b == 1 then (bif ckO x.e.o == 0 then apE ⟨x.s.doc, x.e.o⟩ else ckO x.e.o) else bif decide (zi x.e.o.length > 0) then 1 else bif dF 4 x.e.b == 2 then adE ⟨x.s.l, whA x.e.b⟩ else rmE ⟨x.s.l, whA x.e.b⟩
def chD (x : DX) : ByteArray := bif dF 4 x.e.b == 1 then apD ⟨x.s.doc, x.e.o⟩ else x.s.doc
def chL (x : DX) : List PV := bif dF 4 x.e.b == 1 then x.s.l else bif dF 4 x.e.b == 2 then adL ⟨x.s.l, whA x.e.b⟩ else rmL ⟨x.s.l, whA x.e.b⟩
def chZ (x : DX) (z : Bool) : Bool := bif dF 4 x.e.b == 1 then z else bif dF 4 x.e.b == 2 then (adF ⟨x.s.l, whA x.e.b⟩ && z) else rmZ ⟨x.s.l, whA x.e.b⟩ z
def chF (x : DX) (f : Bool) : Bool := bif dF 4 x.e.b == 1 then f else bif dF 4 x.e.b == 2 then (adF ⟨x.s.l, whA x.e.b⟩ && f) else rmF ⟨x.s.l, whA x.e.b⟩ f
def dsE0 (x : DX) : Int := bif dE x.e.b != 0 then dE x.e.b else bif x.e.at1 != x.s.ver then 15 else bif decide (dF 3 x.e.b > x.s.ver) then 15 else bif !hasP ⟨x.s.l, auA x.e.b⟩ then 13 else bif chE x != 0 then chE x else bif !Qt x.e.h (pu .u8 (nxP ⟨x.s.hash, Jcw x.e⟩)) then 16 else 0
def dsE : DX -> Int := hid dsE0
def dsD : DX -> ByteArray := hid fun x => bif dsE0 x == 0 then chD x else x.s.doc
def dsL : DX -> List PV := hid fun x => bif dsE0 x == 0 then chL x else x.s.l
def dsZ : DX -> Bool -> Bool := hid fun x z => bif dsE0 x == 0 then chZ x z else z
def dsF : DX -> Bool -> Bool := hid fun x z => bif dsE0 x == 0 then chF x z else z
def dsV : DX -> Int := hid fun x => bif dsE0 x == 0 then x.s.ver + 1 else x.s.ver
def dsH : DX -> List PV := hid fun x => bif dsE0 x == 0 then x.e.h else x.s.hash
theorem JeD (x : DX) : dsE x = dsE0 x := by rw [dsE, hid_eq]
theorem JeE (x : DX) : dsD x = bif dsE0 x == 0 then chD x else x.s.doc := by rw [dsD, hid_eq]
theorem Jcb (x : DX) : dsL x = bif dsE0 x == 0 then chL x else x.s.l := by rw [dsL, hid_eq]
theorem Jh1 (x : DX) (z : Bool) : dsZ x z = bif dsE0 x == 0 then chZ x z else z := by rw [dsZ, hid_eq]
theorem VE (x : DX) : dsV x = bif dsE0 x == 0 then x.s.ver + 1 else x.s.ver := by rw [dsV, hid_eq]
theorem G8 (x : DX) : dsH x = bif dsE0 x == 0 then x.e.h else x.s.hash := by rw [dsH, hid_eq]
def uOk (l : List PV) : Bool := l.all fun p => inA [(av p).d, 2, (av p).u, 7]
def sOk : SV -> Bool := hid fun s => pOk s.l && (h32 s.hash && (decide (0 <= s.ver) && (decide (s.ver <= 1000000) && (decide (s.doc.size <= 120) && uOk s.l))))
theorem WL {s : SV} : sOk s = true ↔ pOk s.l = true /\ h32 s.hash = true /\ 0 <= s.ver /\ s.ver <= 1000000 /\ s.doc.size <= 120 /\ uOk s.l = true := by
 rw [sOk, hid_eq]; simp only [Bool.and_eq_true, decide_eq_true_eq]
def eD : EW -> Bool := hid fun e => byB e.b && (eOk (Jcw e) && (cOk e.o && h32 e.h))
theorem G9 {e : EW} : eD e = true ↔ byB e.b = true /\ eOk (Jcw e) = true /\ cOk e.o = true /\ h32 e.h = true := by
 rw [eD, hid_eq]; simp only [Bool.and_eq_true]
def stP (s : SV) (z f : Bool) : PV := .st 58 [.st 34 [.sc (.int .i64 s.ih), .sc (.int .i64 s.iN)], .sc (.string s.doc), .ro 42 z f s.l, .sc (.int .i64 s.ver), .ar 37 s.hash]
def dsS (x : DX) : SV := ⟨x.s.ih, x.s.iN, dsD x, dsL x, dsV x, dsH x⟩
theorem Jjv {x : DX} (h0 : (dsE0 x == 0) = false) : dsS x = x.s := by
 unfold dsS; rw [JeE, Jcb, VE, G8, h0]; rfl
theorem Jpn {x : PH} (h : uOk x.l = true) : uOk (adL x) = true := by
 rw [Jb9]
 cases he : (G6 x == 0) with
 | false => exact h
 | true =>
  rw [cond_true]
  refine List.all_eq_true.2 fun q hq => ?_
  rcases Gy hq with rfl | hq
  · unfold G6 at he
    cases hu : inA [x.a.d, 2, x.a.u, 7] with
    | false => rw [hu] at he; exact absurd (show false = true from he) (by decide)
    | true => exact hu
  · exact List.all_eq_true.1 h q hq
theorem Jpo {x : PH} (h : uOk x.l = true) : uOk (rmL x) = true := by
 rw [G7]
 cases hasL x.l x.a with
 | false => exact h
 | true => exact List.all_eq_true.2 fun q hq => List.all_eq_true.1 h q (List.mem_filter.1 hq).1
theorem Jjw {x : DX} (hs : sOk x.s = true) (he : eD x.e = true) (hv : x.s.ver < 1000000) : sOk (dsS x) = true := by
 cases h : (dsE0 x == 0) with
 | false => rw [Jjv h]; exact hs
 | true =>
  obtain ⟨s1, s2, s3, s4, s5, s6⟩ := WL.1 hs
  obtain ⟨e1, e2, e3, e4⟩ := G9.1 he
  have hE : dsE0 x = 0 := by simpa using h
  unfold dsS
  rw [JeE, Jcb, VE, G8, h]
  refine WL.2 ⟨?_, e4, by show 0 <= x.s.ver + 1; omega, by show x.s.ver + 1 <= 1000000; omega, ?_, ?_⟩
  rotate_left 2
  · show uOk (chL x) = true
    unfold chL
    cases dF 4 x.e.b == 1 with
    | true => exact s6
    | false =>
     cases dF 4 x.e.b == 2 with
     | true => exact Jpn (x := ⟨x.s.l, whA x.e.b⟩) s6
     | false => exact Jpo (x := ⟨x.s.l, whA x.e.b⟩) s6
  · show pOk (chL x) = true
    unfold chL
    cases dF 4 x.e.b == 1 with
    | true => exact s1
    | false =>
     cases dF 4 x.e.b == 2 with
     | true => exact Jpj (x := ⟨x.s.l, whA x.e.b⟩) s1
     | false => exact Jpk (x := ⟨x.s.l, whA x.e.b⟩) s1
  · show (chD x).size <= 120
    unfold chD
    cases h5 : (dF 4 x.e.b == 1) with
    | false => exact s5
    | true =>
     show (apD ⟨x.s.doc, x.e.o⟩).size <= 120
     cases hc : (ckO x.e.o == 0) with
     | true => exact Jmk (x := ⟨x.s.doc, x.e.o⟩) (Jmh e3 (by simpa using hc))
     | false =>
      have hn : ckO x.e.o ≠ 0 := by simpa using hc
      have hE2 : chE x = ckO x.e.o := (Ja h5).trans (Jj hc)
      exfalso
      unfold dsE0 at hE
      rw [hE2] at hE
      cases h1 : (dE x.e.b != 0) with
      | true => rw [h1] at hE; rw [show dE x.e.b = 0 from hE] at h1; exact absurd h1 (by decide)
      | false =>
       rw [h1] at hE
       cases h2 : (x.e.at1 != x.s.ver) with
       | true => rw [h2] at hE; exact absurd (show (15 : Int) = 0 from hE) (by decide)
       | false =>
        rw [h2] at hE
        cases h3 : decide (dF 3 x.e.b > x.s.ver) with
        | true => rw [h3] at hE; exact absurd (show (15 : Int) = 0 from hE) (by decide)
        | false =>
         rw [h3] at hE
         cases h4 : (!hasP ⟨x.s.l, auA x.e.b⟩) with
         | true => rw [h4] at hE; exact absurd (show (13 : Int) = 0 from hE) (by decide)
         | false =>
          rw [h4] at hE
          have hE : (bif ckO x.e.o != 0 then ckO x.e.o else bif !Qt x.e.h (pu .u8 (nxP ⟨x.s.hash, Jcw x.e⟩)) then 16 else 0) = 0 := hE
          rw [show (ckO x.e.o != 0) = true from by simpa [bne] using hn] at hE
          exact hn hE
-- FN wavelet.Same | law13.known
structure SW where
 (a b : SV)
def wOk : SV -> Bool := hid fun s => G5 s.l && h32 s.hash
theorem Jpp {s : SV} : wOk s = true ↔ G5 s.l = true /\ h32 s.hash = true := by rw [wOk, hid_eq, Bool.and_eq_true]
def Jms : List PV -> List Ent -> (Res -> Option Res) -> Option Res
 | [], [], k => k ⟨.sc (.bool true), [], []⟩
 | _, _, _ => none
def s9' : Sig := { own := [], run := Jms }
theorem JCi : Jh tau Try.prog 9 s9' := ok9.of fun xs es k res hr => by
 change Jms xs es k = some res at hr
 unfold Jms at hr
 split at hr
 · refine Eq.trans ?_ hr
   show g9 0 _ = _
   unfold g9
   exact Ja (by rw [Zo, hid_eq]; rfl)
 · cases hr
def F86 : Fns := F0
theorem Jui : Jy tau Try.prog F86 := JE
def Jpq : An := (.seq .leaf (.seq (.seq .leaf (.cond (.seq .leaf .leaf) .leaf)) (.seq .leaf .leaf)))
def g86 (f : Nat) (s_z s_f : Bool) (s : List PV) (k : Res -> Option Res) : Option Res := bif s_z then k (Res.mk (.ro 42 true true []) [] []) else bif Jf (0 + s.length) 16 && true then k (Res.mk (.ow 42 16 [] 0 (0 + s.length) none) [] [.vec false 42 false s]) else none
theorem e86 (f : Nat) (s_z s_f : Bool) (s : List PV) (k : Res -> Option Res) : JL tau F86 Try.f86 (Try.f86.body.get!) Jpq [] 0 [.ro 42 s_z s_f s] [] k = g86 f s_z s_f s k := by kernel_rfl
theorem JCj (f : Nat) : Je (Try.f86.body.get!) Jpq = [] := by kernel_rfl
theorem JCk (f : Nat) : ∀ q ∈ Je (Try.f86.body.get!) Jpq, q.Ok tau Try.prog 0 := by
 rw [JCj f]; intro q hq; cases hq
theorem Jy0 : Try.prog.funcs[86]? = some Try.f86 := by kernel_rfl
theorem Jy1 : Try.f86.body = some (Try.f86.body.get!) := by kernel_rfl
theorem Juj : Enters Try.prog 86 := enters_of Jy0 (by kernel_rfl) Jy1
def Jmt : List PV -> List Ent -> (Res -> Option Res) -> Option Res
 | [.ro 42 s_z s_f s], [], k => g86 0 s_z s_f s k
 | _, _, _ => none
def s86 : Sig := { own := [], run := Jmt }
theorem Juk : Jh tau Try.prog 86 s86 := JY Jq Jui Js Jy0 Jy1 Jpq [] 0 [] Jmt (JCk 0) fun xs es k res hr => by
 unfold Jmt at hr
 split at hr
 · exact ⟨rfl, 0, (e86 0 _ _ _  _).trans hr⟩
 · cases hr
def F38 : Fns := JH 86 s86 (F0)
theorem Jul : Jy tau Try.prog F38 := (JE).add Juk Juj
def Jpr : An := (.seq .leaf (.seq .leaf (.seq .leaf .leaf)))
def g38 (f : Nat) (y0 y1 : Int) (y2 : ByteArray) (y3 y4 : Bool) (y5 : List PV) (y6 : Int) (y7 : List PV) (k : Res -> Option Res) : Option Res := bif y3 then k (Res.mk (.st 39 [.st 34 [.sc (.int .i64 y0), .sc (.int .i64 y1)], .sc (.string y2), .ro 42 true true [], .sc (.int .i64 y6), .ar 37 y7]) [] []) else bif Jf (0 + y5.length) 16 && true then k (Res.mk (.st 39 [.st 34 [.sc (.int .i64 y0), .sc (.int .i64 y1)], .sc (.string y2), .ro 42 false false (List.take (0 + y5.length) y5), .sc (.int .i64 y6), .ar 37 y7]) [] []) else none
theorem e38 (f : Nat) (y0 y1 : Int) (y2 : ByteArray) (y3 y4 : Bool) (y5 : List PV) (y6 : Int) (y7 : List PV) (k : Res -> Option Res) : JL tau F38 Try.f38 (Try.f38.body.get!) Jpr [.ro] 0 [.st 39 [.st 34 [.sc (.int .i64 y0), .sc (.int .i64 y1)], .sc (.string y2), .ro 42 y3 y4 y5, .sc (.int .i64 y6), .ar 37 y7]] [] k = g38 f y0 y1 y2 y3 y4 y5 y6 y7 k := by kernel_rfl
theorem JCl (f : Nat) : Je (Try.f38.body.get!) Jpr = [] := by kernel_rfl
theorem JCm (f : Nat) : ∀ q ∈ Je (Try.f38.body.get!) Jpr, q.Ok tau Try.prog 0 := by
 rw [JCl f]; intro q hq; cases hq
theorem Jy2 : Try.prog.funcs[38]? = some Try.f38 := by kernel_rfl
theorem Jy3 : Try.f38.body = some (Try.f38.body.get!) := by kernel_rfl
theorem JCn : Enters Try.prog 38 := enters_of Jy2 (by kernel_rfl) Jy3
def Jmu : List PV -> List Ent -> (Res -> Option Res) -> Option Res
 | [.st 39 [.st 34 [.sc (.int .i64 y0), .sc (.int .i64 y1)], .sc (.string y2), .ro 42 y3 y4 y5, .sc (.int .i64 y6), .ar 37 y7]], [], k => g38 0 y0 y1 y2 y3 y4 y5 y6 y7 k
 | _, _, _ => none
def s38 : Sig := { own := [], run := Jmu }
theorem JCo : Jh tau Try.prog 38 s38 := JY Jq Jul Js Jy2 Jy3 Jpr [.ro] 0 [] Jmu (JCm 0) fun xs es k res hr => by
 unfold Jmu at hr
 split at hr
 · exact ⟨rfl, 0, (e38 0 _ _ _ _ _ _ _ _  _).trans hr⟩
 · cases hr
def Jy4 : Fns := F0
theorem Jps : Jy tau Try.prog Jy4 := JE
def Jjx : An := (.seq .leaf (.seq .leaf .leaf))
def Jpt (f : Nat) (a_D a_U : Int) (k : Res -> Option Res) : Option Res := bif decide (a_D >= 0) then bif decide (a_D < 3) then bif decide (a_U >= 0) then k (Res.mk (.sc (.bool (decide (a_U < 8)))) [] []) else k (Res.mk (.sc (.bool false)) [] []) else k (Res.mk (.sc (.bool false)) [] []) else k (Res.mk (.sc (.bool false)) [] [])
theorem JCp (f : Nat) (a_D a_U : Int) (k : Res -> Option Res) : JL tau Jy4 Try.f128 (Try.f128.body.get!) Jjx [.ro] 0 [.st 42 [.sc (.int .i64 a_D), .sc (.int .i64 a_U)]] [] k = Jpt f a_D a_U k := by kernel_rfl
theorem Jy5 (f : Nat) : Je (Try.f128.body.get!) Jjx = [] := by kernel_rfl
theorem Jy6 (f : Nat) : ∀ q ∈ Je (Try.f128.body.get!) Jjx, q.Ok tau Try.prog 0 := by
 rw [Jy5 f]; intro q hq; cases hq
theorem JrC : Try.prog.funcs[128]? = some Try.f128 := by kernel_rfl
theorem JrD : Try.f128.body = some (Try.f128.body.get!) := by kernel_rfl
theorem Jy7 : Enters Try.prog 128 := enters_of JrC (by kernel_rfl) JrD
def Jh2 : List PV -> List Ent -> (Res -> Option Res) -> Option Res
 | [.st 42 [.sc (.int .i64 a_D), .sc (.int .i64 a_U)]], [], k => Jpt 0 a_D a_U k
 | _, _, _ => none
def JCq : Sig := { own := [], run := Jh2 }
theorem Jy8 : Jh tau Try.prog 128 JCq := JY Jq Jps Js JrC JrD Jjx [.ro] 0 [] Jh2 (Jy6 0) fun xs es k res hr => by
 unfold Jh2 at hr
 split at hr
 · exact ⟨rfl, 0, (JCp 0 _ _  _).trans hr⟩
 · cases hr
def GA : Nat := 19
def Jmv : Fns := F0
theorem Jjy : Jy tau Try.prog Jmv := JE
def Jaa : Code := Qn (Try.f123.body.get!) [1, 0, 1, 0, 0]
def WM : Nm := [(0, .any), (3, .any), (7, .any), (8, .any)]
def QK : Nm := [(4, .any)]
def Jcc : An := (.seq .leaf (.seq (.cond .leaf .leaf) (.seq (.block none (.seq .leaf (.seq .leaf (.cond (.seq .leaf .leaf) .leaf)))) .leaf)))
def Jjz (r0 : QV) : An := (.seq .leaf (.seq (.seq .leaf (.block none (.sum WM GA r0))) (.seq .leaf .leaf)))
def ZD (f : Nat) (rc : Bool -> Bool -> List PV -> Int -> Int -> Int -> Int -> Option Res) (k0 : Int -> Option Res) (k1 : Option Res) (v0 v1 : Bool) (v2 : List PV) (v3 v4 v5 v6 : Int) : Option Res := bif decide (v4 < v3) then bif decide (0 <= v4) && decide (v4 < zi v2.length) && (PV.isSt 42 #[Field.mk "D" 3 0 false "" "" 0, Field.mk "U" 3 1 false "" "" 8].size (v2.getD v4.toNat PV.top) && (PV.isInt IntKind.i64 (PV.child 0 (v2.getD v4.toNat PV.top)) && (PV.isInt IntKind.i64 (PV.child (0 + 1) (v2.getD v4.toNat PV.top)) && true))) && true then bif v5 == (PV.child 0 (v2.getD v4.toNat PV.top)).int && (v6 == (PV.child (0 + 1) (v2.getD v4.toNat PV.top)).int && true) then k0 v4 else rc v0 v1 v2 v3 (IntKind.i64.wrap (v4 + 1)) v5 v6 else none else k1
def YA (f : Nat) (k0 : Int -> Option Res) (k1 : Option Res) : Nat -> Bool -> Bool -> List PV -> Int -> Int -> Int -> Int -> Option Res
 | 0, _, _, _, _, _, _, _ => none
 | n + 1, v0, v1, v2, v3, v4, v5, v6 => ZD f (YA f k0 k1 n) k0 k1 v0 v1 v2 v3 v4 v5 v6
theorem Jmw (f : Nat) (k : Kont) (n : Nat) (v0 v1 : Bool) (v2 : List PV) (v3 v4 v5 v6 : Int) : Jp tau 0 WM (fun s k => ev tau Jmv 0 0 Jaa (Jcc ) s k) (n + 1) (Jc WM GA [.ro 42 v0 v1 v2, .ptr 320 [], .sc (.int .i64 v3), .sc (.int .i64 v4)] [(320, .box false 42 (PV.st 42 [.sc (.int .i64 v5), .sc (.int .i64 v6)]))]) (Jt tau 0 QK k) = ZD f (fun v0 v1 v2 v3 v4 v5 v6 => Jp tau 0 WM (fun s k => ev tau Jmv 0 0 Jaa (Jcc ) s k) n (Jc WM GA [.ro 42 v0 v1 v2, .ptr 320 [], .sc (.int .i64 v3), .sc (.int .i64 v4)] [(320, .box false 42 (PV.st 42 [.sc (.int .i64 v5), .sc (.int .i64 v6)]))]) (Jt tau 0 QK k)) (fun x0 => k Ex.ret (Jc QK GA [.sc (.int .i64 x0)] [])) (k (Ex.exit 0) (Jc QK GA [PV.top] [])) v0 v1 v2 v3 v4 v5 v6 := by kernel_rfl
theorem Jgc (f : Nat) (k : Kont) : ∀ (n : Nat) (v0 v1 : Bool) (v2 : List PV) (v3 v4 v5 v6 : Int), Jp tau 0 WM (fun s k => ev tau Jmv 0 0 Jaa (Jcc ) s k) n (Jc WM GA [.ro 42 v0 v1 v2, .ptr 320 [], .sc (.int .i64 v3), .sc (.int .i64 v4)] [(320, .box false 42 (PV.st 42 [.sc (.int .i64 v5), .sc (.int .i64 v6)]))]) (Jt tau 0 QK k) = YA f (fun x0 => k Ex.ret (Jc QK GA [.sc (.int .i64 x0)] [])) (k (Ex.exit 0) (Jc QK GA [PV.top] [])) n v0 v1 v2 v3 v4 v5 v6 | 0, _, _, _, _, _, _, _ => rfl | n + 1, v0, v1, v2, v3, v4, v5, v6 => (Jmw f k n v0 v1 v2 v3 v4 v5 v6).trans (congrArg (fun r => ZD f r (fun x0 => k Ex.ret (Jc QK GA [.sc (.int .i64 x0)] [])) (k (Ex.exit 0) (Jc QK GA [PV.top] [])) v0 v1 v2 v3 v4 v5 v6) (by funext v0 v1 v2 v3 v4 v5 v6; exact Jgc f k n v0 v1 v2 v3 v4 v5 v6))
def VF (f : Nat) : List PV -> List (Nat × Ent) -> Kont -> Option Res
 | [.ro 42 v0 v1 v2, .ptr 320 [], .sc (.int .i64 v3),
 PV.sc
  (Value.int IntKind.i64
   v4)], [(320,
  Ent.box false 42
   (PV.st 42
    [.sc (.int .i64 v5),
     PV.sc
      (Value.int IntKind.i64
       v6)]))], k => YA f (fun x0 => k Ex.ret (Jc QK GA [.sc (.int .i64 x0)] [])) (k (Ex.exit 0) (Jc QK GA [PV.top] [])) f v0 v1 v2 v3 v4 v5 v6
 | _, _, _ => none
theorem Jpu (f : Nat) : Je Jaa Jcc = [] := by kernel_rfl
theorem Jpv (f : Nat) : (Item.l Jaa WM GA (VF f)).Ok tau Try.prog 0 := JJ Jq Jjy Js (x := Jcc) (nm2 := QK) (Jl _ _ (by rw [Jpu f]; intro q hq; cases hq)) fun vs hp k res hr => by
 unfold VF at hr
 split at hr
 · exact ⟨f, 0, (Jgc f _ f _ _ _ _ _ _ _ ).trans hr⟩
 · cases hr
def Jum (f : Nat) (s_z s_f : Bool) (s : List PV) (v_D v_U : Int) (k : Res -> Option Res) : Option Res := YA f (fun x0_0 => k (Res.mk (.sc (.int .i64 x0_0)) [] [])) (k (Res.mk (.sc (.int .i64 (-1))) [] [])) f s_z s_f s (zi s.length) (0) v_D v_U
theorem JCr (f : Nat) (s_z s_f : Bool) (s : List PV) (v_D v_U : Int) (k : Res -> Option Res) : JL tau Jmv Try.f123 (Try.f123.body.get!) (Jjz (VF f)) [.ro] 0 [.ro 42 s_z s_f s, .st 42 [.sc (.int .i64 v_D), .sc (.int .i64 v_U)]] [] k = Jum f s_z s_f s v_D v_U k := by kernel_rfl
theorem Jy9 (f : Nat) : Je (Try.f123.body.get!) (Jjz (VF f)) = [.l Jaa WM GA (VF f)] := by kernel_rfl
theorem Jza (f : Nat) : ∀ q ∈ Je (Try.f123.body.get!) (Jjz (VF f)), q.Ok tau Try.prog 0 := by
 rw [Jy9 f]; simp only [List.forall_mem_cons, List.not_mem_nil, false_implies, implies_true, and_true]; exact Jpv f
theorem JrE : Try.prog.funcs[123]? = some Try.f123 := by kernel_rfl
theorem JrF : Try.f123.body = some (Try.f123.body.get!) := by kernel_rfl
theorem Jzb : Enters Try.prog 123 := enters_of JrE (by kernel_rfl) JrF
def Jcx : Nat := 53
def Jmx : Fns := F0
theorem JjA : Jy tau Try.prog Jmx := JE
def YB : Code := Qn (Try.f127.body.get!) [1, 0]
def WN : Nm := [(0, .any), (3, .any), (6, .any)]
def Xt : Nm := [(4, .any), (5, .any)]
def Jab : An := (.seq .leaf (.seq .leaf (.seq (.block none (.seq .leaf (.cond (.seq .leaf .leaf) (.seq .leaf (.cond (.seq .leaf .leaf) .leaf))))) (.seq .leaf .leaf))))
def JjB (r0 : JkY) : An := (.seq .leaf (.ssum WN Jcx (Jab) r0))
def Q2 (f : Nat) (rc : Bool -> Bool -> List PV -> Int -> Int -> Int -> Option Res) (k0 : Int -> Bool -> Option Res) (v0 v1 : Bool) (v2 : List PV) (v3 v4 v5 : Int) : Option Res := bif v3 == zi v2.length then k0 v3 false else bif decide (0 <= v3) && decide (v3 < zi v2.length) && (PV.isSt 42 #[Field.mk "D" 3 0 false "" "" 0, Field.mk "U" 3 1 false "" "" 8].size (v2.getD v3.toNat PV.top) && (PV.isInt IntKind.i64 (PV.child 0 (v2.getD v3.toNat PV.top)) && (PV.isInt IntKind.i64 (PV.child (0 + 1) (v2.getD v3.toNat PV.top)) && true))) && true then bif decide ((PV.child 0 (v2.getD v3.toNat PV.top)).int > v4) then k0 v3 false else bif decide (0 <= v3) && decide (v3 < zi v2.length) && (PV.isSt 42 #[Field.mk "D" 3 0 false "" "" 0, Field.mk "U" 3 1 false "" "" 8].size (v2.getD v3.toNat PV.top) && (PV.isInt IntKind.i64 (PV.child 0 (v2.getD v3.toNat PV.top)) && (PV.isInt IntKind.i64 (PV.child (0 + 1) (v2.getD v3.toNat PV.top)) && true))) && true then bif (PV.child 0 (v2.getD v3.toNat PV.top)).int == v4 then bif decide (0 <= v3) && decide (v3 < zi v2.length) && (PV.isSt 42 #[Field.mk "D" 3 0 false "" "" 0, Field.mk "U" 3 1 false "" "" 8].size (v2.getD v3.toNat PV.top) && (PV.isInt IntKind.i64 (PV.child 0 (v2.getD v3.toNat PV.top)) && (PV.isInt IntKind.i64 (PV.child (0 + 1) (v2.getD v3.toNat PV.top)) && true))) && true then bif decide ((PV.child (0 + 1) (v2.getD v3.toNat PV.top)).int > v5) then k0 v3 false else bif decide (0 <= v3) && decide (v3 < zi v2.length) && (PV.isSt 42 #[Field.mk "D" 3 0 false "" "" 0, Field.mk "U" 3 1 false "" "" 8].size (v2.getD v3.toNat PV.top) && (PV.isInt IntKind.i64 (PV.child 0 (v2.getD v3.toNat PV.top)) && (PV.isInt IntKind.i64 (PV.child (0 + 1) (v2.getD v3.toNat PV.top)) && true))) && true then bif (PV.child 0 (v2.getD v3.toNat PV.top)).int == v4 && ((PV.child (0 + 1) (v2.getD v3.toNat PV.top)).int == v5 && true) then k0 v3 true else rc v0 v1 v2 (IntKind.i64.wrap (v3 + 1)) v4 v5 else none else none else bif decide (0 <= v3) && decide (v3 < zi v2.length) && (PV.isSt 42 #[Field.mk "D" 3 0 false "" "" 0, Field.mk "U" 3 1 false "" "" 8].size (v2.getD v3.toNat PV.top) && (PV.isInt IntKind.i64 (PV.child 0 (v2.getD v3.toNat PV.top)) && (PV.isInt IntKind.i64 (PV.child (0 + 1) (v2.getD v3.toNat PV.top)) && true))) && true then bif (PV.child 0 (v2.getD v3.toNat PV.top)).int == v4 && ((PV.child (0 + 1) (v2.getD v3.toNat PV.top)).int == v5 && true) then k0 v3 true else rc v0 v1 v2 (IntKind.i64.wrap (v3 + 1)) v4 v5 else none else none else none
def Wh (f : Nat) (k0 : Int -> Bool -> Option Res) : Nat -> Bool -> Bool -> List PV -> Int -> Int -> Int -> Option Res
 | 0, _, _, _, _, _, _ => none
 | n + 1, v0, v1, v2, v3, v4, v5 => Q2 f (Wh f k0 n) k0 v0 v1 v2 v3 v4 v5
theorem Jmy (f : Nat) (k : Kont) (n : Nat) (v0 v1 : Bool) (v2 : List PV) (v3 v4 v5 : Int) : J7 tau 0 WN (hasLabel YB) (fun l s k => JV tau Jmx 0 0 YB (Jab ) l s k) (n + 1) 0 (Jc WN Jcx [.ro 42 v0 v1 v2, .ptr 864 [], .sc (.int .i64 v3)] [(864, .box false 42 (PV.st 42 [.sc (.int .i64 v4), .sc (.int .i64 v5)]))]) (Jt tau 0 Xt k) = Q2 f (fun v0 v1 v2 v3 v4 v5 => J7 tau 0 WN (hasLabel YB) (fun l s k => JV tau Jmx 0 0 YB (Jab ) l s k) n 0 (Jc WN Jcx [.ro 42 v0 v1 v2, .ptr 864 [], .sc (.int .i64 v3)] [(864, .box false 42 (PV.st 42 [.sc (.int .i64 v4), .sc (.int .i64 v5)]))]) (Jt tau 0 Xt k)) (fun x0 x1 => k Ex.ret (Jc Xt Jcx [.sc (.int .i64 x0), .sc (.bool x1)] [])) v0 v1 v2 v3 v4 v5 := by kernel_rfl
theorem Jgd (f : Nat) (k : Kont) : ∀ (n : Nat) (v0 v1 : Bool) (v2 : List PV) (v3 v4 v5 : Int), J7 tau 0 WN (hasLabel YB) (fun l s k => JV tau Jmx 0 0 YB (Jab ) l s k) n 0 (Jc WN Jcx [.ro 42 v0 v1 v2, .ptr 864 [], .sc (.int .i64 v3)] [(864, .box false 42 (PV.st 42 [.sc (.int .i64 v4), .sc (.int .i64 v5)]))]) (Jt tau 0 Xt k) = Wh f (fun x0 x1 => k Ex.ret (Jc Xt Jcx [.sc (.int .i64 x0), .sc (.bool x1)] [])) n v0 v1 v2 v3 v4 v5 | 0, _, _, _, _, _, _ => rfl | n + 1, v0, v1, v2, v3, v4, v5 => (Jmy f k n v0 v1 v2 v3 v4 v5).trans (congrArg (fun r => Q2 f r (fun x0 x1 => k Ex.ret (Jc Xt Jcx [.sc (.int .i64 x0), .sc (.bool x1)] [])) v0 v1 v2 v3 v4 v5) (by funext v0 v1 v2 v3 v4 v5; exact Jgd f k n v0 v1 v2 v3 v4 v5))
def VG (f : Nat) : Nat -> List PV -> List (Nat × Ent) -> Kont -> Option Res
 | 0, [.ro 42 v0 v1 v2, .ptr 864 [],
 PV.sc
  (Value.int IntKind.i64
   v3)], [(864,
  Ent.box false 42
   (PV.st 42
    [.sc (.int .i64 v4),
     .sc (.int .i64 v5)]))], k => Wh f (fun x0 x1 => k Ex.ret (Jc Xt Jcx [.sc (.int .i64 x0), .sc (.bool x1)] [])) f v0 v1 v2 v3 v4 v5
 | _, _, _, _ => none
theorem Jpw (f : Nat) : Je YB Jab = [] := by kernel_rfl
theorem Jpx (f : Nat) : (Item.s YB WN Jcx (VG f)).Ok tau Try.prog 0 := W4 Jq JjA Js (x := Jab) (nm2 := Xt) (Jl _ _ (by rw [Jpw f]; intro q hq; cases hq)) fun l vs hp k res hr => by
 unfold VG at hr
 split at hr
 · exact ⟨f, 0, (Jgd f _ f _ _ _ _ _ _ ).trans hr⟩
 · cases hr
def Jpy (f : Nat) (l_z l_f : Bool) (l : List PV) (a_D a_U : Int) (k : Res -> Option Res) : Option Res := bif 0 == zi l.length then k (Res.mk (.tup [.sc (.int .i64 0), .sc (.bool false)]) [] []) else bif decide (0 < zi l.length) && (PV.isSt 42 #[Field.mk "D" 3 0 false "" "" 0, Field.mk "U" 3 1 false "" "" 8].size (l.getD (Int.toNat 0) PV.top) && (PV.isInt IntKind.i64 (PV.child 0 (l.getD 0 PV.top)) && (PV.isInt IntKind.i64 (PV.child (0 + 1) (l.getD 0 PV.top)) && true))) && true then bif decide ((PV.child 0 (l.getD 0 PV.top)).int > a_D) then k (Res.mk (.tup [.sc (.int .i64 0), .sc (.bool false)]) [] []) else bif decide (0 < zi l.length) && (PV.isSt 42 #[Field.mk "D" 3 0 false "" "" 0, Field.mk "U" 3 1 false "" "" 8].size (l.getD (Int.toNat 0) PV.top) && (PV.isInt IntKind.i64 (PV.child 0 (l.getD 0 PV.top)) && (PV.isInt IntKind.i64 (PV.child (0 + 1) (l.getD 0 PV.top)) && true))) && true then bif (PV.child 0 (l.getD 0 PV.top)).int == a_D then bif decide (0 < zi l.length) && (PV.isSt 42 #[Field.mk "D" 3 0 false "" "" 0, Field.mk "U" 3 1 false "" "" 8].size (l.getD (Int.toNat 0) PV.top) && (PV.isInt IntKind.i64 (PV.child 0 (l.getD 0 PV.top)) && (PV.isInt IntKind.i64 (PV.child (0 + 1) (l.getD 0 PV.top)) && true))) && true then bif decide ((PV.child (0 + 1) (l.getD 0 PV.top)).int > a_U) then k (Res.mk (.tup [.sc (.int .i64 0), .sc (.bool false)]) [] []) else bif decide (0 < zi l.length) && (PV.isSt 42 #[Field.mk "D" 3 0 false "" "" 0, Field.mk "U" 3 1 false "" "" 8].size (l.getD (Int.toNat 0) PV.top) && (PV.isInt IntKind.i64 (PV.child 0 (l.getD 0 PV.top)) && (PV.isInt IntKind.i64 (PV.child (0 + 1) (l.getD 0 PV.top)) && true))) && true then bif (PV.child 0 (l.getD 0 PV.top)).int == a_D && ((PV.child (0 + 1) (l.getD 0 PV.top)).int == a_U && true) then k (Res.mk (.tup [.sc (.int .i64 0), .sc (.bool true)]) [] []) else Wh f (fun x0_0 x1_0 => k (Res.mk (.tup [.sc (.int .i64 x0_0), .sc (.bool x1_0)]) [] [])) f l_z l_f l (IntKind.i64.wrap (0 + 1)) a_D a_U else none else none else bif decide (0 < zi l.length) && (PV.isSt 42 #[Field.mk "D" 3 0 false "" "" 0, Field.mk "U" 3 1 false "" "" 8].size (l.getD (Int.toNat 0) PV.top) && (PV.isInt IntKind.i64 (PV.child 0 (l.getD 0 PV.top)) && (PV.isInt IntKind.i64 (PV.child (0 + 1) (l.getD 0 PV.top)) && true))) && true then bif (PV.child 0 (l.getD 0 PV.top)).int == a_D && ((PV.child (0 + 1) (l.getD 0 PV.top)).int == a_U && true) then k (Res.mk (.tup [.sc (.int .i64 0), .sc (.bool true)]) [] []) else Wh f (fun x0_1 x1_1 => k (Res.mk (.tup [.sc (.int .i64 x0_1), .sc (.bool x1_1)]) [] [])) f l_z l_f l (IntKind.i64.wrap (0 + 1)) a_D a_U else none else none else none
theorem JCs (f : Nat) (l_z l_f : Bool) (l : List PV) (a_D a_U : Int) (k : Res -> Option Res) : JL tau Jmx Try.f127 (Try.f127.body.get!) (JjB (VG f)) [.ro, .ro] 0 [.ro 42 l_z l_f l, .st 42 [.sc (.int .i64 a_D), .sc (.int .i64 a_U)]] [] k = Jpy f l_z l_f l a_D a_U k := by kernel_rfl
theorem Jzc (f : Nat) : Je (Try.f127.body.get!) (JjB (VG f)) = [.s YB WN Jcx (VG f)] := by kernel_rfl
theorem Jzd (f : Nat) : ∀ q ∈ Je (Try.f127.body.get!) (JjB (VG f)), q.Ok tau Try.prog 0 := by
 rw [Jzc f]; simp only [List.forall_mem_cons, List.not_mem_nil, false_implies, implies_true, and_true]; exact Jpx f
theorem JrG : Try.prog.funcs[127]? = some Try.f127 := by kernel_rfl
theorem JrH : Try.f127.body = some (Try.f127.body.get!) := by kernel_rfl
theorem JrI : Enters Try.prog 127 := enters_of JrG (by kernel_rfl) JrH
-- FN
def VH (l : List PV) (a : AV) : Bool := Nat.blt (Wd l a) l.length && eqA (av (l.getD (Wd l a) .top)) a
theorem Ja9 {a : AV} : ltA a a = false := by
 cases h : ltA a a with
 | false => rfl
 | true => rw [Xr] at h; omega
theorem Jge (a : AV) : eqA a a = true := Qo.2 rfl
theorem hasL_above {a : AV} : ∀ {l : List PV}, (∀ q ∈ l, ltA a (av q) = true) -> hasL l a = false
 | [], _ => rfl
 | p :: l, h => by
  have h1 : eqA (av p) a = false := by
   cases he : eqA (av p) a with
   | false => rfl
   | true => have := h p List.mem_cons_self; rw [Qo.1 he, Ja9] at this; cases this
  have h2 := hasL_above fun q hq => h q (List.mem_cons_of_mem _ hq)
  show (eqA (av p) a || hasL l a) = false
  rw [h1, h2]; rfl
theorem Jdw {a : AV} : ∀ {l : List PV}, hasL l a = false -> rmA l a = l
 | [], _ => rfl
 | p :: l, h => by
  have h : (eqA (av p) a || hasL l a) = false := h
  rw [Bool.or_eq_false_iff] at h
  unfold rmA
  rw [List.filter_cons, h.1]
  exact congrArg (p :: ·) (Jdw h.2)
theorem XR {a : AV} : ∀ {l : List PV}, srt l = true -> VH l a = hasL l a
 | [], _ => rfl
 | p :: l, h => by
  obtain ⟨h1, h2⟩ := Xc.1 h
  show VH (p :: l) a = (eqA (av p) a || hasL l a)
  unfold VH
  simp only [Wd]
  cases hc : ltA (av p) a with
  | true =>
   have he : eqA (av p) a = false := by
    cases he : eqA (av p) a with
    | false => rfl
    | true => rw [Qo.1 he, Ja9] at hc; cases hc
   have ih := XR (a := a) h2
   unfold VH at ih
   rw [cond_true, he, Bool.false_or, ← ih, List.getD_cons_succ]
   rfl
  | false =>
   rw [cond_false]
   have hd : Nat.blt 0 (p :: l).length = true := rfl
   rw [hd, Bool.true_and, List.getD_cons_zero]
   cases he : eqA (av p) a with
   | true => rfl
   | false =>
    have hl := Jmo hc he
    rw [hasL_above fun q hq => Jdu hl (h1 q hq)]; rfl
theorem JjC {a : AV} : ∀ {l : List PV}, srt l = true -> VH l a = true -> l.take (Wd l a) ++ l.drop (Wd l a + 1) = rmA l a
 | [], _, h => by cases h
 | p :: l, h, hf => by
  obtain ⟨h1, h2⟩ := Xc.1 h
  have hf2 := hf
  unfold VH at hf
  simp only [Wd] at hf ⊢
  cases hc : ltA (av p) a with
  | true =>
   have he : eqA (av p) a = false := by
    cases he : eqA (av p) a with
    | false => rfl
    | true => rw [Qo.1 he, Ja9] at hc; cases hc
   have hf' : VH l a = true := by
    rw [XR h] at hf2
    rw [XR h2]
    have : (eqA (av p) a || hasL l a) = true := hf2
    rwa [he, Bool.false_or] at this
   have ih := JjC h2 hf'
   unfold rmA at ih ⊢
   rw [cond_true, List.take_succ_cons, List.drop_succ_cons, List.filter_cons, he, List.cons_append, ih]; rfl
  | false =>
   rw [hc, cond_false, Bool.and_eq_true] at hf
   have he : eqA (av p) a = true := hf.2
   rw [cond_false, List.take_zero, List.nil_append, List.drop_succ_cons, List.drop_zero]
   have ha := Qo.1 he
   have := Jdw (a := a) (hasL_above (l := l) fun q hq => by have := h1 q hq; rwa [ha] at this)
   unfold rmA at this ⊢
   rw [List.filter_cons, he]
   exact this.symm
-- FN people.find
theorem Jmz (a b : AV) : eqA a b = eqA b a := by
 cases h : eqA b a with
 | true => exact Qo.2 (Qo.1 h).symm
 | false =>
  cases h2 : eqA a b with
  | false => rfl
  | true => rw [Qo.2 (Qo.1 h2).symm] at h; cases h
theorem Jkr (p : PV) (l : List PV) (a : AV) : VH (p :: l) a = bif ltA (av p) a then VH l a else eqA (av p) a := by
 unfold VH
 simp only [Wd]
 cases ltA (av p) a with
 | true => rfl
 | false => rfl
def QH : PH -> Int := hid fun x => (Wd x.l x.a : Int)
def Jks : PH -> Bool := hid fun x => VH x.l x.a
theorem JeF (x : PH) : QH x = (Wd x.l x.a : Int) := by rw [QH, hid_eq]
theorem JeG (x : PH) : Jks x = VH x.l x.a := by rw [Jks, hid_eq]
theorem JmA (f : Nat) (rc : Bool -> Bool -> List PV -> Int -> Int -> Int -> Option Res) (k0 : Int -> Bool -> Option Res) (z fl : Bool) (l : List PV) (d u : Int) : Q2 f rc k0 z fl l (l.length : Int) d u = k0 (l.length : Int) false := by
 simp only [Q2]
 exact Ja (beq_self_eq_true _)
theorem Jkt (f : Nat) (rc : Bool -> Bool -> List PV -> Int -> Int -> Int -> Option Res) (k0 : Int -> Bool -> Option Res) (z fl : Bool) (l : List PV) (hl : l.all JaU = true) (h2 : l.length <= 1000) (i : Nat) (hi : i < l.length) (d u : Int) :
   Q2 f rc k0 z fl l (i : Int) d u = bif ltA (av (l.getD i .top)) ⟨d, u⟩ then rc z fl l ((i + 1 : Nat) : Int) d u else k0 (i : Int) (eqA (av (l.getD i .top)) ⟨d, u⟩) := by
 have g1 : ((i : Int)).toNat = i := by omega
 have w1 : IntKind.i64.wrap ((i : Int) + 1) = ((i + 1 : Nat) : Int) := by rw [wrap_i64 (by omega) (by omega)]; omega
 have hc := Jc5 (Jc6 hl hi)
 unfold JhA at hc
 simp only [Q2, g1, w1]
 generalize l.getD i .top = p at *
 have hr : (decide (0 <= (i : Int)) && decide ((i : Int) < zi l.length) && (PV.isSt 42 #[Field.mk "D" 3 0 false "" "" 0, Field.mk "U" 3 1 false "" "" 8].size p && (PV.isInt IntKind.i64 (PV.child 0 p) && (PV.isInt IntKind.i64 (PV.child (0 + 1) p) && true))) && true) = true := by rw [hc]; simp [zi]; omega
 have e1 : (PV.child 0 p).int = (av p).d := rfl
 have e2 : (PV.child (0 + 1) p).int = (av p).u := rfl
 have e3 : ((av p).d == d && ((av p).u == u && true)) = eqA (av p) ⟨d, u⟩ := rfl
 rw [e1, e2, e3]
 refine (Jj (beq_false_of_ne (by simp only [zi]; omega))).trans ((Ja hr).trans ?_)
 by_cases h1 : (av p).d > d
 · have hlt : ltA (av p) ⟨d, u⟩ = false := Bool.eq_false_iff.2 fun h => by have h := Xr.1 h; simp only at h; omega
   have heq : eqA (av p) ⟨d, u⟩ = false := Bool.eq_false_iff.2 fun h => by have h := Qo.1 h; rw [h] at h1; simp only at h1; omega
   rw [hlt, heq]
   exact Ja (decide_eq_true h1)
 refine (Jj (decide_eq_false h1)).trans ((Ja hr).trans ?_)
 by_cases h2 : (av p).d = d
 · refine (Ja (by simpa using h2)).trans ((Ja hr).trans ?_)
   by_cases h3 : (av p).u > u
   · have hlt : ltA (av p) ⟨d, u⟩ = false := Bool.eq_false_iff.2 fun h => by have h := Xr.1 h; simp only at h; omega
     have heq : eqA (av p) ⟨d, u⟩ = false := Bool.eq_false_iff.2 fun h => by have h := Qo.1 h; rw [h] at h3; simp only at h3; omega
     rw [hlt, heq]
     exact Ja (decide_eq_true h3)
   · refine (Jj (decide_eq_false h3)).trans ((Ja hr).trans ?_)
     cases he : eqA (av p) ⟨d, u⟩ with
     | true =>
      have hlt : ltA (av p) ⟨d, u⟩ = false := by rw [Qo.1 he]; exact Ja9
      rw [hlt]; rfl
     | false =>
      have hlt : ltA (av p) ⟨d, u⟩ = true := Xr.2 (by
       rcases Int.lt_or_le (av p).u u with g | g
       · exact .inr ⟨h2, g⟩
       · exfalso
         have : eqA (av p) ⟨d, u⟩ = true := Qo.2 (by
          have : (av p).u = u := by omega
          cases hp : av p with
          | mk x y => rw [hp] at h2 this; simp only at h2 this; rw [h2, this])
         rw [this] at he; cases he)
      rw [hlt]; rfl
 · refine (Jj (by simpa using h2)).trans ((Ja hr).trans ?_)
   have hlt : ltA (av p) ⟨d, u⟩ = true := Xr.2 (.inl (by show (av p).d < d; omega))
   have heq : eqA (av p) ⟨d, u⟩ = false := Bool.eq_false_iff.2 fun h => by have h := Qo.1 h; rw [h] at h2; exact h2 rfl
   rw [hlt, heq]; rfl
theorem JmB (l : List PV) (hl : l.all JaU = true) (h2 : l.length <= 1000) (d u : Int) (f : Nat) (k0 : Int -> Bool -> Option Res) (z fl : Bool) : ∀ (e i n : Nat), i + e = l.length -> e < n ->
  Wh f k0 n z fl l (i : Int) d u = k0 ((i + Wd (l.drop i) ⟨d, u⟩ : Nat) : Int) (VH (l.drop i) ⟨d, u⟩)
 | 0, i, n + 1, hi, hn => by
   rw [List.drop_of_length_le (by omega)]
   obtain rfl : i = l.length := by omega
   simp only [Wh]
   exact JmA f _ k0 z fl l d u
 | e + 1, i, n + 1, hi, hn => by
   simp only [Wh]
   rw [Jkt f _ k0 z fl l hl h2 i (by omega) d u, Q9 (by omega), Jkr, Wd]
   cases ltA (av (l.getD i .top)) ⟨d, u⟩ with
   | false => rfl
   | true =>
    simp only [cond_true]
    rw [JmB l hl h2 d u f k0 z fl e (i + 1) n (by omega) (by omega)]
    rw [show i + 1 + Wd (l.drop (i + 1)) ⟨d, u⟩ = i + (Wd (l.drop (i + 1)) ⟨d, u⟩ + 1) from by omega]
theorem Jpz (f : Nat) (z fl : Bool) (l : List PV) (d u : Int) (k : Res -> Option Res) : Jpy f z fl l d u k = Q2 f (Wh f (fun x y => k ⟨.tup [.sc (.int .i64 x), .sc (.bool y)], [], []⟩) f) (fun x y => k ⟨.tup [.sc (.int .i64 x), .sc (.bool y)], [], []⟩) z fl l 0 d u := by
 unfold Jpy Q2
 rfl
def JeH : List PV -> List Ent -> (Res -> Option Res) -> Option Res
 | [.ro 42 z f l, .st 42 [.sc (.int .i64 d), .sc (.int .i64 u)]], [], k => bif G5 l then k ⟨.tup [.sc (.int .i64 (QH ⟨l, ⟨d, u⟩⟩)), .sc (.bool (Jks ⟨l, ⟨d, u⟩⟩))], [], []⟩ else none
 | _, _, _ => none
def JmC : Sig := { own := [], run := JeH }
theorem JpA (z f : Bool) (l : List PV) (d u : Int) (h : G5 l = true) (k : Res -> Option Res) : Jpy (l.length + 1) z f l d u k = k ⟨.tup [.sc (.int .i64 (QH ⟨l, ⟨d, u⟩⟩)), .sc (.bool (Jks ⟨l, ⟨d, u⟩⟩))], [], []⟩ := by
 obtain ⟨h1, h2⟩ := V9.1 h
 rw [Jpz, JeF, JeG]
 have := JmB l h1 h2 d u (l.length + 1) (fun x y => k ⟨.tup [.sc (.int .i64 x), .sc (.bool y)], [], []⟩) z f l.length 0 (l.length + 1 + 1) (by omega) (by omega)
 simp only [Wh, List.drop_zero, Nat.zero_add] at this
 exact this
theorem JmD : Jh tau Try.prog 127 JmC := Jh.mk' fun xs es k res hl hr => by
 change JeH xs es k = some res at hr
 unfold JeH at hr
 split at hr
 · rename_i z f l d u
   obtain ⟨hc, hr⟩ := JI hr
   exact Qj Jq JjA Js JrG JrH (JjB (VG (l.length + 1))) [.ro, .ro] 0 0 (Jzd (l.length + 1)) hl rfl ((JCs (l.length + 1) z f l d u k).trans ((JpA z f l d u hc k).trans hr))
 · cases hr
-- FN people.user | slices.Index[[]api.Addr,api.Addr]
def Jh3 : List PV -> AV -> Nat
 | [], _ => 0
 | p :: ps, a => bif eqA a (av p) then 0 else Jh3 ps a + 1
def Jh4 : PH -> Int := hid fun x => bif hasL x.l x.a then (Jh3 x.l x.a : Int) else -1
theorem JjD (x : PH) : Jh4 x = bif hasL x.l x.a then (Jh3 x.l x.a : Int) else -1 := by rw [Jh4, hid_eq]
theorem JmE (x : PH) : decide (Jh4 x >= 0) = hasP x := by
 rw [JjD, hasP_eq]
 cases hasL x.l x.a with
 | true => exact decide_eq_true (Int.natCast_nonneg _)
 | false => rfl
theorem JmF (l : List PV) (hl : l.all JaU = true) (h2 : l.length <= 1000) (d u : Int) (f : Nat) (k0 : Int -> Option Res) (k1 : Option Res) (z fl : Bool) : ∀ (e i n : Nat), i + e = l.length -> e < n ->
  YA f k0 k1 n z fl l (zi l.length) (i : Int) d u = bif hasL (l.drop i) ⟨d, u⟩ then k0 ((i + Jh3 (l.drop i) ⟨d, u⟩ : Nat) : Int) else k1
 | 0, i, n + 1, hi, hn => by
   rw [List.drop_of_length_le (by omega)]
   simp only [YA, ZD]
   exact Jj (by simp [zi]; omega)
 | e + 1, i, n + 1, hi, hn => by
   have g1 : ((i : Int)).toNat = i := by omega
   have w1 : IntKind.i64.wrap ((i : Int) + 1) = ((i + 1 : Nat) : Int) := by rw [wrap_i64 (by omega) (by omega)]; omega
   have hc := Jc5 (Jc6 hl (i := i) (by omega))
   unfold JhA at hc
   rw [Q9 (by omega)]
   simp only [YA, ZD, g1, w1]
   refine (Ja (by simp [zi]; omega)).trans ((Ja (by rw [hc]; simp [zi]; omega)).trans ?_)
   have he : (d == (PV.child 0 (l.getD i PV.top)).int && (u == (PV.child (0 + 1) (l.getD i PV.top)).int && true)) = eqA ⟨d, u⟩ (av (l.getD i .top)) := rfl
   have hh : hasL (l.getD i .top :: l.drop (i + 1)) ⟨d, u⟩ = (eqA ⟨d, u⟩ (av (l.getD i .top)) || hasL (l.drop (i + 1)) ⟨d, u⟩) := by
    rw [Jmz]; rfl
   rw [he, hh, Jh3]
   cases eqA ⟨d, u⟩ (av (l.getD i .top)) with
   | true => rfl
   | false =>
    refine (Jj rfl).trans ((JmF l hl h2 d u f k0 k1 z fl e (i + 1) n (by omega) (by omega)).trans ?_)
    rw [Bool.false_or, cond_false, show i + 1 + Jh3 (l.drop (i + 1)) ⟨d, u⟩ = i + (Jh3 (l.drop (i + 1)) ⟨d, u⟩ + 1) from by omega]
def JeI : List PV -> List Ent -> (Res -> Option Res) -> Option Res
 | [.ro 42 z f l, .st 42 [.sc (.int .i64 d), .sc (.int .i64 u)]], [], k => bif G5 l then k ⟨.sc (.int .i64 (Jh4 ⟨l, ⟨d, u⟩⟩)), [], []⟩ else none
 | _, _, _ => none
def JrJ : Sig := { own := [], run := JeI }
theorem JpB (z f : Bool) (l : List PV) (d u : Int) (h : G5 l = true) (k : Res -> Option Res) : Jum (l.length + 1) z f l d u k = k ⟨.sc (.int .i64 (Jh4 ⟨l, ⟨d, u⟩⟩)), [], []⟩ := by
 obtain ⟨h1, h2⟩ := V9.1 h
 unfold Jum
 rw [JjD]
 refine (JmF l h1 h2 d u (l.length + 1) _ _ z f l.length 0 (l.length + 1) (by omega) (by omega)).trans ?_
 rw [List.drop_zero, Nat.zero_add]
 cases hasL l ⟨d, u⟩ <;> rfl
theorem Jun : Jh tau Try.prog 123 JrJ := Jh.mk' fun xs es k res hl hr => by
 change JeI xs es k = some res at hr
 unfold JeI at hr
 split at hr
 · rename_i z f l d u
   obtain ⟨hc, hr⟩ := JI hr
   exact Qj Jq Jjy Js JrE JrF (Jjz (VF (l.length + 1))) [.ro] 0 0 (Jza (l.length + 1)) hl rfl ((JCr (l.length + 1) z f l d u k).trans ((JpB z f l d u hc k).trans hr))
 · cases hr
def JeJ : List PV -> List Ent -> (Res -> Option Res) -> Option Res
 | [.st 42 [.sc (.int .i64 a), .sc (.int .i64 b)]], [], k => k ⟨.sc (.bool (inA [a, 2, b, 7])), [], []⟩
 | _, _, _ => none
def JrK : Sig := { own := [], run := JeJ }
theorem Juo : Jh tau Try.prog 128 JrK := Jy8.of fun xs es k res hr => by
 change JeJ xs es k = some res at hr
 unfold JeJ at hr
 split at hr
 · rename_i a b
   show Jpt 0 a b k = some res
   rw [Jk4] at hr
   unfold Jpt
   unfold inZ at hr
   by_cases h1 : a >= 0 <;> by_cases h2 : a < 3 <;> by_cases h3 : b >= 0 <;> by_cases h4 : b < 8 <;> simp [h1, h2, h3, h4, show (a <= 2) ↔ (a < 3) from by omega, show (b <= 7) ↔ (b < 8) from by omega] at hr ⊢ <;> exact hr
 · cases hr
def F87 : Fns := JH 123 JrJ (F0)
theorem Jup : Jy tau Try.prog F87 := (JE).add Jun Jzb
def JpC : An := (.seq .leaf (.seq .leaf .leaf))
def g87 (f : Nat) (s_z s_f : Bool) (s : List PV) (v_D v_U : Int) (k : Res -> Option Res) : Option Res := bif G5 s then k (Res.mk (.sc (.bool (decide (Jh4 (PH.mk s (AV.mk v_D v_U)) >= 0)))) [] []) else none
theorem e87 (f : Nat) (s_z s_f : Bool) (s : List PV) (v_D v_U : Int) (k : Res -> Option Res) : JL tau F87 Try.f87 (Try.f87.body.get!) JpC [.ro] 0 [.ro 42 s_z s_f s, .st 42 [.sc (.int .i64 v_D), .sc (.int .i64 v_U)]] [] k = g87 f s_z s_f s v_D v_U k := by kernel_rfl
theorem JCt (f : Nat) : Je (Try.f87.body.get!) JpC = [] := by kernel_rfl
theorem JCu (f : Nat) : ∀ q ∈ Je (Try.f87.body.get!) JpC, q.Ok tau Try.prog 0 := by
 rw [JCt f]; intro q hq; cases hq
theorem Jze : Try.prog.funcs[87]? = some Try.f87 := by kernel_rfl
theorem Jzf : Try.f87.body = some (Try.f87.body.get!) := by kernel_rfl
theorem JCv : Enters Try.prog 87 := enters_of Jze (by kernel_rfl) Jzf
def JmG : List PV -> List Ent -> (Res -> Option Res) -> Option Res
 | [.ro 42 s_z s_f s, .st 42 [.sc (.int .i64 v_D), .sc (.int .i64 v_U)]], [], k => g87 0 s_z s_f s v_D v_U k
 | _, _, _ => none
def s87 : Sig := { own := [], run := JmG }
theorem JCw : Jh tau Try.prog 87 s87 := JY Jq Jup Js Jze Jzf JpC [.ro] 0 [] JmG (JCu 0) fun xs es k res hr => by
 unfold JmG at hr
 split at hr
 · exact ⟨rfl, 0, (e87 0 _ _ _ _ _  _).trans hr⟩
 · cases hr
def F39 : Fns := JH 87 s87 (F0)
theorem Juq : Jy tau Try.prog F39 := (JE).add JCw JCv
def JpD : An := (.seq .leaf (.seq .leaf .leaf))
def g39 (f : Nat) (l_z l_f : Bool) (l : List PV) (a_D a_U : Int) (k : Res -> Option Res) : Option Res := bif G5 l then k (Res.mk (.sc (.bool (decide (Jh4 (PH.mk l (AV.mk a_D a_U)) >= 0)))) [] []) else none
theorem e39 (f : Nat) (l_z l_f : Bool) (l : List PV) (a_D a_U : Int) (k : Res -> Option Res) : JL tau F39 Try.f39 (Try.f39.body.get!) JpD [.ro] 0 [.ro 42 l_z l_f l, .st 42 [.sc (.int .i64 a_D), .sc (.int .i64 a_U)]] [] k = g39 f l_z l_f l a_D a_U k := by kernel_rfl
theorem JCx (f : Nat) : Je (Try.f39.body.get!) JpD = [] := by kernel_rfl
theorem JCy (f : Nat) : ∀ q ∈ Je (Try.f39.body.get!) JpD, q.Ok tau Try.prog 0 := by
 rw [JCx f]; intro q hq; cases hq
theorem Jzg : Try.prog.funcs[39]? = some Try.f39 := by kernel_rfl
theorem Jzh : Try.f39.body = some (Try.f39.body.get!) := by kernel_rfl
theorem JCz : Enters Try.prog 39 := enters_of Jzg (by kernel_rfl) Jzh
def JmH : List PV -> List Ent -> (Res -> Option Res) -> Option Res
 | [.ro 42 l_z l_f l, .st 42 [.sc (.int .i64 a_D), .sc (.int .i64 a_U)]], [], k => g39 0 l_z l_f l a_D a_U k
 | _, _, _ => none
def s39 : Sig := { own := [], run := JmH }
theorem JCA : Jh tau Try.prog 39 s39 := JY Jq Juq Js Jzg Jzh JpD [.ro] 0 [] JmH (JCy 0) fun xs es k res hr => by
 unfold JmH at hr
 split at hr
 · exact ⟨rfl, 0, (e39 0 _ _ _ _ _  _).trans hr⟩
 · cases hr
def Jzi : Fns := F0
theorem JpE : Jy tau Try.prog Jzi := JE
def JjE : An := (.seq .leaf (.seq (.seq .leaf (.cond .leaf .leaf)) (.seq (.seq .leaf (.seq .leaf (.cond .leaf .leaf))) (.seq .leaf .leaf))))
def Jzj (f : Nat) (n : Int) (k : Res -> Option Res) : Option Res := bif decide (n < 0) then none else bif decide (IntKind.i64.wrap (n - IntKind.i64.wrap (zi 0 - zi 0)) > 0) then bif decide (0 <= IntKind.i64.wrap (n - IntKind.i64.wrap (zi 0 - zi 0))) && Jf (IntKind.i64.wrap (n - IntKind.i64.wrap (zi 0 - zi 0))).toNat 16 && true then k (Res.mk (.ow 42 16 [] 0 0 none) [] [.vec false 42 (IntKind.i64.wrap (n - IntKind.i64.wrap (zi 0 - zi 0)) == 0) (List.replicate (IntKind.i64.wrap (n - IntKind.i64.wrap (zi 0 - zi 0))).toNat (PV.st 42 [.sc (.int .i64 0), .sc (.int .i64 0)]))]) else none else k (Res.mk (.ro 42 true true []) [] [])
theorem JCB (f : Nat) (n : Int) (k : Res -> Option Res) : JL tau Jzi Try.f135 (Try.f135.body.get!) JjE [] 0 [.ro 42 true true [], .sc (.int .i64 n)] [] k = Jzj f n k := by kernel_rfl
theorem Jzk (f : Nat) : Je (Try.f135.body.get!) JjE = [] := by kernel_rfl
theorem Jzl (f : Nat) : ∀ q ∈ Je (Try.f135.body.get!) JjE, q.Ok tau Try.prog 0 := by
 rw [Jzk f]; intro q hq; cases hq
theorem JrL : Try.prog.funcs[135]? = some Try.f135 := by kernel_rfl
theorem JrM : Try.f135.body = some (Try.f135.body.get!) := by kernel_rfl
theorem Jzm : Enters Try.prog 135 := enters_of JrL (by kernel_rfl) JrM
def Jh5 : List PV -> List Ent -> (Res -> Option Res) -> Option Res
 | [.ro 42 true true [], .sc (.int .i64 n)], [], k => Jzj 0 n k
 | _, _, _ => none
def Jzn : Sig := { own := [], run := Jh5 }
theorem Jzo : Jh tau Try.prog 135 Jzn := JY Jq JpE Js JrL JrM JjE [] 0 [] Jh5 (Jzl 0) fun xs es k res hr => by
 unfold Jh5 at hr
 split at hr
 · exact ⟨rfl, 0, (JCB 0 _  _).trans hr⟩
 · cases hr
def XS : Nat := 36
def Jgf : Fns := JH 135 Jzn (F0)
theorem JeK : Jy tau Try.prog Jgf := (JE).add Jzo Jzm
def Jac : Code := Qn (Try.f129.body.get!) [1, 1, 0, 1, 0, 0]
def WO : Nm := [(0, .any), (3, .any), (9, .any), (10, .any), (11, .any)]
def Xu : Nm := [(0, .any), (3, .any)]
def Jcd : An := (.seq .leaf (.seq (.cond .leaf .leaf) (.seq (.block none (.seq .leaf (.seq .leaf (.seq .leaf (.cond .leaf .leaf))))) .leaf)))
def Jad : Code := Qn (Try.f129.body.get!) [1, 1, 1, 1, 0, 1, 0, 0]
def WP : Nm := [(6, .own), (25, .any), (26, .any), (27, .any)]
def Xv : Nm := [(6, .any)]
def Jce : An := (.seq .leaf (.seq (.cond .leaf .leaf) (.seq (.block none (.seq .leaf .leaf)) .leaf)))
def JjF (r0 : QV) (r1 : QV) : An := (.seq .leaf (.seq .leaf (.seq (.seq .leaf (.block none (.sum WO XS r0))) (.seq .leaf (.seq (.seq .leaf (.block none (.sum WP XS r1))) (.seq .leaf .leaf))))))
def ZE (f : Nat) (rc : Bool -> Bool -> List PV -> Int -> Bool -> Bool -> List PV -> Int -> Int -> Option Res) (k0 : Bool -> Bool -> List PV -> Int -> Option Res) (v0 v1 : Bool) (v2 : List PV) (v3 : Int) (v4 v5 : Bool) (v6 : List PV) (v7 v8 : Int) : Option Res := bif decide (v8 < v7) then bif decide (0 <= v8) && decide (v8 < zi v6.length) && PV.isRo 42 (v6.getD v8.toNat PV.top) && true then bif decide (IntKind.i64.wrap (v3 + zi (v6.getD v8.toNat PV.top).els.length) < 0) then none else rc v0 v1 v2 (IntKind.i64.wrap (v3 + zi (v6.getD v8.toNat PV.top).els.length)) v4 v5 v6 v7 (IntKind.i64.wrap (v8 + 1)) else none else k0 v0 v1 v2 v3
def YC (f : Nat) (k0 : Bool -> Bool -> List PV -> Int -> Option Res) : Nat -> Bool -> Bool -> List PV -> Int -> Bool -> Bool -> List PV -> Int -> Int -> Option Res
 | 0, _, _, _, _, _, _, _, _, _ => none
 | n + 1, v0, v1, v2, v3, v4, v5, v6, v7, v8 => ZE f (YC f k0 n) k0 v0 v1 v2 v3 v4 v5 v6 v7 v8
theorem JmI (f : Nat) (k : Kont) (n : Nat) (v0 v1 : Bool) (v2 : List PV) (v3 : Int) (v4 v5 : Bool) (v6 : List PV) (v7 v8 : Int) : Jp tau 0 WO (fun s k => ev tau Jgf 0 0 Jac (Jcd ) s k) (n + 1) (Jc WO XS [.ro 35 v0 v1 v2, .sc (.int .i64 v3), .ro 35 v4 v5 v6, .sc (.int .i64 v7), .sc (.int .i64 v8)] []) (Jt tau 0 Xu k) = ZE f (fun v0 v1 v2 v3 v4 v5 v6 v7 v8 => Jp tau 0 WO (fun s k => ev tau Jgf 0 0 Jac (Jcd ) s k) n (Jc WO XS [.ro 35 v0 v1 v2, .sc (.int .i64 v3), .ro 35 v4 v5 v6, .sc (.int .i64 v7), .sc (.int .i64 v8)] []) (Jt tau 0 Xu k)) (fun x0 x1 x2 x3 => k (Ex.exit 0) (Jc Xu XS [.ro 35 x0 x1 x2, .sc (.int .i64 x3)] [])) v0 v1 v2 v3 v4 v5 v6 v7 v8 := by kernel_rfl
theorem Jgg (f : Nat) (k : Kont) : ∀ (n : Nat) (v0 v1 : Bool) (v2 : List PV) (v3 : Int) (v4 v5 : Bool) (v6 : List PV) (v7 v8 : Int), Jp tau 0 WO (fun s k => ev tau Jgf 0 0 Jac (Jcd ) s k) n (Jc WO XS [.ro 35 v0 v1 v2, .sc (.int .i64 v3), .ro 35 v4 v5 v6, .sc (.int .i64 v7), .sc (.int .i64 v8)] []) (Jt tau 0 Xu k) = YC f (fun x0 x1 x2 x3 => k (Ex.exit 0) (Jc Xu XS [.ro 35 x0 x1 x2, .sc (.int .i64 x3)] [])) n v0 v1 v2 v3 v4 v5 v6 v7 v8 | 0, _, _, _, _, _, _, _, _, _ => rfl | n + 1, v0, v1, v2, v3, v4, v5, v6, v7, v8 => (JmI f k n v0 v1 v2 v3 v4 v5 v6 v7 v8).trans (congrArg (fun r => ZE f r (fun x0 x1 x2 x3 => k (Ex.exit 0) (Jc Xu XS [.ro 35 x0 x1 x2, .sc (.int .i64 x3)] [])) v0 v1 v2 v3 v4 v5 v6 v7 v8) (by funext v0 v1 v2 v3 v4 v5 v6 v7 v8; exact Jgg f k n v0 v1 v2 v3 v4 v5 v6 v7 v8))
def VI (f : Nat) : List PV -> List (Nat × Ent) -> Kont -> Option Res
 | [.ro 35 v0 v1 v2, .sc (.int .i64 v3), .ro 35 v4 v5 v6, .sc (.int .i64 v7),
 .sc (.int .i64 v8)], [], k => YC f (fun x0 x1 x2 x3 => k (Ex.exit 0) (Jc Xu XS [.ro 35 x0 x1 x2, .sc (.int .i64 x3)] [])) f v0 v1 v2 v3 v4 v5 v6 v7 v8
 | _, _, _ => none
theorem JpF (f : Nat) : Je Jac Jcd = [] := by kernel_rfl
theorem JpG (f : Nat) : (Item.l Jac WO XS (VI f)).Ok tau Try.prog 0 := JJ Jq JeK Js (x := Jcd) (nm2 := Xu) (Jl _ _ (by rw [JpF f]; intro q hq; cases hq)) fun vs hp k res hr => by
 unfold VI at hr
 split at hr
 · exact ⟨f, 0, (Jgg f _ f _ _ _ _ _ _ _ _ _ ).trans hr⟩
 · cases hr
def ZF (f : Nat) (rc : Nat -> Bool -> Bool -> List PV -> Int -> Int -> Bool -> List PV -> Option Res) (k0 : Nat -> Bool -> List PV -> Option Res) (v0 : Nat) (v1 v2 : Bool) (v3 : List PV) (v4 v5 : Int) (v6 : Bool) (v7 : List PV) : Option Res := bif decide (v5 < v4) then bif decide (0 <= v5) && decide (v5 < zi v3.length) && PV.isRo 42 (v3.getD v5.toNat PV.top) && true then bif Jf (v0 + (v3.getD v5.toNat PV.top).els.length) 16 && true then rc (v0 + (v3.getD v5.toNat PV.top).els.length) v1 v2 v3 v4 (IntKind.i64.wrap (v5 + 1)) (v6 && (v3.getD v5.toNat PV.top).els.isEmpty) (List.take v0 v7 ++ (v3.getD v5.toNat PV.top).els) else none else none else k0 v0 v6 v7
def Wi (f : Nat) (k0 : Nat -> Bool -> List PV -> Option Res) : Nat -> Nat -> Bool -> Bool -> List PV -> Int -> Int -> Bool -> List PV -> Option Res
 | 0, _, _, _, _, _, _, _, _ => none
 | n + 1, v0, v1, v2, v3, v4, v5, v6, v7 => ZF f (Wi f k0 n) k0 v0 v1 v2 v3 v4 v5 v6 v7
theorem JmJ (f : Nat) (k : Kont) (n v0 : Nat) (v1 v2 : Bool) (v3 : List PV) (v4 v5 : Int) (v6 : Bool) (v7 : List PV) : Jp tau 0 WP (fun s k => ev tau Jgf 0 0 Jad (Jce ) s k) (n + 1) (Jc WP XS [.ow 42 592 [] 0 v0 none, .ro 35 v1 v2 v3, .sc (.int .i64 v4), .sc (.int .i64 v5)] [(592, .vec false 42 v6 v7)]) (Jt tau 0 Xv k) = ZF f (fun v0 v1 v2 v3 v4 v5 v6 v7 => Jp tau 0 WP (fun s k => ev tau Jgf 0 0 Jad (Jce ) s k) n (Jc WP XS [.ow 42 592 [] 0 v0 none, .ro 35 v1 v2 v3, .sc (.int .i64 v4), .sc (.int .i64 v5)] [(592, .vec false 42 v6 v7)]) (Jt tau 0 Xv k)) (fun x0 x1 x2 => k (Ex.exit 2) (Jc Xv XS [.ow 42 592 [] 0 x0 none] [(592, .vec false 42 x1 x2)])) v0 v1 v2 v3 v4 v5 v6 v7 := by kernel_rfl
theorem Jgh (f : Nat) (k : Kont) : ∀ (n v0 : Nat) (v1 v2 : Bool) (v3 : List PV) (v4 v5 : Int) (v6 : Bool) (v7 : List PV), Jp tau 0 WP (fun s k => ev tau Jgf 0 0 Jad (Jce ) s k) n (Jc WP XS [.ow 42 592 [] 0 v0 none, .ro 35 v1 v2 v3, .sc (.int .i64 v4), .sc (.int .i64 v5)] [(592, .vec false 42 v6 v7)]) (Jt tau 0 Xv k) = Wi f (fun x0 x1 x2 => k (Ex.exit 2) (Jc Xv XS [.ow 42 592 [] 0 x0 none] [(592, .vec false 42 x1 x2)])) n v0 v1 v2 v3 v4 v5 v6 v7 | 0, _, _, _, _, _, _, _, _ => rfl | n + 1, v0, v1, v2, v3, v4, v5, v6, v7 => (JmJ f k n v0 v1 v2 v3 v4 v5 v6 v7).trans (congrArg (fun r => ZF f r (fun x0 x1 x2 => k (Ex.exit 2) (Jc Xv XS [.ow 42 592 [] 0 x0 none] [(592, .vec false 42 x1 x2)])) v0 v1 v2 v3 v4 v5 v6 v7) (by funext v0 v1 v2 v3 v4 v5 v6 v7; exact Jgh f k n v0 v1 v2 v3 v4 v5 v6 v7))
def VJ (f : Nat) : List PV -> List (Nat × Ent) -> Kont -> Option Res
 | [.ow 42 592 [] 0 v0 none, .ro 35 v1 v2 v3, .sc (.int .i64 v4),
 PV.sc
  (Value.int IntKind.i64
   v5)], [(592, .vec false 42 v6 v7)], k => Wi f (fun x0 x1 x2 => k (Ex.exit 2) (Jc Xv XS [.ow 42 592 [] 0 x0 none] [(592, .vec false 42 x1 x2)])) f v0 v1 v2 v3 v4 v5 v6 v7
 | _, _, _ => none
theorem JpH (f : Nat) : Je Jad Jce = [] := by kernel_rfl
theorem JpI (f : Nat) : (Item.l Jad WP XS (VJ f)).Ok tau Try.prog 0 := JJ Jq JeK Js (x := Jce) (nm2 := Xv) (Jl _ _ (by rw [JpH f]; intro q hq; cases hq)) fun vs hp k res hr => by
 unfold VJ at hr
 split at hr
 · exact ⟨f, 0, (Jgh f _ f _ _ _ _ _ _ _ _ ).trans hr⟩
 · cases hr
def Jzp (f : Nat) (y0 y1 : Bool) (slices : List PV) (k : Res -> Option Res) : Option Res := YC f (fun x0_0 x1_0 x2_0 x3_0 => bif decide (x3_0 < 0) then none else bif decide (IntKind.i64.wrap (x3_0 - IntKind.i64.wrap (zi 0 - zi 0)) > 0) then bif decide (0 <= IntKind.i64.wrap (x3_0 - IntKind.i64.wrap (zi 0 - zi 0))) && Jf (IntKind.i64.wrap (x3_0 - IntKind.i64.wrap (zi 0 - zi 0))).toNat 16 && true then Wi f (fun x0_1 x1_1 x2_1 => k (Res.mk (.ow 42 16 [] 0 x0_1 none) [] [.vec false 42 x1_1 x2_1])) f (0) x0_0 x1_0 x2_0 (zi x2_0.length) (0) (IntKind.i64.wrap (x3_0 - IntKind.i64.wrap (zi 0 - zi 0)) == 0) (List.replicate (IntKind.i64.wrap (x3_0 - IntKind.i64.wrap (zi 0 - zi 0))).toNat (PV.st 42 [.sc (.int .i64 0), .sc (.int .i64 0)])) else none else Wi f (fun x0_2 x1_2 x2_2 => k (Res.mk (.ow 42 16 [] 0 x0_2 none) [] [.vec false 42 x1_2 x2_2])) f (0) x0_0 x1_0 x2_0 (zi x2_0.length) (0) true ([])) f y0 y1 slices (0) y0 y1 slices (zi slices.length) (0)
theorem JCC (f : Nat) (y0 y1 : Bool) (slices : List PV) (k : Res -> Option Res) : JL tau Jgf Try.f129 (Try.f129.body.get!) (JjF (VI f) (VJ f)) [] 0 [.ro 35 y0 y1 slices] [] k = Jzp f y0 y1 slices k := by kernel_rfl
theorem Jzq (f : Nat) : Je (Try.f129.body.get!) (JjF (VI f) (VJ f)) = [.l Jac WO XS (VI f), .l Jad WP XS (VJ f)] := by kernel_rfl
theorem Jzr (f : Nat) : ∀ q ∈ Je (Try.f129.body.get!) (JjF (VI f) (VJ f)), q.Ok tau Try.prog 0 := by
 rw [Jzq f]; simp only [List.forall_mem_cons, List.not_mem_nil, false_implies, implies_true, and_true]; exact ⟨JpG f, JpI f⟩
theorem JrN : Try.prog.funcs[129]? = some Try.f129 := by kernel_rfl
theorem JrO : Try.f129.body = some (Try.f129.body.get!) := by kernel_rfl
theorem JrP : Enters Try.prog 129 := enters_of JrN (by kernel_rfl) JrO
-- FN slices.Concat[[]api.Addr,api.Addr]
theorem Jcf {l : List PV} (h : l.all (PV.isRo 42) = true) {i : Nat} (hi : i < l.length) : (l.getD i .top).isRo 42 = true := by
 rw [List.getD_eq_getElem?_getD, List.getElem?_eq_getElem hi]
 exact List.all_eq_true.1 h _ (List.getElem_mem hi)
theorem JmK (f : Nat) (k0 : Bool -> Bool -> List PV -> Int -> Option Res) (a b : Bool) (c : List PV) (nl fl : Bool) (l : List PV) (hl : l.all (PV.isRo 42) = true) (hs : (Jv l).length <= 8000000000000) (hn : l.length <= 8000000000000) : ∀ (d i n : Nat), i + d = l.length -> d < n ->
  YC f k0 n a b c ((Jv (l.take i)).length : Int) nl fl l (l.length : Int) (i : Int) = k0 a b c ((Jv l).length : Int)
 | 0, i, n + 1, h, hd => by
   obtain rfl : i = l.length := by omega
   simp only [YC, ZE]
   exact (Jj (by simp)).trans (by rw [List.take_length])
 | d + 1, i, n + 1, h, hd => by
   have hle := WE l (i + 1)
   have hadd : (Jv (l.take (i + 1))).length = (Jv (l.take i)).length + (l.getD i .top).els.length := by rw [WW l i (by omega), List.length_append]
   have h1 : IntKind.i64.wrap ((i : Int) + 1) = ((i + 1 : Nat) : Int) := by rw [wrap_i64 (by omega) (by omega)]; omega
   have h2 : IntKind.i64.wrap (((Jv (l.take i)).length : Int) + ((l.getD i .top).els.length : Int)) = ((Jv (l.take (i + 1))).length : Int) := by rw [wrap_i64 (by omega) (by omega)]; omega
   simp only [YC, ZE, zi, Int.toNat_natCast, h1, h2]
   refine (Ja (by simp <;> omega)).trans ?_
   refine (Ja (by rw [Jcf hl (by omega)]; simp; omega)).trans ?_
   refine (Jj (by simp <;> omega)).trans ?_
   exact JmK f k0 a b c nl fl l hl hs hn d (i + 1) n (by omega) (by omega)
theorem Jh6 (f : Nat) (k0 : Nat -> Bool -> List PV -> Option Res) (nl fl : Bool) (l : List PV) (hl : l.all (PV.isRo 42) = true) (hs : (Jv l).length <= 8000000000000) (hn : l.length <= 8000000000000) : ∀ (d i n : Nat) (z : Bool) (v : List PV), i + d = l.length -> d < n -> v.take (Jv (l.take i)).length = Jv (l.take i) -> (d = 0 -> v = Jv l) ->
  Wi f k0 n (Jv (l.take i)).length nl fl l (l.length : Int) (i : Int) z v = k0 (Jv l).length (z && (Jv (l.drop i)).isEmpty) (Jv l)
 | 0, i, n + 1, z, v, h, hd, hv, h0 => by
   obtain rfl : i = l.length := by omega
   simp only [Wi, ZF]
   refine (Jj (by simp)).trans ?_
   rw [List.take_length, h0 rfl, List.drop_length]; simp
 | d + 1, i, n + 1, z, v, h, hd, hv, h0 => by
   have hle := WE l (i + 1)
   have hadd : (Jv (l.take (i + 1))).length = (Jv (l.take i)).length + (l.getD i .top).els.length := by rw [WW l i (by omega), List.length_append]
   have h1 : IntKind.i64.wrap ((i : Int) + 1) = ((i + 1 : Nat) : Int) := by rw [wrap_i64 (by omega) (by omega)]; omega
   simp only [Wi, ZF, zi, Int.toNat_natCast, h1, hv]
   refine (Ja (by simp <;> omega)).trans ?_
   refine (Ja (by rw [Jcf hl (by omega)]; simp; omega)).trans ?_
   refine (Ja (by simp only [Jf, Bool.and_true, decide_eq_true_eq]; omega)).trans ?_
   have := Jh6 f k0 nl fl l hl hs hn d (i + 1) n (z && (l.getD i .top).els.isEmpty) (Jv (l.take (i + 1))) (by omega) (by omega) (List.take_length) (fun hd0 => by rw [show i + 1 = l.length from by omega, List.take_length])
   rw [hadd, WW l i (by omega)] at this
   rw [this, JbQ l i (by omega), WV, JaC, Bool.and_assoc]
def JeL : List PV -> List Ent -> (Res -> Option Res) -> Option Res
 | [.ro 35 nl fl l], [], k => bif l.all (PV.isRo 42) && (decide ((Jv l).length <= 8000000000000) && decide (l.length <= 8000000000000)) then k ⟨.ow 42 16 [] 0 (Jv l).length none, [], [.vec false 42 (Jv l).isEmpty (Jv l)]⟩ else none
 | _, _, _ => none
def JmL : Sig := { own := [], run := JeL }
theorem JpJ (nl fl : Bool) (l : List PV) (k : Res -> Option Res) (hl : l.all (PV.isRo 42) = true) (hs : (Jv l).length <= 8000000000000) (hn : l.length <= 8000000000000) :
  Jzp (l.length + 1) nl fl l k = k ⟨.ow 42 16 [] 0 (Jv l).length none, [], [.vec false 42 (Jv l).isEmpty (Jv l)]⟩ := by
 have h0 := JmK (l.length + 1) (fun x0_0 x1_0 x2_0 x3_0 =>
  bif decide (x3_0 < 0) then
   none
  else bif decide (IntKind.i64.wrap (x3_0 - IntKind.i64.wrap (zi 0 - zi 0)) > 0) then
   bif decide (0 <= IntKind.i64.wrap (x3_0 - IntKind.i64.wrap (zi 0 - zi 0))) && Jf (IntKind.i64.wrap (x3_0 - IntKind.i64.wrap (zi 0 - zi 0))).toNat 16 && true then
    Wi (l.length + 1) (fun x0_1 x1_1 x2_1 =>
     k (Res.mk (PV.ow 42 16 [] 0 x0_1 none) []
      [Ent.vec false 42 x1_1
       x2_1])) (l.length + 1) (0) x0_0 x1_0 x2_0 (zi
     x2_0.length) (0) (IntKind.i64.wrap (x3_0 - IntKind.i64.wrap (zi 0 - zi 0)) ==
     0) (List.replicate (IntKind.i64.wrap (x3_0 - IntKind.i64.wrap (zi 0 - zi 0))).toNat (PV.st 42 [.sc (.int .i64 0), .sc (.int .i64 0)]))
   else none
  else Wi (l.length + 1) (fun x0_2 x1_2 x2_2 =>
   k (Res.mk (PV.ow 42 16 [] 0 x0_2 none) [] [Ent.vec false 42 x1_2 x2_2])) (l.length + 1) (0) x0_0 x1_0 x2_0 (zi x2_0.length) (0) true ([])) nl fl l nl fl l hl hs hn l.length 0 (l.length + 1) (by omega) (by omega)
 refine h0.trans ?_
 have hw : IntKind.i64.wrap (((Jv l).length : Int) - IntKind.i64.wrap (zi 0 - zi 0)) = ((Jv l).length : Int) := by
  have : IntKind.i64.wrap (zi 0 - zi 0) = 0 := by decide
  rw [this, wrap_i64 (by omega) (by omega)]; omega
 simp only [hw]
 refine (Jj (by simp <;> omega)).trans ?_
 cases he : (Jv l).isEmpty with
 | true =>
  have he' : Jv l = [] := by simpa using he
  refine (Jj (by simp [he'])).trans ?_
  have := Jh6 (l.length + 1) (fun x0_2 x1_2 x2_2 => k (Res.mk (PV.ow 42 16 [] 0 x0_2 none) [] [Ent.vec false 42 x1_2 x2_2])) nl fl l hl hs hn l.length 0 (l.length + 1) true [] (by omega) (by omega) (by simp) (fun _ => he'.symm)
  refine this.trans ?_
  simp [he']
 | false =>
  have he' : Jv l ≠ [] := by simpa using he
  have hpos : 0 < (Jv l).length := List.length_pos_iff.2 he'
  have hl0 : l.length ≠ 0 := by
   intro h; rw [List.length_eq_zero_iff] at h; subst h; simp at he'
  refine (Ja (by simp <;> omega)).trans ?_
  refine (Ja (by simp [Jf] <;> omega)).trans ?_
  have := Jh6 (l.length + 1) (fun x0_2 x1_2 x2_2 => k (Res.mk (PV.ow 42 16 [] 0 x0_2 none) [] [Ent.vec false 42 x1_2 x2_2])) nl fl l hl hs hn l.length 0 (l.length + 1) (((Jv l).length : Int) == 0) (List.replicate (((Jv l).length : Int)).toNat (PV.st 42 [.sc (.int .i64 0), .sc (.int .i64 0)])) (by omega) (by omega) (by simp) (fun h => absurd h hl0)
  refine this.trans ?_
  have hz : (((Jv l).length : Int) == 0) = false := by simp [he']
  rw [hz]; rfl
theorem JmM : Jh tau Try.prog 129 JmL := Jd4 Jq JeK Js JrN JrO (fun n => JjF (VI n) (VJ n)) [] 0 [] JeL (fun n => Jzr n) fun xs es k res hr => by
 unfold JeL at hr
 split at hr
 · rename_i nl fl l
   obtain ⟨hc, hr⟩ := JI hr
   simp only [Bool.and_eq_true, decide_eq_true_eq] at hc
   refine ⟨rfl, l.length + 1, 0, (JCC _ _ _ _ _).trans ?_⟩
   rw [JpJ _ _ _ _ hc.1 hc.2.1 hc.2.2]; exact hr
 · cases hr
def F90 : Fns := JH 129 JmL (JH 128 JrK (JH 127 JmC (JH 86 s86 (F0))))
theorem Jur : Jy tau Try.prog F90 := ((((JE).add Juk Juj).add JmD JrI).add Juo Jy7).add JmM JrP
def JpK : An := (.seq .leaf (.seq .leaf (.seq (.block none (.seq .leaf (.cond (.seq .leaf .leaf) (.seq .leaf (.cond (.seq .leaf .leaf) (.seq .leaf (.cond (.seq .leaf .leaf) .leaf))))))) (.seq .leaf .leaf))))
def g90 (f : Nat) (l_z l_f : Bool) (l : List PV) (a_D a_U : Int) (k : Res -> Option Res) : Option Res := bif G5 l then bif !inA [a_D, 2, a_U, 7] then bif l_z then k (Res.mk (.tup [.ro 42 true true [], .sc (.int .i64 1)]) [] []) else bif Jf (0 + l.length) 16 && true then k (Res.mk (.tup [.ro 42 false false (List.take (0 + l.length) l), .sc (.int .i64 1)]) [] []) else none else bif Jks (PH.mk l (AV.mk a_D a_U)) then bif l_z then k (Res.mk (.tup [.ro 42 true true [], .sc (.int .i64 12)]) [] []) else bif Jf (0 + l.length) 16 && true then k (Res.mk (.tup [.ro 42 false false (List.take (0 + l.length) l), .sc (.int .i64 12)]) [] []) else none else bif decide (zi l.length >= 8) then bif l_z then k (Res.mk (.tup [.ro 42 true true [], .sc (.int .i64 4)]) [] []) else bif Jf (0 + l.length) 16 && true then k (Res.mk (.tup [.ro 42 false false (List.take (0 + l.length) l), .sc (.int .i64 4)]) [] []) else none else bif decide (0 <= QH (PH.mk l (AV.mk a_D a_U))) && true && decide ((QH (PH.mk l (AV.mk a_D a_U))).toNat <= l.length) && true then bif decide (0 <= QH (PH.mk l (AV.mk a_D a_U))) && true && decide ((QH (PH.mk l (AV.mk a_D a_U))).toNat <= l.length) && decide (l.length <= l.length) && true then bif decide ((Jv [.ro 42 l_z (l_z || l_f && false) (List.take (QH (PH.mk l (AV.mk a_D a_U))).toNat l), .ro 42 false false [.st 42 [.sc (.int .i64 a_D), .sc (.int .i64 a_U)]], .ro 42 l_z (l_z || l_f && true) (List.drop (QH (PH.mk l (AV.mk a_D a_U))).toNat (List.take l.length l))]).length <= 8000000000000) && true then k (Res.mk (.tup [.ro 42 (Ent.vec false 42 (Jv [.ro 42 l_z (l_z || l_f && false) (List.take (QH (PH.mk l (AV.mk a_D a_U))).toNat l), .ro 42 false false [.st 42 [.sc (.int .i64 a_D), .sc (.int .i64 a_U)]], .ro 42 l_z (l_z || l_f && true) (List.drop (QH (PH.mk l (AV.mk a_D a_U))).toNat (List.take l.length l))]).isEmpty (Jv [.ro 42 l_z (l_z || l_f && false) (List.take (QH (PH.mk l (AV.mk a_D a_U))).toNat l), .ro 42 false false [.st 42 [.sc (.int .i64 a_D), .sc (.int .i64 a_U)]], .ro 42 l_z (l_z || l_f && true) (List.drop (QH (PH.mk l (AV.mk a_D a_U))).toNat (List.take l.length l))])).nil false (List.take (Jv [.ro 42 l_z (l_z || l_f && false) (List.take (QH (PH.mk l (AV.mk a_D a_U))).toNat l), .ro 42 false false [.st 42 [.sc (.int .i64 a_D), .sc (.int .i64 a_U)]], .ro 42 l_z (l_z || l_f && true) (List.drop (QH (PH.mk l (AV.mk a_D a_U))).toNat (List.take l.length l))]).length (Jv [.ro 42 l_z (l_z || l_f && false) (List.take (QH (PH.mk l (AV.mk a_D a_U))).toNat l), .ro 42 false false [.st 42 [.sc (.int .i64 a_D), .sc (.int .i64 a_U)]], .ro 42 l_z (l_z || l_f && true) (List.drop (QH (PH.mk l (AV.mk a_D a_U))).toNat (List.take l.length l))])), .sc (.int .i64 0)]) [] []) else none else none else none else none
theorem e90 (f : Nat) (l_z l_f : Bool) (l : List PV) (a_D a_U : Int) (k : Res -> Option Res) : JL tau F90 Try.f90 (Try.f90.body.get!) JpK [.ro, .ro] 0 [.ro 42 l_z l_f l, .st 42 [.sc (.int .i64 a_D), .sc (.int .i64 a_U)]] [] k = g90 f l_z l_f l a_D a_U k := by kernel_rfl
theorem JCD (f : Nat) : Je (Try.f90.body.get!) JpK = [] := by kernel_rfl
theorem JCE (f : Nat) : ∀ q ∈ Je (Try.f90.body.get!) JpK, q.Ok tau Try.prog 0 := by
 rw [JCD f]; intro q hq; cases hq
theorem Jzs : Try.prog.funcs[90]? = some Try.f90 := by kernel_rfl
theorem Jzt : Try.f90.body = some (Try.f90.body.get!) := by kernel_rfl
theorem JCF : Enters Try.prog 90 := enters_of Jzs (by kernel_rfl) Jzt
def JmN : List PV -> List Ent -> (Res -> Option Res) -> Option Res
 | [.ro 42 l_z l_f l, .st 42 [.sc (.int .i64 a_D), .sc (.int .i64 a_U)]], [], k => g90 0 l_z l_f l a_D a_U k
 | _, _, _ => none
def s90 : Sig := { own := [], run := JmN }
theorem JCG : Jh tau Try.prog 90 s90 := JY Jq Jur Js Jzs Jzt JpK [.ro, .ro] 0 [] JmN (JCE 0) fun xs es k res hr => by
 unfold JmN at hr
 split at hr
 · exact ⟨rfl, 0, (e90 0 _ _ _ _ _  _).trans hr⟩
 · cases hr
def F91 : Fns := JH 129 JmL (JH 127 JmC (JH 86 s86 (F0)))
theorem Jus : Jy tau Try.prog F91 := (((JE).add Juk Juj).add JmD JrI).add JmM JrP
def JpL : An := (.seq .leaf (.seq .leaf (.seq (.seq .leaf (.cond (.seq .leaf .leaf) .leaf)) (.seq .leaf .leaf))))
def g91 (f : Nat) (l_z l_f : Bool) (l : List PV) (a_D a_U : Int) (k : Res -> Option Res) : Option Res := bif G5 l then bif !Jks (PH.mk l (AV.mk a_D a_U)) then bif l_z then k (Res.mk (.tup [.ro 42 true true [], .sc (.int .i64 2)]) [] []) else bif Jf (0 + l.length) 16 && true then k (Res.mk (.tup [.ro 42 false false (List.take (0 + l.length) l), .sc (.int .i64 2)]) [] []) else none else bif decide (0 <= QH (PH.mk l (AV.mk a_D a_U))) && true && decide ((QH (PH.mk l (AV.mk a_D a_U))).toNat <= l.length) && true then bif decide (0 <= IntKind.i64.wrap (QH (PH.mk l (AV.mk a_D a_U)) + 1)) && true && decide ((IntKind.i64.wrap (QH (PH.mk l (AV.mk a_D a_U)) + 1)).toNat <= l.length) && decide (l.length <= l.length) && true then bif decide ((Jv [.ro 42 l_z (l_z || l_f && false) (List.take (QH (PH.mk l (AV.mk a_D a_U))).toNat l), .ro 42 l_z (l_z || l_f && true) (List.drop (IntKind.i64.wrap (QH (PH.mk l (AV.mk a_D a_U)) + 1)).toNat (List.take l.length l))]).length <= 8000000000000) && true then k (Res.mk (.tup [.ro 42 (Ent.vec false 42 (Jv [.ro 42 l_z (l_z || l_f && false) (List.take (QH (PH.mk l (AV.mk a_D a_U))).toNat l), .ro 42 l_z (l_z || l_f && true) (List.drop (IntKind.i64.wrap (QH (PH.mk l (AV.mk a_D a_U)) + 1)).toNat (List.take l.length l))]).isEmpty (Jv [.ro 42 l_z (l_z || l_f && false) (List.take (QH (PH.mk l (AV.mk a_D a_U))).toNat l), .ro 42 l_z (l_z || l_f && true) (List.drop (IntKind.i64.wrap (QH (PH.mk l (AV.mk a_D a_U)) + 1)).toNat (List.take l.length l))])).nil false (List.take (Jv [.ro 42 l_z (l_z || l_f && false) (List.take (QH (PH.mk l (AV.mk a_D a_U))).toNat l), .ro 42 l_z (l_z || l_f && true) (List.drop (IntKind.i64.wrap (QH (PH.mk l (AV.mk a_D a_U)) + 1)).toNat (List.take l.length l))]).length (Jv [.ro 42 l_z (l_z || l_f && false) (List.take (QH (PH.mk l (AV.mk a_D a_U))).toNat l), .ro 42 l_z (l_z || l_f && true) (List.drop (IntKind.i64.wrap (QH (PH.mk l (AV.mk a_D a_U)) + 1)).toNat (List.take l.length l))])), .sc (.int .i64 0)]) [] []) else none else none else none else none
theorem e91 (f : Nat) (l_z l_f : Bool) (l : List PV) (a_D a_U : Int) (k : Res -> Option Res) : JL tau F91 Try.f91 (Try.f91.body.get!) JpL [.ro, .ro] 0 [.ro 42 l_z l_f l, .st 42 [.sc (.int .i64 a_D), .sc (.int .i64 a_U)]] [] k = g91 f l_z l_f l a_D a_U k := by kernel_rfl
theorem JCH (f : Nat) : Je (Try.f91.body.get!) JpL = [] := by kernel_rfl
theorem JCI (f : Nat) : ∀ q ∈ Je (Try.f91.body.get!) JpL, q.Ok tau Try.prog 0 := by
 rw [JCH f]; intro q hq; cases hq
theorem Jzu : Try.prog.funcs[91]? = some Try.f91 := by kernel_rfl
theorem Jzv : Try.f91.body = some (Try.f91.body.get!) := by kernel_rfl
theorem JCJ : Enters Try.prog 91 := enters_of Jzu (by kernel_rfl) Jzv
def JmO : List PV -> List Ent -> (Res -> Option Res) -> Option Res
 | [.ro 42 l_z l_f l, .st 42 [.sc (.int .i64 a_D), .sc (.int .i64 a_U)]], [], k => g91 0 l_z l_f l a_D a_U k
 | _, _, _ => none
def s91 : Sig := { own := [], run := JmO }
theorem JCK : Jh tau Try.prog 91 s91 := JY Jq Jus Js Jzu Jzv JpL [.ro, .ro] 0 [] JmO (JCI 0) fun xs es k res hr => by
 unfold JmO at hr
 split at hr
 · exact ⟨rfl, 0, (e91 0 _ _ _ _ _  _).trans hr⟩
 · cases hr
-- FN people.Has | people.Add | people.Remove
def zOk : Bool -> List PV -> Bool := hid fun z l => !z || l.isEmpty
theorem Jba {z : Bool} {l : List PV} : zOk z l = true ↔ (z = true -> l = []) := by
 rw [zOk, hid_eq]
 cases z <;> simp
theorem Jcg {l : List PV} (h : pOk l = true) : G5 l = true := by
 obtain ⟨h1, _, h3⟩ := Q1.1 h
 exact V9.2 ⟨h1, by omega⟩
theorem JjG {z : Bool} {l : List PV} (hz : z = true -> l = []) (hl : l.length <= 1000) (e : Int) (k : Res -> Option Res) : (bif z then k ⟨.tup [.ro 42 true true [], .sc (.int .i64 e)], [], []⟩ else bif Jf (0 + l.length) 16 && true then k ⟨.tup [.ro 42 false false (List.take (0 + l.length) l), .sc (.int .i64 e)], [], []⟩ else none) = k ⟨.tup [.ro 42 z z l, .sc (.int .i64 e)], [], []⟩ := by
 cases z with
 | true => rw [hz rfl]; rfl
 | false =>
  refine (Jj rfl).trans ((Ja (by simp [Jf]; omega)).trans ?_)
  rw [List.take_of_length_le (by omega)]
def Jh7 : List PV -> List Ent -> (Res -> Option Res) -> Option Res
 | [.ro 42 z f l, .st 42 [.sc (.int .i64 d), .sc (.int .i64 u)]], [], k => bif pOk l then k ⟨.sc (.bool (hasP ⟨l, ⟨d, u⟩⟩)), [], []⟩ else none
 | _, _, _ => none
def Jzw : Sig := { own := [], run := Jh7 }
theorem Jzx : Jh tau Try.prog 39 Jzw := JCA.of fun xs es k res hr => by
 change Jh7 xs es k = some res at hr
 unfold Jh7 at hr
 split at hr
 · rename_i z f l d u
   obtain ⟨hc, hr⟩ := JI hr
   refine Eq.trans ?_ hr
   show g39 0 z f l d u k = _
   unfold g39
   rw [JmE]
   exact Ja (Jcg hc)
 · cases hr
def Jh8 : List PV -> List Ent -> (Res -> Option Res) -> Option Res
 | [.ro 42 z f l, .st 42 [.sc (.int .i64 d), .sc (.int .i64 u)]], [], k => bif pOk l && zOk z l then k ⟨.tup [.ro 42 (adF ⟨l, ⟨d, u⟩⟩ && z) (adF ⟨l, ⟨d, u⟩⟩ && z) (adL ⟨l, ⟨d, u⟩⟩), .sc (.int .i64 (adE ⟨l, ⟨d, u⟩⟩))], [], []⟩ else none
 | _, _, _ => none
def Jzy : Sig := { own := [], run := Jh8 }
theorem Jut (z f : Bool) (l : List PV) (d u : Int) (h : pOk l = true) (hz : z = true -> l = []) (k : Res -> Option Res) : g90 0 z f l d u k = k ⟨.tup [.ro 42 (adF ⟨l, ⟨d, u⟩⟩ && z) (adF ⟨l, ⟨d, u⟩⟩ && z) (adL ⟨l, ⟨d, u⟩⟩), .sc (.int .i64 (adE ⟨l, ⟨d, u⟩⟩))], [], []⟩ := by
 obtain ⟨h1, h2, h3⟩ := Q1.1 h
 unfold g90
 rw [JeG, Jud, Jb9, Jml]
 simp only [XR h2]
 unfold G6
 refine (Ja (Jcg h)).trans ?_
 cases hu : inA [d, 2, u, 7] with
 | false => exact (Ja rfl).trans (JjG hz (by omega) 1 k)
 | true =>
  refine (Jj rfl).trans ?_
  cases hh : hasL l ⟨d, u⟩ with
  | true => exact (Ja rfl).trans (JjG hz (by omega) 12 k)
  | false =>
   refine (Jj rfl).trans ?_
   by_cases h8 : l.length >= 8
   · refine (Ja (by simp [zi]; omega)).trans ((JjG hz (by omega) 4 k).trans ?_)
     simp only [decide_eq_true h8, Bool.not_true, cond_false, cond_true]; rfl
   · refine (Jj (by simp [zi]; omega)).trans ?_
     simp only [decide_eq_false h8, Bool.not_true, cond_false]
     have hc := Ja7 l ⟨d, u⟩
     rw [JeF]
     simp only [Int.toNat_natCast]
     have e0 : List.take l.length l = l := List.take_length
     have hfl : ∀ (a b c e x y : Bool), Jv [.ro 42 a b (List.take (Wd l ⟨d, u⟩) l), .ro 42 x y [.st 42 [.sc (.int .i64 d), .sc (.int .i64 u)]], .ro 42 c e (List.drop (Wd l ⟨d, u⟩) l)] = Gx l ⟨d, u⟩ := fun _ _ _ _ _ _ => by
      simp only [WV, V3, PV.els, List.append_nil]; rfl
     have hil := ZC l ⟨d, u⟩
     have hne : (Gx l ⟨d, u⟩).isEmpty = false := by
      cases hx : Gx l ⟨d, u⟩ with
      | nil => rw [hx] at hil; simp at hil
      | cons _ _ => rfl
     simp only [e0, hfl, List.take_length, hne, Ent.nil]
     exact (Ja (by simp; omega)).trans ((Ja (by simp; omega)).trans (Ja (by simp; omega)))
theorem Jzz : Jh tau Try.prog 90 Jzy := JCG.of fun xs es k res hr => by
 change Jh8 xs es k = some res at hr
 unfold Jh8 at hr
 split at hr
 · rename_i z f l d u
   obtain ⟨hc, hr⟩ := JI hr
   rw [Bool.and_eq_true, Jba] at hc
   exact (Jut z f l d u hc.1 hc.2 k).trans hr
 · cases hr
def Jh9 : List PV -> List Ent -> (Res -> Option Res) -> Option Res
 | [.ro 42 z f l, .st 42 [.sc (.int .i64 d), .sc (.int .i64 u)]], [], k => bif pOk l && zOk z l then k ⟨.tup [.ro 42 (rmZ ⟨l, ⟨d, u⟩⟩ z) (rmF ⟨l, ⟨d, u⟩⟩ z) (rmL ⟨l, ⟨d, u⟩⟩), .sc (.int .i64 (rmE ⟨l, ⟨d, u⟩⟩))], [], []⟩ else none
 | _, _, _ => none
def JzA : Sig := { own := [], run := Jh9 }
theorem Juu (z f : Bool) (l : List PV) (d u : Int) (h : pOk l = true) (hz : z = true -> l = []) (k : Res -> Option Res) : g91 0 z f l d u k = k ⟨.tup [.ro 42 (rmZ ⟨l, ⟨d, u⟩⟩ z) (rmF ⟨l, ⟨d, u⟩⟩ z) (rmL ⟨l, ⟨d, u⟩⟩), .sc (.int .i64 (rmE ⟨l, ⟨d, u⟩⟩))], [], []⟩ := by
 obtain ⟨h1, h2, h3⟩ := Q1.1 h
 unfold g91
 rw [JeG, Jmm, G7, Jmn, Jue]
 simp only [XR h2]
 unfold Jpi
 refine (Ja (Jcg h)).trans ?_
 cases hh : hasL l ⟨d, u⟩ with
 | false => exact (Ja rfl).trans (JjG hz (by omega) 2 k)
 | true =>
  refine (Jj rfl).trans ?_
  have hf : VH l ⟨d, u⟩ = true := by rw [XR h2]; exact hh
  have hc := Ja7 l ⟨d, u⟩
  have hlt : Wd l ⟨d, u⟩ < l.length := by
   unfold VH at hf
   rw [Bool.and_eq_true, Nat.blt_eq] at hf
   exact hf.1
  rw [JeF]
  have w1 : IntKind.i64.wrap ((Wd l ⟨d, u⟩ : Int) + 1) = ((Wd l ⟨d, u⟩ + 1 : Nat) : Int) := by rw [wrap_i64 (by omega) (by omega)]; omega
  simp only [w1, Int.toNat_natCast]
  have e0 : List.take l.length l = l := List.take_length
  have hfl : ∀ (a b c e : Bool), Jv [.ro 42 a b (List.take (Wd l ⟨d, u⟩) l), .ro 42 c e (List.drop (Wd l ⟨d, u⟩ + 1) l)] = rmA l ⟨d, u⟩ := fun _ _ _ _ => by
   simp only [WV, V3, PV.els, List.append_nil]; exact JjC h2 hf
  have hrl : (rmA l ⟨d, u⟩).length <= 8 := by
   have := List.length_filter_le (fun p => !eqA (av p) ⟨d, u⟩) l
   unfold rmA; omega
  simp only [e0, hfl, List.take_length, Ent.nil]
  exact (Ja (by simp; omega)).trans ((Ja (by simp; omega)).trans (Ja (by simp; omega)))
theorem JzB : Jh tau Try.prog 91 JzA := JCK.of fun xs es k res hr => by
 change Jh9 xs es k = some res at hr
 unfold Jh9 at hr
 split at hr
 · rename_i z f l d u
   obtain ⟨hc, hr⟩ := JI hr
   rw [Bool.and_eq_true, Jba] at hc
   exact (Juu z f l d u hc.1 hc.2 k).trans hr
 · cases hr
def JzC : Fns := F0
theorem JpM : Jy tau Try.prog JzC := JE
def JjH : An := (.seq .leaf (.seq (.seq .leaf (.cond (.seq .leaf .leaf) .leaf)) (.seq .leaf .leaf)))
def JzD (f : Nat) (y0 c_N : Int) (c_S : ByteArray) (k : Res -> Option Res) : Option Res := bif y0 == 2 then k (Res.mk (.sc (.int .i64 (zi c_S.size))) [] []) else k (Res.mk (.sc (.int .i64 c_N)) [] [])
theorem JCL (f : Nat) (y0 c_N : Int) (c_S : ByteArray) (k : Res -> Option Res) : JL tau JzC Try.f126 (Try.f126.body.get!) JjH [.ro] 0 [.st 113 [.sc (.int .i64 y0), .sc (.int .i64 c_N), .sc (.string c_S)]] [] k = JzD f y0 c_N c_S k := by kernel_rfl
theorem JzE (f : Nat) : Je (Try.f126.body.get!) JjH = [] := by kernel_rfl
theorem JzF (f : Nat) : ∀ q ∈ Je (Try.f126.body.get!) JjH, q.Ok tau Try.prog 0 := by
 rw [JzE f]; intro q hq; cases hq
theorem JrQ : Try.prog.funcs[126]? = some Try.f126 := by kernel_rfl
theorem JrR : Try.f126.body = some (Try.f126.body.get!) := by kernel_rfl
theorem JrS : Enters Try.prog 126 := enters_of JrQ (by kernel_rfl) JrR
def Jia : List PV -> List Ent -> (Res -> Option Res) -> Option Res
 | [.st 113 [.sc (.int .i64 y0), .sc (.int .i64 c_N), .sc (.string c_S)]], [], k => JzD 0 y0 c_N c_S k
 | _, _, _ => none
def Juv : Sig := { own := [], run := Jia }
theorem JrT : Jh tau Try.prog 126 Juv := JY Jq JpM Js JrQ JrR JjH [.ro] 0 [] Jia (JzF 0) fun xs es k res hr => by
 unfold Jia at hr
 split at hr
 · exact ⟨rfl, 0, (JCL 0 _ _ _  _).trans hr⟩
 · cases hr
def Jcy : Nat := 39
def JmP : Fns := JH 126 Juv (F0)
theorem JjI : Jy tau Try.prog JmP := (JE).add JrT JrS
def Jae : Code := Qn (Try.f125.body.get!) [1, 1, 0, 1, 0, 0]
def WQ : Nm := [(3, .any), (7, .any), (8, .any), (9, .any)]
def Xw : Nm := [(3, .any)]
def Jch : An := (.seq .leaf (.seq (.cond .leaf .leaf) (.seq (.block none (.seq .leaf (.seq .leaf (.seq .leaf (.block none (.seq .leaf (.cond .leaf (.seq .leaf (.cond .leaf (.seq .leaf (.cond .leaf .leaf))))))))))) .leaf)))
def JjJ (r0 : QV) : An := (.seq .leaf (.seq .leaf (.seq (.seq .leaf (.block none (.sum WQ Jcy r0))) (.seq .leaf .leaf))))
def ZG (f : Nat) (rc : Nat -> Nat -> Bool -> Bool -> List PV -> Int -> Int -> Option Res) (k0 : Nat -> Nat -> Option Res) (v0 v1 : Nat) (v2 v3 : Bool) (v4 : List PV) (v5 v6 : Int) : Option Res := bif decide (v6 < v5) then bif decide (0 <= v6) && decide (v6 < zi v4.length) && (PV.isSt 113 #[Field.mk "Kind" 3 0 false "" "" 0, Field.mk "N" 3 1 false "" "" 8, Field.mk "S" 9 2 false "" "" 16].size (v4.getD v6.toNat PV.top) && (PV.isInt IntKind.i64 (PV.child 0 (v4.getD v6.toNat PV.top)) && (PV.isInt IntKind.i64 (PV.child (0 + 1) (v4.getD v6.toNat PV.top)) && ((PV.child (0 + 1 + 1) (v4.getD v6.toNat PV.top)).isStr && true)))) && true then bif (PV.child 0 (v4.getD v6.toNat PV.top)).int == 2 then bif (PV.child 0 (v4.getD v6.toNat PV.top)).int == 1 then bif (FloatKind.f64.format.add (PV.sc (Value.complex FloatKind.f64 v0 v1)).cre (PV.sc (Value.complex FloatKind.f64 (fOf FloatKind.f64 (zi (PV.child (0 + 1 + 1) (v4.getD v6.toNat PV.top)).str.size)) (fOf FloatKind.f64 (zi (PV.child (0 + 1 + 1) (v4.getD v6.toNat PV.top)).str.size)))).cre).isSome && (FloatKind.f64.format.add (PV.sc (Value.complex FloatKind.f64 v0 v1)).cim (PV.sc (Value.complex FloatKind.f64 (fOf FloatKind.f64 (zi (PV.child (0 + 1 + 1) (v4.getD v6.toNat PV.top)).str.size)) (fOf FloatKind.f64 (zi (PV.child (0 + 1 + 1) (v4.getD v6.toNat PV.top)).str.size)))).cim).isSome && true then rc ((FloatKind.f64.format.add (PV.sc (Value.complex FloatKind.f64 v0 v1)).cre (PV.sc (Value.complex FloatKind.f64 (fOf FloatKind.f64 (zi (PV.child (0 + 1 + 1) (v4.getD v6.toNat PV.top)).str.size)) (fOf FloatKind.f64 (zi (PV.child (0 + 1 + 1) (v4.getD v6.toNat PV.top)).str.size)))).cre).getD 0) ((FloatKind.f64.format.add (PV.sc (Value.complex FloatKind.f64 v0 v1)).cim (PV.sc (Value.complex FloatKind.f64 (fOf FloatKind.f64 (zi (PV.child (0 + 1 + 1) (v4.getD v6.toNat PV.top)).str.size)) (fOf FloatKind.f64 (zi (PV.child (0 + 1 + 1) (v4.getD v6.toNat PV.top)).str.size)))).cim).getD 0) v2 v3 v4 v5 (IntKind.i64.wrap (v6 + 1)) else none else bif (PV.child 0 (v4.getD v6.toNat PV.top)).int == 2 then bif (FloatKind.f64.format.add (PV.sc (Value.complex FloatKind.f64 v0 v1)).cre (PV.sc (Value.complex FloatKind.f64 0 (fOf FloatKind.f64 (zi (PV.child (0 + 1 + 1) (v4.getD v6.toNat PV.top)).str.size)))).cre).isSome && (FloatKind.f64.format.add (PV.sc (Value.complex FloatKind.f64 v0 v1)).cim (PV.sc (Value.complex FloatKind.f64 0 (fOf FloatKind.f64 (zi (PV.child (0 + 1 + 1) (v4.getD v6.toNat PV.top)).str.size)))).cim).isSome && true then rc ((FloatKind.f64.format.add (PV.sc (Value.complex FloatKind.f64 v0 v1)).cre (PV.sc (Value.complex FloatKind.f64 0 (fOf FloatKind.f64 (zi (PV.child (0 + 1 + 1) (v4.getD v6.toNat PV.top)).str.size)))).cre).getD 0) ((FloatKind.f64.format.add (PV.sc (Value.complex FloatKind.f64 v0 v1)).cim (PV.sc (Value.complex FloatKind.f64 0 (fOf FloatKind.f64 (zi (PV.child (0 + 1 + 1) (v4.getD v6.toNat PV.top)).str.size)))).cim).getD 0) v2 v3 v4 v5 (IntKind.i64.wrap (v6 + 1)) else none else bif (PV.child 0 (v4.getD v6.toNat PV.top)).int == 3 then bif (FloatKind.f64.format.add (PV.sc (Value.complex FloatKind.f64 v0 v1)).cre (PV.sc (Value.complex FloatKind.f64 (fOf FloatKind.f64 (zi (PV.child (0 + 1 + 1) (v4.getD v6.toNat PV.top)).str.size)) 0)).cre).isSome && (FloatKind.f64.format.add (PV.sc (Value.complex FloatKind.f64 v0 v1)).cim (PV.sc (Value.complex FloatKind.f64 (fOf FloatKind.f64 (zi (PV.child (0 + 1 + 1) (v4.getD v6.toNat PV.top)).str.size)) 0)).cim).isSome && true then rc ((FloatKind.f64.format.add (PV.sc (Value.complex FloatKind.f64 v0 v1)).cre (PV.sc (Value.complex FloatKind.f64 (fOf FloatKind.f64 (zi (PV.child (0 + 1 + 1) (v4.getD v6.toNat PV.top)).str.size)) 0)).cre).getD 0) ((FloatKind.f64.format.add (PV.sc (Value.complex FloatKind.f64 v0 v1)).cim (PV.sc (Value.complex FloatKind.f64 (fOf FloatKind.f64 (zi (PV.child (0 + 1 + 1) (v4.getD v6.toNat PV.top)).str.size)) 0)).cim).getD 0) v2 v3 v4 v5 (IntKind.i64.wrap (v6 + 1)) else none else rc v0 v1 v2 v3 v4 v5 (IntKind.i64.wrap (v6 + 1)) else bif (PV.child 0 (v4.getD v6.toNat PV.top)).int == 1 then bif (FloatKind.f64.format.add (PV.sc (Value.complex FloatKind.f64 v0 v1)).cre (PV.sc (Value.complex FloatKind.f64 (fOf FloatKind.f64 (PV.child (0 + 1) (v4.getD v6.toNat PV.top)).int) (fOf FloatKind.f64 (PV.child (0 + 1) (v4.getD v6.toNat PV.top)).int))).cre).isSome && (FloatKind.f64.format.add (PV.sc (Value.complex FloatKind.f64 v0 v1)).cim (PV.sc (Value.complex FloatKind.f64 (fOf FloatKind.f64 (PV.child (0 + 1) (v4.getD v6.toNat PV.top)).int) (fOf FloatKind.f64 (PV.child (0 + 1) (v4.getD v6.toNat PV.top)).int))).cim).isSome && true then rc ((FloatKind.f64.format.add (PV.sc (Value.complex FloatKind.f64 v0 v1)).cre (PV.sc (Value.complex FloatKind.f64 (fOf FloatKind.f64 (PV.child (0 + 1) (v4.getD v6.toNat PV.top)).int) (fOf FloatKind.f64 (PV.child (0 + 1) (v4.getD v6.toNat PV.top)).int))).cre).getD 0) ((FloatKind.f64.format.add (PV.sc (Value.complex FloatKind.f64 v0 v1)).cim (PV.sc (Value.complex FloatKind.f64 (fOf FloatKind.f64 (PV.child (0 + 1) (v4.getD v6.toNat PV.top)).int) (fOf FloatKind.f64 (PV.child (0 + 1) (v4.getD v6.toNat PV.top)).int))).cim).getD 0) v2 v3 v4 v5 (IntKind.i64.wrap (v6 + 1)) else none else bif (PV.child 0 (v4.getD v6.toNat PV.top)).int == 2 then bif (FloatKind.f64.format.add (PV.sc (Value.complex FloatKind.f64 v0 v1)).cre (PV.sc (Value.complex FloatKind.f64 0 (fOf FloatKind.f64 (PV.child (0 + 1) (v4.getD v6.toNat PV.top)).int))).cre).isSome && (FloatKind.f64.format.add (PV.sc (Value.complex FloatKind.f64 v0 v1)).cim (PV.sc (Value.complex FloatKind.f64 0 (fOf FloatKind.f64 (PV.child (0 + 1) (v4.getD v6.toNat PV.top)).int))).cim).isSome && true then rc ((FloatKind.f64.format.add (PV.sc (Value.complex FloatKind.f64 v0 v1)).cre (PV.sc (Value.complex FloatKind.f64 0 (fOf FloatKind.f64 (PV.child (0 + 1) (v4.getD v6.toNat PV.top)).int))).cre).getD 0) ((FloatKind.f64.format.add (PV.sc (Value.complex FloatKind.f64 v0 v1)).cim (PV.sc (Value.complex FloatKind.f64 0 (fOf FloatKind.f64 (PV.child (0 + 1) (v4.getD v6.toNat PV.top)).int))).cim).getD 0) v2 v3 v4 v5 (IntKind.i64.wrap (v6 + 1)) else none else bif (PV.child 0 (v4.getD v6.toNat PV.top)).int == 3 then bif (FloatKind.f64.format.add (PV.sc (Value.complex FloatKind.f64 v0 v1)).cre (PV.sc (Value.complex FloatKind.f64 (fOf FloatKind.f64 (PV.child (0 + 1) (v4.getD v6.toNat PV.top)).int) 0)).cre).isSome && (FloatKind.f64.format.add (PV.sc (Value.complex FloatKind.f64 v0 v1)).cim (PV.sc (Value.complex FloatKind.f64 (fOf FloatKind.f64 (PV.child (0 + 1) (v4.getD v6.toNat PV.top)).int) 0)).cim).isSome && true then rc ((FloatKind.f64.format.add (PV.sc (Value.complex FloatKind.f64 v0 v1)).cre (PV.sc (Value.complex FloatKind.f64 (fOf FloatKind.f64 (PV.child (0 + 1) (v4.getD v6.toNat PV.top)).int) 0)).cre).getD 0) ((FloatKind.f64.format.add (PV.sc (Value.complex FloatKind.f64 v0 v1)).cim (PV.sc (Value.complex FloatKind.f64 (fOf FloatKind.f64 (PV.child (0 + 1) (v4.getD v6.toNat PV.top)).int) 0)).cim).getD 0) v2 v3 v4 v5 (IntKind.i64.wrap (v6 + 1)) else none else rc v0 v1 v2 v3 v4 v5 (IntKind.i64.wrap (v6 + 1)) else none else k0 v0 v1
def YD (f : Nat) (k0 : Nat -> Nat -> Option Res) : Nat -> Nat -> Nat -> Bool -> Bool -> List PV -> Int -> Int -> Option Res
 | 0, _, _, _, _, _, _, _ => none
 | n + 1, v0, v1, v2, v3, v4, v5, v6 => ZG f (YD f k0 n) k0 v0 v1 v2 v3 v4 v5 v6
theorem JmQ (f : Nat) (k : Kont) (n v0 v1 : Nat) (v2 v3 : Bool) (v4 : List PV) (v5 v6 : Int) : Jp tau 0 WQ (fun s k => ev tau JmP 0 0 Jae (Jch ) s k) (n + 1) (Jc WQ Jcy [.sc (Value.complex FloatKind.f64 v0 v1), .ro 113 v2 v3 v4, .sc (.int .i64 v5), .sc (.int .i64 v6)] []) (Jt tau 0 Xw k) = ZG f (fun v0 v1 v2 v3 v4 v5 v6 => Jp tau 0 WQ (fun s k => ev tau JmP 0 0 Jae (Jch ) s k) n (Jc WQ Jcy [.sc (Value.complex FloatKind.f64 v0 v1), .ro 113 v2 v3 v4, .sc (.int .i64 v5), .sc (.int .i64 v6)] []) (Jt tau 0 Xw k)) (fun x0 x1 => k (Ex.exit 0) (Jc Xw Jcy [.sc (Value.complex FloatKind.f64 x0 x1)] [])) v0 v1 v2 v3 v4 v5 v6 := by kernel_rfl
theorem Jgi (f : Nat) (k : Kont) : ∀ (n v0 v1 : Nat) (v2 v3 : Bool) (v4 : List PV) (v5 v6 : Int), Jp tau 0 WQ (fun s k => ev tau JmP 0 0 Jae (Jch ) s k) n (Jc WQ Jcy [.sc (Value.complex FloatKind.f64 v0 v1), .ro 113 v2 v3 v4, .sc (.int .i64 v5), .sc (.int .i64 v6)] []) (Jt tau 0 Xw k) = YD f (fun x0 x1 => k (Ex.exit 0) (Jc Xw Jcy [.sc (Value.complex FloatKind.f64 x0 x1)] [])) n v0 v1 v2 v3 v4 v5 v6 | 0, _, _, _, _, _, _, _ => rfl | n + 1, v0, v1, v2, v3, v4, v5, v6 => (JmQ f k n v0 v1 v2 v3 v4 v5 v6).trans (congrArg (fun r => ZG f r (fun x0 x1 => k (Ex.exit 0) (Jc Xw Jcy [.sc (Value.complex FloatKind.f64 x0 x1)] [])) v0 v1 v2 v3 v4 v5 v6) (by funext v0 v1 v2 v3 v4 v5 v6; exact Jgi f k n v0 v1 v2 v3 v4 v5 v6))
def VK (f : Nat) : List PV -> List (Nat × Ent) -> Kont -> Option Res
 | [.sc (Value.complex FloatKind.f64 v0 v1), .ro 113 v2 v3 v4, .sc (.int .i64 v5),
 .sc (.int .i64 v6)], [], k => YD f (fun x0 x1 => k (Ex.exit 0) (Jc Xw Jcy [.sc (Value.complex FloatKind.f64 x0 x1)] [])) f v0 v1 v2 v3 v4 v5 v6
 | _, _, _ => none
theorem JpN (f : Nat) : Je Jae Jch = [] := by kernel_rfl
theorem JpO (f : Nat) : (Item.l Jae WQ Jcy (VK f)).Ok tau Try.prog 0 := JJ Jq JjI Js (x := Jch) (nm2 := Xw) (Jl _ _ (by rw [JpN f]; intro q hq; cases hq)) fun vs hp k res hr => by
 unfold VK at hr
 split at hr
 · exact ⟨f, 0, (Jgi f _ f _ _ _ _ _ _ _ ).trans hr⟩
 · cases hr
def JzG (f : Nat) (o_z o_f : Bool) (o : List PV) (k : Res -> Option Res) : Option Res := YD f (fun x0_0 x1_0 => k (Res.mk (.sc (Value.complex FloatKind.f64 x0_0 x1_0)) [] [])) f (0) (0) o_z o_f o (zi o.length) (0)
theorem JCM (f : Nat) (o_z o_f : Bool) (o : List PV) (k : Res -> Option Res) : JL tau JmP Try.f125 (Try.f125.body.get!) (JjJ (VK f)) [.ro] 0 [.ro 113 o_z o_f o] [] k = JzG f o_z o_f o k := by kernel_rfl
theorem JzH (f : Nat) : Je (Try.f125.body.get!) (JjJ (VK f)) = [.l Jae WQ Jcy (VK f)] := by kernel_rfl
theorem JzI (f : Nat) : ∀ q ∈ Je (Try.f125.body.get!) (JjJ (VK f)), q.Ok tau Try.prog 0 := by
 rw [JzH f]; simp only [List.forall_mem_cons, List.not_mem_nil, false_implies, implies_true, and_true]; exact JpO f
theorem JrU : Try.prog.funcs[125]? = some Try.f125 := by kernel_rfl
theorem JrV : Try.f125.body = some (Try.f125.body.get!) := by kernel_rfl
theorem JzJ : Enters Try.prog 125 := enters_of JrU (by kernel_rfl) JrV
end
end Go.Proofs.Ythpmachmnoljeaa.Rx
noncomputable section
namespace Go.Proofs.Ythpmachmnoljeaa.Rx
open Go Ieee
set_option linter.unusedVariables false
set_option linter.unusedSimpArgs false

theorem JjK {m : Nat} (h : m ≠ 0) : 2 ^ m.log2 <= m := Nat.log2_self_le h
theorem JjL {m : Nat} : m < 2 ^ (m.log2 + 1) := Nat.lt_log2_self
theorem JpP {m k : Nat} (h0 : 2 ^ k <= m) (h1 : m < 2 ^ (k + 1)) : m.log2 = k := by
 have hm : m ≠ 0 := by have := Nat.two_pow_pos k; omega
 exact (Nat.log2_eq_iff hm).2 ⟨h0, h1⟩
theorem GB {m : Nat} (h : m ≠ 0) (k : Nat) : (m * 2 ^ k).log2 = m.log2 + k := by
 apply JpP
 · rw [Nat.pow_add]; exact Nat.mul_le_mul_right _ (JjK h)
 · have := JjL (m := m)
   rw [show m.log2 + k + 1 = (m.log2 + 1) + k from by omega, Nat.pow_add]
   exact Nat.mul_lt_mul_of_pos_right this (Nat.two_pow_pos k)
theorem JmR (w : Toward) (s : Bool) (n : Nat) : w.cut s n 0 = n := by
 unfold Toward.cut
 simp
 cases w <;> simp <;> omega
theorem JpQ (w : Toward) (s : Bool) (n k : Nat) : w.cut s (n * 2 ^ k) k = n := by
 by_cases hn : n = 0
 · subst hn
   unfold Toward.cut
   have : 0 < 1 <<< min k (Nat.log2 0 + 2) := by rw [Nat.one_shiftLeft]; exact Nat.two_pow_pos _
   cases w <;> simp <;> omega
 · unfold Toward.cut
   have hmin : min k ((n * 2 ^ k).log2 + 2) = k := by rw [GB hn]; omega
   have hp := Nat.two_pow_pos k
   have hg : 1 <<< min k ((n * 2 ^ k).log2 + 2) = 2 ^ k := by rw [hmin, Nat.one_shiftLeft]
   simp only [hg, Nat.mul_div_cancel _ hp, Nat.mul_mod_left]
   cases w <;> simp <;> omega
def fz (x : Int) : Nat := FloatKind.f64.nearest x
def shf (m : Nat) : Nat := 52 - m.log2
theorem JaL {m : Nat} (h0 : m ≠ 0) (h1 : m < 2 ^ 53) : 2 ^ 52 <= m * 2 ^ shf m /\ m * 2 ^ shf m < 2 ^ 53 := by
 have hL : m.log2 < 53 := (Nat.log2_lt h0).2 h1
 have e : m.log2 + shf m = 52 := by unfold shf; omega
 constructor
 · rw [← e, Nat.pow_add]; exact Nat.mul_le_mul_right _ (JjK h0)
 · rw [show 53 = (m.log2 + 1) + shf m from by omega, Nat.pow_add]
   exact Nat.mul_lt_mul_of_pos_right JjL (Nat.two_pow_pos _)
theorem lp : Ieee.double.leastPlace = -1074 := by decide
theorem GC (neg : Bool) {m : Nat} (h0 : m ≠ 0) (h1 : m < 2 ^ 53) (k : Nat) :
  Ieee.double.nearest neg (m * 2 ^ k) (-(k : Int)) = Ieee.double.word neg ((1074 + 1022 - 1022 - shf m) * 2 ^ 52 + m * 2 ^ shf m) := by
 have hL : m.log2 < 53 := (Nat.log2_lt h0).2 h1
 have hb := JaL h0 h1
 have hmk : m * 2 ^ k ≠ 0 := Nat.mul_ne_zero h0 (Nat.ne_of_gt (Nat.two_pow_pos k))
 have hlast : max (-(k : Int) + ((m * 2 ^ k).log2 : Int) - ((Ieee.double.fractionBits : Nat) : Int)) Ieee.double.leastPlace = -((shf m : Nat) : Int) := by
  rw [GB h0, lp]; unfold shf
  show max (-(k : Int) + ((m.log2 + k : Nat) : Int) - ((52 : Nat) : Int)) (-1074) = _
  omega
 unfold Format.nearest
 rw [if_neg hmk]
 simp only [hlast]
 have hkept : Toward.even.cut neg ((m * 2 ^ k) <<< (-(k : Int) - -((shf m : Nat) : Int)).toNat) (-((shf m : Nat) : Int) - -(k : Int)).toNat = m * 2 ^ shf m := by
  by_cases hk : k <= shf m
  · have e1 : (-((shf m : Nat) : Int) - -(k : Int)).toNat = 0 := by omega
    have e2 : (-(k : Int) - -((shf m : Nat) : Int)).toNat = shf m - k := by omega
    rw [e1, e2, JmR, Nat.shiftLeft_eq, Nat.mul_assoc, ← Nat.pow_add]
    congr 2; omega
  · have e1 : (-((shf m : Nat) : Int) - -(k : Int)).toNat = k - shf m := by omega
    have e2 : (-(k : Int) - -((shf m : Nat) : Int)).toNat = 0 := by omega
    rw [e1, e2, Nat.shiftLeft_zero, show m * 2 ^ k = (m * 2 ^ shf m) * 2 ^ (k - shf m) from by rw [Nat.mul_assoc, ← Nat.pow_add]; congr 2; omega]
    exact JpQ _ _ _ _
 rw [hkept, lp]
 have e3 : (-((shf m : Nat) : Int) - -1074).toNat = 1074 - shf m := by omega
 have hi : Ieee.double.infRung = 2047 * 2 ^ 52 := by decide
 have hbn : Ieee.double.binade = 2 ^ 52 := by decide
 rw [e3, hi, hbn]
 have h53 : (2 : Nat) ^ 53 = 2 * 2 ^ 52 := by decide
 have hB : 0 < (2 : Nat) ^ 52 := Nat.two_pow_pos _
 generalize m * 2 ^ shf m = kp at *
 generalize shf m = sh at *
 rw [h53] at hb
 generalize (2 : Nat) ^ 52 = B at *
 have e4 : 1074 + 1022 - 1022 - sh = 1074 - sh := by omega
 rw [e4]
 congr 1
 have : (1074 - sh) * B <= 1074 * B := Nat.mul_le_mul_right _ (by omega)
 have : 1074 * B + 2 * B <= 2047 * B := by rw [← Nat.add_mul]; exact Nat.mul_le_mul_right _ (by omega)
 exact Nat.min_eq_left (by omega)
theorem JjM {x : Int} (h0 : x ≠ 0) (h1 : x.natAbs < 2 ^ 53) : fz x = Ieee.double.word (decide (x < 0)) ((1074 - shf x.natAbs) * 2 ^ 52 + x.natAbs * 2 ^ shf x.natAbs) := by
 have := GC (decide (x < 0)) (m := x.natAbs) (by omega) h1 0
 simp only [Nat.pow_zero, Nat.mul_one] at this
 exact this
theorem JpR {x : Int} (h0 : x ≠ 0) (h1 : x.natAbs < 2 ^ 53) : Ieee.double.read (fz x) = .number (decide (x < 0)) (x.natAbs * 2 ^ shf x.natAbs) (-((shf x.natAbs : Nat) : Int)) := by
 have hb := JaL (m := x.natAbs) (by omega) h1
 have hs : shf x.natAbs <= 52 := by unfold shf; omega
 rw [JjM h0 h1]
 generalize hm : x.natAbs * 2 ^ shf x.natAbs = kp at *
 generalize shf x.natAbs = s at *
 have hsw : Ieee.double.signWeight = 2 ^ 63 := by decide
 have hi : Ieee.double.infRung = 2047 * 2 ^ 52 := by decide
 have hbn : Ieee.double.binade = 2 ^ 52 := by decide
 have h53 : (2 : Nat) ^ 53 = 2 * 2 ^ 52 := by decide
 have h63 : (2 : Nat) ^ 63 = 2048 * 2 ^ 52 := by decide
 have hpos : 0 < (2 : Nat) ^ 52 := Nat.two_pow_pos _
 generalize (2 : Nat) ^ 52 = B at *
 have hr : (1074 - s) * B + kp < 2047 * B := by
  have : (1074 - s) * B <= 1074 * B := Nat.mul_le_mul_right _ (by omega)
  omega
 have hdiv : ((1074 - s) * B + kp) / B = 1074 - s + 1 := by
  rw [Nat.mul_comm, Nat.mul_add_div hpos]
  congr 1
  apply Nat.div_eq_of_lt_le <;> omega
 have hmod : ((1074 - s) * B + kp) % B = kp - B := by
  rw [Nat.mul_comm, Nat.mul_add_mod]
  rw [Nat.mod_eq_sub_mod (by omega), Nat.mod_eq_of_lt (by omega)]
 have hge : ¬ ((1074 - s) * B + kp < B) := by omega
 unfold Format.read Format.word
 rw [hsw, h63, hi, hbn, lp]
 have key : ∀ neg : Bool, ((if neg = true then 2048 * B + ((1074 - s) * B + kp) else (1074 - s) * B + kp) / (2048 * B) % 2 == 1) = neg /\ (if neg = true then 2048 * B + ((1074 - s) * B + kp) else (1074 - s) * B + kp) % (2048 * B) = (1074 - s) * B + kp := by
  intro neg
  have hlt : (1074 - s) * B + kp < 2048 * B := by omega
  cases neg with
  | true =>
   simp only [if_true]
   have hp : 0 < 2048 * B := by omega
   rw [Nat.add_div_left _ hp, Nat.div_eq_of_lt hlt, Nat.add_mod_left, Nat.mod_eq_of_lt hlt]
   exact ⟨rfl, rfl⟩
  | false =>
   simp only [Bool.false_eq_true, if_false]
   rw [Nat.div_eq_of_lt hlt, Nat.mod_eq_of_lt hlt]
   exact ⟨rfl, rfl⟩
 have k1 := key (decide (x < 0))
 simp only [k1.1, k1.2]
 rw [if_neg hge, if_pos hr, hmod, hdiv]
 congr 1 <;> omega
theorem JpS : Ieee.double.read (fz 0) = .number false 0 (-1074) := by decide
def Jci (d : Datum) (x : Int) : Prop := ∃ s m k, d = .number s m (-((k : Nat) : Int)) /\ m = x.natAbs * 2 ^ k /\ s = decide (x < 0)
theorem JpT (k : Nat) : 0 = (0 : Int).natAbs * 2 ^ k := by rw [Int.natAbs_zero, Nat.zero_mul]
theorem ZY {x : Int} (h1 : x.natAbs < 2 ^ 53) : Jci (Ieee.double.read (fz x)) x := by
 by_cases h0 : x = 0
 · subst h0; exact ⟨false, 0, 1074, JpS, JpT 1074, by decide⟩
 · exact ⟨_, _, _, JpR h0 h1, rfl, rfl⟩
theorem Wj {x : Int} {s : Bool} {m k : Nat} (hm : m = x.natAbs * 2 ^ k) (hs : s = decide (x < 0)) (u : Nat) : signed s m u = x * 2 ^ (k + u) := by
 subst hm hs
 unfold signed
 rw [Nat.shiftLeft_eq, Nat.mul_assoc, ← Nat.pow_add]
 have : ((x.natAbs * 2 ^ (k + u) : Nat) : Int) = (x.natAbs : Int) * 2 ^ (k + u) := by
   rw [Int.natCast_mul, Int.natCast_pow]; rfl
 by_cases h : x < 0
 · rw [if_pos (by simpa using h), this, ← Int.neg_mul]
   congr 1; omega
 · rw [if_neg (by simpa using h), this]
   congr 1; omega
theorem JjN (k : Nat) : (0 : Int) < 2 ^ k := by
 have := Nat.two_pow_pos k
 have h : ((2 ^ k : Nat) : Int) = 2 ^ k := by rw [Int.natCast_pow]; rfl
 omega
theorem Jib {d e : Datum} {x y : Int} (h : Jci d x) (g : Jci e y) (hxy : (x + y).natAbs < 2 ^ 53) : (d.sum e).map Ieee.double.write = some (fz (x + y)) := by
 obtain ⟨s, m, k, rfl, rfl, hs⟩ := h
 obtain ⟨t, n, j, rfl, rfl, ht⟩ := g
 unfold Datum.sum
 simp only [Option.map_some]
 have hbase : min (-(k : Int)) (-(j : Int)) = -((max k j : Nat) : Int) := by omega
 have e1 : (-(k : Int) - min (-(k : Int)) (-(j : Int))).toNat = max k j - k := by omega
 have e2 : (-(j : Int) - min (-(k : Int)) (-(j : Int))).toNat = max k j - j := by omega
 have f1 : k + (max k j - k) = max k j := by omega
 have f2 : j + (max k j - j) = max k j := by omega
 rw [hbase] at e1 e2
 simp only [hbase, e1, e2, Wj rfl hs, Wj rfl ht, f1, f2]
 rw [← Int.add_mul]
 have hp := JjN (max k j)
 have hna : ((x + y) * 2 ^ max k j).natAbs = (x + y).natAbs * 2 ^ max k j := by
   rw [Int.natAbs_mul, Int.natAbs_pow]; rfl
 by_cases h0 : x + y = 0
 · rw [h0]
   simp only [Int.zero_mul, if_true]
   have hst : (s && t) = false := by
    subst hs ht
    by_cases hx : x < 0
    · have : ¬ y < 0 := by omega
      simp [this]
    · simp [hx]
   rw [hst]; simp only [Format.write, Format.nearest, Int.natAbs_zero, if_true]
   rfl
 · have hne : (x + y) * 2 ^ max k j ≠ 0 := Int.mul_ne_zero h0 (by omega)
   rw [if_neg hne, hna]
   have hneg : decide ((x + y) * 2 ^ max k j < 0) = decide (x + y < 0) := by
    by_cases hlt : x + y < 0
    · have : (x + y) * 2 ^ max k j < 0 := Int.mul_neg_of_neg_of_pos hlt hp
      simp [hlt, this]
    · have : ¬ (x + y) * 2 ^ max k j < 0 := by
       have := Int.mul_nonneg (show 0 <= x + y by omega) (Int.le_of_lt hp); omega
      simp [hlt, this]
   rw [hneg]
   simp only [Format.write]
   rw [GC _ (by omega) hxy, JjM h0 hxy]
theorem JeM {d e : Datum} {x y : Int} (h : Jci d x) (g : Jci e y) : d.order e = some (compare x y) := by
 obtain ⟨s, m, k, rfl, rfl, hs⟩ := h
 obtain ⟨t, n, j, rfl, rfl, ht⟩ := g
 unfold Datum.order
 have e1 : (-(k : Int) - min (-(k : Int)) (-(j : Int))).toNat = max k j - k := by omega
 have e2 : (-(j : Int) - min (-(k : Int)) (-(j : Int))).toNat = max k j - j := by omega
 have f1 : k + (max k j - k) = max k j := by omega
 have f2 : j + (max k j - j) = max k j := by omega
 simp only [e1, e2, Wj rfl hs, Wj rfl ht, f1, f2]
 have hp := JjN (max k j)
 congr 1
 simp only [compare, compareOfLessAndEq]
 have l1 : (x * 2 ^ max k j < y * 2 ^ max k j) ↔ x < y := ⟨fun h => Int.lt_of_mul_lt_mul_right h (Int.le_of_lt hp), fun h => Int.mul_lt_mul_of_pos_right h hp⟩
 have l2 : (x * 2 ^ max k j = y * 2 ^ max k j) ↔ x = y := ⟨fun h => Int.eq_of_mul_eq_mul_right (by omega) h, fun h => by rw [h]⟩
 simp only [l1, l2]
theorem Juw {x y : Int} (hx : x.natAbs < 2 ^ 53) (hy : y.natAbs < 2 ^ 53) (hxy : (x + y).natAbs < 2 ^ 53) : FloatKind.f64.format.add (fz x) (fz y) = some (fz (x + y)) :=
 Jib (ZY hx) (ZY hy) hxy
theorem Jcj {x y : Int} (hx : x.natAbs < 2 ^ 53) (hy : y.natAbs < 2 ^ 53) : FloatKind.f64.format.order (fz x) (fz y) = some (compare x y) := JeM (ZY hx) (ZY hy)
theorem JmS (x : Int) : fOf .f64 x = fz x := Jky .f64 x
end Go.Proofs.Ythpmachmnoljeaa.Rx
end

namespace Go.Proofs.Ythpmachmnoljeaa.Rx
noncomputable section
open Go
set_option linter.unusedVariables false
set_option linter.unusedSimpArgs false
set_option maxRecDepth 100000
set_option maxHeartbeats 0
-- FN op.sizes
theorem Jdx : fz 0 = 0 := by decide +kernel
theorem Jgj {a b : Int} (h0 : 0 <= a) (h1 : a <= 1000000) (g0 : 0 <= b) (g1 : b <= 1000000) : FloatKind.f64.format.add (fz a) (fz b) = some (fz (a + b)) :=
  Juw (by
      have : (2 : Nat) ^ 53 = 9007199254740992 := by decide
      rw [this]; omega) (by have : (2 : Nat) ^ 53 = 9007199254740992 := by decide
                            rw [this]; omega) (by have : (2 : Nat) ^ 53 = 9007199254740992 := by decide
                                                  rw [this]; omega)
theorem JzK {a : Int} (h0 : 0 <= a) (h1 : a <= 1000000) : FloatKind.f64.format.add (fz a) 0 = some (fz a) := by
 have := Jgj h0 h1 (Int.le_refl 0) (by decide)
 rwa [Jdx, Int.add_zero] at this
theorem JmT (l : List PV) (ha : aOk l = true) (f : Nat) (k0 : Nat -> Nat -> Option Res) (z fl : Bool) : ∀ (d i n : Nat) (a b : Int), i + d = l.length -> d < n -> 0 <= a -> a <= 120 * i -> 0 <= b -> b <= 120 * i ->
  YD f k0 n (fz a) (fz b) z fl l (zi l.length) (i : Int) = k0 (fz (a + inL (l.drop i))) (fz (b + outL (l.drop i)))
 | 0, i, n + 1, a, b, hi, hn, a0, a1, b0, b1 => by
   rw [List.drop_of_length_le (by omega)]
   simp only [YD, ZG, inL, outL, Int.add_zero]
   exact Jj (by simp [zi]; omega)
 | d + 1, i, n + 1, a, b, hi, hn, a0, a1, b0, b1 => by
   obtain ⟨h1, hl, _⟩ := Yx.1 ha
   have g1 : ((i : Int)).toNat = i := by omega
   have w1 : IntKind.i64.wrap ((i : Int) + 1) = ((i + 1 : Nat) : Int) := by rw [wrap_i64 (by omega) (by omega)]; omega
   have hc := JrA h1 (i := i) (by omega)
   unfold Jez at hc
   have hk := (Jb8 ha (i := i) (by omega)).2
   rw [Q9 (by omega)]
   simp only [YD, ZG, g1, w1]
   refine (Ja (by simp [zi]; omega)).trans ((Ja hc).trans ?_)
   generalize l.getD i .top = p at *
   have i1 := JeA hk
   have o1 := Ja6 hk
   have e1 : (PV.child 0 p).int = (cv p).kd := rfl
   have e2 : (PV.child (0 + 1) p).int = (cv p).n := rfl
   have e3 : (PV.child (0 + 1 + 1) p).str = (cv p).s := rfl
   have c1 : ∀ x y : Nat, (PV.sc (Value.complex FloatKind.f64 x y)).cre = x := fun _ _ => rfl
   have c2 : ∀ x y : Nat, (PV.sc (Value.complex FloatKind.f64 x y)).cim = y := fun _ _ => rfl
   simp only [e1, e2, e3, c1, c2, JmS, inL, outL, ← Int.add_assoc]
   have IH := fun a b => JmT l ha f k0 z fl d (i + 1) n a b (by omega) (by omega)
   rcases XP hk with ⟨q1, q2, q3, q4⟩ | ⟨q1, q2, q3, q4⟩
   · rcases q1 with q1 | q1
     · have ei : inC (cv p) = (cv p).n := by unfold inC; rw [q1]; rfl
       have eo : Wc (cv p) = (cv p).n := by unfold Wc; rw [q1]; rfl
       have r1 := Jgj (a := a) (b := (cv p).n) a0 (by omega) (by omega) (by omega)
       have r2 := Jgj (a := b) (b := (cv p).n) b0 (by omega) (by omega) (by omega)
       rw [ei, eo]
       simp only [q1, r1, r2, Option.isSome_some, Option.getD_some]
       exact (Jj rfl).trans ((Ja rfl).trans ((Ja rfl).trans (IH _ _ (by omega) (by omega) (by omega) (by omega))))
     · have ei : inC (cv p) = (cv p).n := by unfold inC; rw [q1]; rfl
       have eo : Wc (cv p) = 0 := by unfold Wc; rw [q1]; show ((cv p).s.size : Int) = 0; omega
       have r1 := Jgj (a := a) (b := (cv p).n) a0 (by omega) (by omega) (by omega)
       have r2 := JzK (a := b) b0 (by omega)
       rw [ei, eo]
       simp only [q1, r1, r2, Option.isSome_some, Option.getD_some, Int.add_zero]
       exact (Jj rfl).trans ((Jj rfl).trans ((Jj rfl).trans ((Ja rfl).trans ((Ja rfl).trans (IH _ _ (by omega) (by omega) (by omega) (by omega))))))
   · have ei : inC (cv p) = 0 := by unfold inC; rw [q1]; rfl
     have eo : Wc (cv p) = (cv p).s.size := by unfold Wc; rw [q1]; rfl
     have r1 := JzK (a := a) a0 (by omega)
     have r2 := Jgj (a := b) (b := zi (cv p).s.size) b0 (by omega) (by simp only [zi]; omega) (by simp only [zi]; omega)
     have hz : zi (cv p).s.size = ((cv p).s.size : Int) := rfl
     rw [ei, eo, ← hz]
     simp only [q1, r1, r2, Option.isSome_some, Option.getD_some, Int.add_zero]
     exact (Ja rfl).trans ((Jj rfl).trans ((Ja rfl).trans ((Ja rfl).trans (IH _ _ (by omega) (by omega) (by omega) (by omega)))))
def szI : List PV -> Nat := hid fun l => fz (inL l)
def szO : List PV -> Nat := hid fun l => fz (outL l)
theorem JmU (l : List PV) : szI l = fz (inL l) := by rw [szI, hid_eq]
theorem JmV (l : List PV) : szO l = fz (outL l) := by rw [szO, hid_eq]
def JeN : List PV -> List Ent -> (Res -> Option Res) -> Option Res
 | [.ro 113 z f o], [], k => bif aOk o then k ⟨.sc (.complex .f64 (szI o) (szO o)), [], []⟩ else none
 | _, _, _ => none
def JrW : Sig := { own := [], run := JeN }
theorem Jux : Jh tau Try.prog 125 JrW := Jh.mk' fun xs es k res hl hr => by
 change JeN xs es k = some res at hr
 unfold JeN at hr
 split at hr
 · rename_i z f o
   obtain ⟨hc, hr⟩ := JI hr
   have hl2 := (Yx.1 hc).2.1
   refine Qj Jq JjI Js JrU JrV (JjJ (VK 50)) [.ro] 0 0 (JzI 50) hl rfl ((JCM 50 z f o k).trans (Eq.trans ?_ hr))
   unfold JzG
   have h0 := JmT o hc 50 (fun x0_0 x1_0 => k (Res.mk (.sc (Value.complex FloatKind.f64 x0_0 x1_0)) [] [])) z f o.length 0 50 0 0 (by omega) (by omega) (by omega) (by omega) (by omega) (by omega)
   rw [Jdx] at h0
   refine h0.trans ?_
   rw [List.drop_zero, Int.zero_add, Int.zero_add, JmU, JmV]
 · cases hr
def N89 : Nat := 71
def F89 : Fns := JH 126 Juv (JH 125 JrW (F0))
theorem JmW : Jy tau Try.prog F89 := ((JE).add Jux JzJ).add JrT JrS
def GD : Code := Qn (Try.f89.body.get!) [1, 0]
def YE : Nm := [(0, .any), (1, .any), (7, .own), (8, .any)]
def ZH : Nm := [(4, .any), (5, .any)]
def Jdy : An := (.seq .leaf (.seq (.block none (.seq .leaf (.cond (.seq .leaf .leaf) (.seq .leaf (.cond (.seq .leaf .leaf) .leaf))))) (.seq .leaf (.seq .leaf (.seq .leaf (.seq (.seq .leaf (.cond (.seq .leaf .leaf) .leaf)) (.seq .leaf (.seq (.seq .leaf (.block none (.seq .leaf (.cond .leaf (.seq .leaf (.cond .leaf (.seq .leaf (.cond .leaf .leaf)))))))) (.seq .leaf .leaf)))))))))
def JpU (r0 : JkY) : An := (.seq .leaf (.ssum YE N89 (Jdy) r0))
def WR (f : Nat) (rc : ByteArray -> Bool -> Bool -> List PV -> Nat -> Int -> Bool -> List PV -> Option Res) (k0 : ByteArray -> Int -> Option Res) (v0 : ByteArray) (v1 v2 : Bool) (v3 : List PV) (v4 : Nat) (v5 : Int) (v6 : Bool) (v7 : List PV) : Option Res := bif v5 == zi v3.length then bif Jo IntKind.u8 (List.take v4 v7) && true then k0 (ByteArray.mk (Array.mk (Jm ((Ent.vec false 5 v6 v7).nil, List.take v4 (List.drop 0 v7)).snd))) (0) else none else bif decide (0 <= v5) && decide (v5 < zi v3.length) && (PV.isSt 113 #[Field.mk "Kind" 3 0 false "" "" 0, Field.mk "N" 3 1 false "" "" 8, Field.mk "S" 9 2 false "" "" 16].size (v3.getD v5.toNat PV.top) && (PV.isInt IntKind.i64 (PV.child 0 (v3.getD v5.toNat PV.top)) && (PV.isInt IntKind.i64 (PV.child (0 + 1) (v3.getD v5.toNat PV.top)) && ((PV.child (0 + 1 + 1) (v3.getD v5.toNat PV.top)).isStr && true)))) && true then bif (PV.child 0 (v3.getD v5.toNat PV.top)).int == 2 then bif decide (0 <= v5) && decide (v5 < zi v3.length) && (PV.isSt 113 #[Field.mk "Kind" 3 0 false "" "" 0, Field.mk "N" 3 1 false "" "" 8, Field.mk "S" 9 2 false "" "" 16].size (v3.getD v5.toNat PV.top) && (PV.isInt IntKind.i64 (PV.child 0 (v3.getD v5.toNat PV.top)) && (PV.isInt IntKind.i64 (PV.child (0 + 1) (v3.getD v5.toNat PV.top)) && ((PV.child (0 + 1 + 1) (v3.getD v5.toNat PV.top)).isStr && true)))) && true then bif (PV.child 0 (v3.getD v5.toNat PV.top)).int == 1 then bif decide (0 <= JK (J6 (zi (PV.child (0 + 1 + 1) (v3.getD v5.toNat PV.top)).str.size) 0) (zi v0.size)) && true && decide ((JK (J6 (zi (PV.child (0 + 1 + 1) (v3.getD v5.toNat PV.top)).str.size) 0) (zi v0.size)).toNat <= v0.size) && true then bif Jf (v4 + (Jg (v0.extract 0 (JK (J6 (zi (PV.child (0 + 1 + 1) (v3.getD v5.toNat PV.top)).str.size) 0) (zi v0.size)).toNat)).length) 1 && true then bif decide (0 <= JK (J6 (zi (PV.child (0 + 1 + 1) (v3.getD v5.toNat PV.top)).str.size) 0) (zi v0.size)) && true && decide ((JK (J6 (zi (PV.child (0 + 1 + 1) (v3.getD v5.toNat PV.top)).str.size) 0) (zi v0.size)).toNat <= v0.size) && decide (v0.size <= v0.size) && true then rc (v0.extract (JK (J6 (zi (PV.child (0 + 1 + 1) (v3.getD v5.toNat PV.top)).str.size) 0) (zi v0.size)).toNat v0.size) v1 v2 v3 (v4 + (Jg (v0.extract 0 (JK (J6 (zi (PV.child (0 + 1 + 1) (v3.getD v5.toNat PV.top)).str.size) 0) (zi v0.size)).toNat)).length) (IntKind.i64.wrap (v5 + 1)) (v6 && (Jg (v0.extract 0 (JK (J6 (zi (PV.child (0 + 1 + 1) (v3.getD v5.toNat PV.top)).str.size) 0) (zi v0.size)).toNat)).isEmpty) (List.take v4 v7 ++ Jg (v0.extract 0 (JK (J6 (zi (PV.child (0 + 1 + 1) (v3.getD v5.toNat PV.top)).str.size) 0) (zi v0.size)).toNat)) else none else none else none else bif (PV.child 0 (v3.getD v5.toNat PV.top)).int == 2 then bif decide (0 <= v5) && decide (v5 < zi v3.length) && (PV.isSt 113 #[Field.mk "Kind" 3 0 false "" "" 0, Field.mk "N" 3 1 false "" "" 8, Field.mk "S" 9 2 false "" "" 16].size (v3.getD v5.toNat PV.top) && (PV.isInt IntKind.i64 (PV.child 0 (v3.getD v5.toNat PV.top)) && (PV.isInt IntKind.i64 (PV.child (0 + 1) (v3.getD v5.toNat PV.top)) && ((PV.child (0 + 1 + 1) (v3.getD v5.toNat PV.top)).isStr && true)))) && true then bif Jf (v4 + (Jg (PV.child (0 + 1 + 1) (v3.getD v5.toNat PV.top)).str).length) 1 && true then rc v0 v1 v2 v3 (v4 + (Jg (PV.child (0 + 1 + 1) (v3.getD v5.toNat PV.top)).str).length) (IntKind.i64.wrap (v5 + 1)) (v6 && (Jg (PV.child (0 + 1 + 1) (v3.getD v5.toNat PV.top)).str).isEmpty) (List.take v4 v7 ++ Jg (PV.child (0 + 1 + 1) (v3.getD v5.toNat PV.top)).str) else none else none else bif (PV.child 0 (v3.getD v5.toNat PV.top)).int == 3 then bif decide (0 <= JK (J6 (zi (PV.child (0 + 1 + 1) (v3.getD v5.toNat PV.top)).str.size) 0) (zi v0.size)) && true && decide ((JK (J6 (zi (PV.child (0 + 1 + 1) (v3.getD v5.toNat PV.top)).str.size) 0) (zi v0.size)).toNat <= v0.size) && decide (v0.size <= v0.size) && true then rc (v0.extract (JK (J6 (zi (PV.child (0 + 1 + 1) (v3.getD v5.toNat PV.top)).str.size) 0) (zi v0.size)).toNat v0.size) v1 v2 v3 v4 (IntKind.i64.wrap (v5 + 1)) v6 v7 else none else rc v0 v1 v2 v3 v4 (IntKind.i64.wrap (v5 + 1)) v6 v7 else none else bif decide (0 <= v5) && decide (v5 < zi v3.length) && (PV.isSt 113 #[Field.mk "Kind" 3 0 false "" "" 0, Field.mk "N" 3 1 false "" "" 8, Field.mk "S" 9 2 false "" "" 16].size (v3.getD v5.toNat PV.top) && (PV.isInt IntKind.i64 (PV.child 0 (v3.getD v5.toNat PV.top)) && (PV.isInt IntKind.i64 (PV.child (0 + 1) (v3.getD v5.toNat PV.top)) && ((PV.child (0 + 1 + 1) (v3.getD v5.toNat PV.top)).isStr && true)))) && true then bif (PV.child 0 (v3.getD v5.toNat PV.top)).int == 1 then bif decide (0 <= JK (J6 (PV.child (0 + 1) (v3.getD v5.toNat PV.top)).int 0) (zi v0.size)) && true && decide ((JK (J6 (PV.child (0 + 1) (v3.getD v5.toNat PV.top)).int 0) (zi v0.size)).toNat <= v0.size) && true then bif Jf (v4 + (Jg (v0.extract 0 (JK (J6 (PV.child (0 + 1) (v3.getD v5.toNat PV.top)).int 0) (zi v0.size)).toNat)).length) 1 && true then bif decide (0 <= JK (J6 (PV.child (0 + 1) (v3.getD v5.toNat PV.top)).int 0) (zi v0.size)) && true && decide ((JK (J6 (PV.child (0 + 1) (v3.getD v5.toNat PV.top)).int 0) (zi v0.size)).toNat <= v0.size) && decide (v0.size <= v0.size) && true then rc (v0.extract (JK (J6 (PV.child (0 + 1) (v3.getD v5.toNat PV.top)).int 0) (zi v0.size)).toNat v0.size) v1 v2 v3 (v4 + (Jg (v0.extract 0 (JK (J6 (PV.child (0 + 1) (v3.getD v5.toNat PV.top)).int 0) (zi v0.size)).toNat)).length) (IntKind.i64.wrap (v5 + 1)) (v6 && (Jg (v0.extract 0 (JK (J6 (PV.child (0 + 1) (v3.getD v5.toNat PV.top)).int 0) (zi v0.size)).toNat)).isEmpty) (List.take v4 v7 ++ Jg (v0.extract 0 (JK (J6 (PV.child (0 + 1) (v3.getD v5.toNat PV.top)).int 0) (zi v0.size)).toNat)) else none else none else none else bif (PV.child 0 (v3.getD v5.toNat PV.top)).int == 2 then bif decide (0 <= v5) && decide (v5 < zi v3.length) && (PV.isSt 113 #[Field.mk "Kind" 3 0 false "" "" 0, Field.mk "N" 3 1 false "" "" 8, Field.mk "S" 9 2 false "" "" 16].size (v3.getD v5.toNat PV.top) && (PV.isInt IntKind.i64 (PV.child 0 (v3.getD v5.toNat PV.top)) && (PV.isInt IntKind.i64 (PV.child (0 + 1) (v3.getD v5.toNat PV.top)) && ((PV.child (0 + 1 + 1) (v3.getD v5.toNat PV.top)).isStr && true)))) && true then bif Jf (v4 + (Jg (PV.child (0 + 1 + 1) (v3.getD v5.toNat PV.top)).str).length) 1 && true then rc v0 v1 v2 v3 (v4 + (Jg (PV.child (0 + 1 + 1) (v3.getD v5.toNat PV.top)).str).length) (IntKind.i64.wrap (v5 + 1)) (v6 && (Jg (PV.child (0 + 1 + 1) (v3.getD v5.toNat PV.top)).str).isEmpty) (List.take v4 v7 ++ Jg (PV.child (0 + 1 + 1) (v3.getD v5.toNat PV.top)).str) else none else none else bif (PV.child 0 (v3.getD v5.toNat PV.top)).int == 3 then bif decide (0 <= JK (J6 (PV.child (0 + 1) (v3.getD v5.toNat PV.top)).int 0) (zi v0.size)) && true && decide ((JK (J6 (PV.child (0 + 1) (v3.getD v5.toNat PV.top)).int 0) (zi v0.size)).toNat <= v0.size) && decide (v0.size <= v0.size) && true then rc (v0.extract (JK (J6 (PV.child (0 + 1) (v3.getD v5.toNat PV.top)).int 0) (zi v0.size)).toNat v0.size) v1 v2 v3 v4 (IntKind.i64.wrap (v5 + 1)) v6 v7 else none else rc v0 v1 v2 v3 v4 (IntKind.i64.wrap (v5 + 1)) v6 v7 else none else none
def QD (f : Nat) (k0 : ByteArray -> Int -> Option Res) : Nat -> ByteArray -> Bool -> Bool -> List PV -> Nat -> Int -> Bool -> List PV -> Option Res
 | 0, _, _, _, _, _, _, _, _ => none
 | n + 1, v0, v1, v2, v3, v4, v5, v6, v7 => WR f (QD f k0 n) k0 v0 v1 v2 v3 v4 v5 v6 v7
theorem JpV (f : Nat) (k : Kont) (n : Nat) (v0 : ByteArray) (v1 v2 : Bool) (v3 : List PV) (v4 : Nat) (v5 : Int) (v6 : Bool) (v7 : List PV) : J7 tau 0 YE (hasLabel GD) (fun l s k => JV tau F89 0 0 GD (Jdy ) l s k) (n + 1) 0 (Jc YE N89 [.sc (.string v0), .ro 113 v1 v2 v3, .ow 5 1152 [] 0 v4 none, .sc (.int .i64 v5)] [(1152, .vec false 5 v6 v7)]) (Jt tau 0 ZH k) = WR f (fun v0 v1 v2 v3 v4 v5 v6 v7 => J7 tau 0 YE (hasLabel GD) (fun l s k => JV tau F89 0 0 GD (Jdy ) l s k) n 0 (Jc YE N89 [.sc (.string v0), .ro 113 v1 v2 v3, .ow 5 1152 [] 0 v4 none, .sc (.int .i64 v5)] [(1152, .vec false 5 v6 v7)]) (Jt tau 0 ZH k)) (fun x0 x1 => k Ex.ret (Jc ZH N89 [.sc (.string x0), .sc (.int .i64 x1)] [])) v0 v1 v2 v3 v4 v5 v6 v7 := by kernel_rfl
theorem JjO (f : Nat) (k : Kont) : ∀ (n : Nat) (v0 : ByteArray) (v1 v2 : Bool) (v3 : List PV) (v4 : Nat) (v5 : Int) (v6 : Bool) (v7 : List PV), J7 tau 0 YE (hasLabel GD) (fun l s k => JV tau F89 0 0 GD (Jdy ) l s k) n 0 (Jc YE N89 [.sc (.string v0), .ro 113 v1 v2 v3, .ow 5 1152 [] 0 v4 none, .sc (.int .i64 v5)] [(1152, .vec false 5 v6 v7)]) (Jt tau 0 ZH k) = QD f (fun x0 x1 => k Ex.ret (Jc ZH N89 [.sc (.string x0), .sc (.int .i64 x1)] [])) n v0 v1 v2 v3 v4 v5 v6 v7 | 0, _, _, _, _, _, _, _, _ => rfl | n + 1, v0, v1, v2, v3, v4, v5, v6, v7 => (JpV f k n v0 v1 v2 v3 v4 v5 v6 v7).trans (congrArg (fun r => WR f r (fun x0 x1 => k Ex.ret (Jc ZH N89 [.sc (.string x0), .sc (.int .i64 x1)] [])) v0 v1 v2 v3 v4 v5 v6 v7) (by funext v0 v1 v2 v3 v4 v5 v6 v7; exact JjO f k n v0 v1 v2 v3 v4 v5 v6 v7))
def Jck (f : Nat) : Nat -> List PV -> List (Nat × Ent) -> Kont -> Option Res
 | 0, [.sc (.string v0), .ro 113 v1 v2 v3, .ow 5 1152 [] 0 v4 none,
 PV.sc
  (Value.int IntKind.i64
   v5)], [(1152, .vec false 5 v6 v7)], k => QD f (fun x0 x1 => k Ex.ret (Jc ZH N89 [.sc (.string x0), .sc (.int .i64 x1)] [])) f v0 v1 v2 v3 v4 v5 v6 v7
 | _, _, _, _ => none
theorem Juy (f : Nat) : Je GD Jdy = [] := by kernel_rfl
theorem Juz (f : Nat) : (Item.s GD YE N89 (Jck f)).Ok tau Try.prog 0 := W4 Jq JmW Js (x := Jdy) (nm2 := ZH) (Jl _ _ (by rw [Juy f]; intro q hq; cases hq)) fun l vs hp k res hr => by
 unfold Jck at hr
 split at hr
 · exact ⟨f, 0, (JjO f _ f _ _ _ _ _ _ _ _ ).trans hr⟩
 · cases hr
def g89 (f : Nat) (doc : ByteArray) (o_z o_f : Bool) (o : List PV) (k : Res -> Option Res) : Option Res := bif aOk o then bif !(FloatKind.f64.format.order (PV.sc (Value.complex FloatKind.f64 (fOf FloatKind.f64 (zi doc.size)) (szO o))).cre (PV.sc (Value.complex FloatKind.f64 (szI o) (szO o))).cre == some Ordering.eq && FloatKind.f64.format.order (PV.sc (Value.complex FloatKind.f64 (fOf FloatKind.f64 (zi doc.size)) (szO o))).cim (PV.sc (Value.complex FloatKind.f64 (szI o) (szO o))).cim == some Ordering.eq) then k (Res.mk (.tup [.sc (.string (ByteArray.mk (Array.mk []))), .sc (.int .i64 7)]) [] []) else bif FloatKind.f64.format.order (PV.sc (Value.float FloatKind.f64 (szO o))).flo (PV.sc (Value.float FloatKind.f64 4638144666238189568)).flo == some Ordering.gt then k (Res.mk (.tup [.sc (.string (ByteArray.mk (Array.mk []))), .sc (.int .i64 5)]) [] []) else bif 0 == zi o.length then k (Res.mk (.tup [.sc (.string (ByteArray.mk (Array.mk (Jm (true, []).snd)))), .sc (.int .i64 0)]) [] []) else bif decide (0 < zi o.length) && (PV.isSt 113 #[Field.mk "Kind" 3 0 false "" "" 0, Field.mk "N" 3 1 false "" "" 8, Field.mk "S" 9 2 false "" "" 16].size (o.getD (Int.toNat 0) PV.top) && (PV.isInt IntKind.i64 (PV.child 0 (o.getD 0 PV.top)) && (PV.isInt IntKind.i64 (PV.child (0 + 1) (o.getD 0 PV.top)) && ((PV.child (0 + 1 + 1) (o.getD 0 PV.top)).isStr && true)))) && true then bif (PV.child 0 (o.getD 0 PV.top)).int == 2 then bif decide (0 < zi o.length) && (PV.isSt 113 #[Field.mk "Kind" 3 0 false "" "" 0, Field.mk "N" 3 1 false "" "" 8, Field.mk "S" 9 2 false "" "" 16].size (o.getD (Int.toNat 0) PV.top) && (PV.isInt IntKind.i64 (PV.child 0 (o.getD 0 PV.top)) && (PV.isInt IntKind.i64 (PV.child (0 + 1) (o.getD 0 PV.top)) && ((PV.child (0 + 1 + 1) (o.getD 0 PV.top)).isStr && true)))) && true then bif (PV.child 0 (o.getD 0 PV.top)).int == 1 then bif decide (0 <= JK (J6 (zi (PV.child (0 + 1 + 1) (o.getD 0 PV.top)).str.size) 0) (zi doc.size)) && true && decide ((JK (J6 (zi (PV.child (0 + 1 + 1) (o.getD 0 PV.top)).str.size) 0) (zi doc.size)).toNat <= doc.size) && true then bif Jf (Jg (doc.extract 0 (JK (J6 (zi (PV.child (0 + 1 + 1) (o.getD 0 PV.top)).str.size) 0) (zi doc.size)).toNat)).length 1 && true then bif decide (0 <= JK (J6 (zi (PV.child (0 + 1 + 1) (o.getD 0 PV.top)).str.size) 0) (zi doc.size)) && true && decide ((JK (J6 (zi (PV.child (0 + 1 + 1) (o.getD 0 PV.top)).str.size) 0) (zi doc.size)).toNat <= doc.size) && decide (doc.size <= doc.size) && true then QD f (fun x0_0 x1_0 => k (Res.mk (.tup [.sc (.string x0_0), .sc (.int .i64 x1_0)]) [] [])) f (doc.extract (JK (J6 (zi (PV.child (0 + 1 + 1) (o.getD 0 PV.top)).str.size) 0) (zi doc.size)).toNat doc.size) o_z o_f o ((Jg (doc.extract 0 (JK (J6 (zi (PV.child (0 + 1 + 1) (o.getD 0 PV.top)).str.size) 0) (zi doc.size)).toNat)).length) (IntKind.i64.wrap (0 + 1)) ((Jg (doc.extract 0 (JK (J6 (zi (PV.child (0 + 1 + 1) (o.getD 0 PV.top)).str.size) 0) (zi doc.size)).toNat)).isEmpty) (Jg (doc.extract 0 (JK (J6 (zi (PV.child (0 + 1 + 1) (o.getD 0 PV.top)).str.size) 0) (zi doc.size)).toNat)) else none else none else none else bif (PV.child 0 (o.getD 0 PV.top)).int == 2 then bif decide (0 < zi o.length) && (PV.isSt 113 #[Field.mk "Kind" 3 0 false "" "" 0, Field.mk "N" 3 1 false "" "" 8, Field.mk "S" 9 2 false "" "" 16].size (o.getD (Int.toNat 0) PV.top) && (PV.isInt IntKind.i64 (PV.child 0 (o.getD 0 PV.top)) && (PV.isInt IntKind.i64 (PV.child (0 + 1) (o.getD 0 PV.top)) && ((PV.child (0 + 1 + 1) (o.getD 0 PV.top)).isStr && true)))) && true then bif Jf (Jg (PV.child (0 + 1 + 1) (o.getD 0 PV.top)).str).length 1 && true then QD f (fun x0_1 x1_1 => k (Res.mk (.tup [.sc (.string x0_1), .sc (.int .i64 x1_1)]) [] [])) f doc o_z o_f o ((Jg (PV.child (0 + 1 + 1) (o.getD 0 PV.top)).str).length) (IntKind.i64.wrap (0 + 1)) ((Jg (PV.child (0 + 1 + 1) (o.getD 0 PV.top)).str).isEmpty) (Jg (PV.child (0 + 1 + 1) (o.getD 0 PV.top)).str) else none else none else bif (PV.child 0 (o.getD 0 PV.top)).int == 3 then bif decide (0 <= JK (J6 (zi (PV.child (0 + 1 + 1) (o.getD 0 PV.top)).str.size) 0) (zi doc.size)) && true && decide ((JK (J6 (zi (PV.child (0 + 1 + 1) (o.getD 0 PV.top)).str.size) 0) (zi doc.size)).toNat <= doc.size) && decide (doc.size <= doc.size) && true then QD f (fun x0_2 x1_2 => k (Res.mk (.tup [.sc (.string x0_2), .sc (.int .i64 x1_2)]) [] [])) f (doc.extract (JK (J6 (zi (PV.child (0 + 1 + 1) (o.getD 0 PV.top)).str.size) 0) (zi doc.size)).toNat doc.size) o_z o_f o (0) (IntKind.i64.wrap (0 + 1)) true ([]) else none else QD f (fun x0_3 x1_3 => k (Res.mk (.tup [.sc (.string x0_3), .sc (.int .i64 x1_3)]) [] [])) f doc o_z o_f o (0) (IntKind.i64.wrap (0 + 1)) true ([]) else none else bif decide (0 < zi o.length) && (PV.isSt 113 #[Field.mk "Kind" 3 0 false "" "" 0, Field.mk "N" 3 1 false "" "" 8, Field.mk "S" 9 2 false "" "" 16].size (o.getD (Int.toNat 0) PV.top) && (PV.isInt IntKind.i64 (PV.child 0 (o.getD 0 PV.top)) && (PV.isInt IntKind.i64 (PV.child (0 + 1) (o.getD 0 PV.top)) && ((PV.child (0 + 1 + 1) (o.getD 0 PV.top)).isStr && true)))) && true then bif (PV.child 0 (o.getD 0 PV.top)).int == 1 then bif decide (0 <= JK (J6 (PV.child (0 + 1) (o.getD 0 PV.top)).int 0) (zi doc.size)) && true && decide ((JK (J6 (PV.child (0 + 1) (o.getD 0 PV.top)).int 0) (zi doc.size)).toNat <= doc.size) && true then bif Jf (Jg (doc.extract 0 (JK (J6 (PV.child (0 + 1) (o.getD 0 PV.top)).int 0) (zi doc.size)).toNat)).length 1 && true then bif decide (0 <= JK (J6 (PV.child (0 + 1) (o.getD 0 PV.top)).int 0) (zi doc.size)) && true && decide ((JK (J6 (PV.child (0 + 1) (o.getD 0 PV.top)).int 0) (zi doc.size)).toNat <= doc.size) && decide (doc.size <= doc.size) && true then QD f (fun x0_4 x1_4 => k (Res.mk (.tup [.sc (.string x0_4), .sc (.int .i64 x1_4)]) [] [])) f (doc.extract (JK (J6 (PV.child (0 + 1) (o.getD 0 PV.top)).int 0) (zi doc.size)).toNat doc.size) o_z o_f o ((Jg (doc.extract 0 (JK (J6 (PV.child (0 + 1) (o.getD 0 PV.top)).int 0) (zi doc.size)).toNat)).length) (IntKind.i64.wrap (0 + 1)) ((Jg (doc.extract 0 (JK (J6 (PV.child (0 + 1) (o.getD 0 PV.top)).int 0) (zi doc.size)).toNat)).isEmpty) (Jg (doc.extract 0 (JK (J6 (PV.child (0 + 1) (o.getD 0 PV.top)).int 0) (zi doc.size)).toNat)) else none else none else none else bif (PV.child 0 (o.getD 0 PV.top)).int == 2 then bif decide (0 < zi o.length) && (PV.isSt 113 #[Field.mk "Kind" 3 0 false "" "" 0, Field.mk "N" 3 1 false "" "" 8, Field.mk "S" 9 2 false "" "" 16].size (o.getD (Int.toNat 0) PV.top) && (PV.isInt IntKind.i64 (PV.child 0 (o.getD 0 PV.top)) && (PV.isInt IntKind.i64 (PV.child (0 + 1) (o.getD 0 PV.top)) && ((PV.child (0 + 1 + 1) (o.getD 0 PV.top)).isStr && true)))) && true then bif Jf (Jg (PV.child (0 + 1 + 1) (o.getD 0 PV.top)).str).length 1 && true then QD f (fun x0_5 x1_5 => k (Res.mk (.tup [.sc (.string x0_5), .sc (.int .i64 x1_5)]) [] [])) f doc o_z o_f o ((Jg (PV.child (0 + 1 + 1) (o.getD 0 PV.top)).str).length) (IntKind.i64.wrap (0 + 1)) ((Jg (PV.child (0 + 1 + 1) (o.getD 0 PV.top)).str).isEmpty) (Jg (PV.child (0 + 1 + 1) (o.getD 0 PV.top)).str) else none else none else bif (PV.child 0 (o.getD 0 PV.top)).int == 3 then bif decide (0 <= JK (J6 (PV.child (0 + 1) (o.getD 0 PV.top)).int 0) (zi doc.size)) && true && decide ((JK (J6 (PV.child (0 + 1) (o.getD 0 PV.top)).int 0) (zi doc.size)).toNat <= doc.size) && decide (doc.size <= doc.size) && true then QD f (fun x0_6 x1_6 => k (Res.mk (.tup [.sc (.string x0_6), .sc (.int .i64 x1_6)]) [] [])) f (doc.extract (JK (J6 (PV.child (0 + 1) (o.getD 0 PV.top)).int 0) (zi doc.size)).toNat doc.size) o_z o_f o (0) (IntKind.i64.wrap (0 + 1)) true ([]) else none else QD f (fun x0_7 x1_7 => k (Res.mk (.tup [.sc (.string x0_7), .sc (.int .i64 x1_7)]) [] [])) f doc o_z o_f o (0) (IntKind.i64.wrap (0 + 1)) true ([]) else none else none else none
theorem e89 (f : Nat) (doc : ByteArray) (o_z o_f : Bool) (o : List PV) (k : Res -> Option Res) : JL tau F89 Try.f89 (Try.f89.body.get!) (JpU (Jck f)) [.ro, .ro] 0 [.sc (.string doc), .ro 113 o_z o_f o] [] k = g89 f doc o_z o_f o k := by kernel_rfl
theorem JCN (f : Nat) : Je (Try.f89.body.get!) (JpU (Jck f)) = [.s GD YE N89 (Jck f)] := by kernel_rfl
theorem JCO (f : Nat) : ∀ q ∈ Je (Try.f89.body.get!) (JpU (Jck f)), q.Ok tau Try.prog 0 := by
 rw [JCN f]; simp only [List.forall_mem_cons, List.not_mem_nil, false_implies, implies_true, and_true]; exact Juz f
theorem JzL : Try.prog.funcs[89]? = some Try.f89 := by kernel_rfl
theorem JzM : Try.f89.body = some (Try.f89.body.get!) := by kernel_rfl
theorem JCP : Enters Try.prog 89 := enters_of JzL (by kernel_rfl) JzM
-- FN
def Jcz : List PV -> List UInt8 -> List UInt8
 | [], _ => []
 | p :: ps, t =>
  bif (cv p).kd == 1 then t.take (cv p).n.toNat ++ Jcz ps (t.drop (cv p).n.toNat)
  else bif (cv p).kd == 2 then (cv p).s.data.toList ++ Jcz ps t
  else Jcz ps (t.drop (cv p).n.toNat)
theorem GE : ∀ (l : List PV) (doc : ByteArray) (at1 : Nat) (out : ByteArray), (apl l doc at1 out).data.toList = out.data.toList ++ Jcz l (doc.data.toList.drop at1)
 | [], doc, at1, out => by simp [apl, Jcz]
 | p :: ps, doc, at1, out => by
  simp only [apl, Jcz]
  cases (cv p).kd == 1 with
  | true =>
   simp only [cond_true]
   rw [GE, ByteArray.data_append, Array.toList_append, ByteArray.data_extract, Array.toList_extract, List.extract_eq_take_drop, List.append_assoc, List.drop_drop]
   have e : at1 + (cv p).n.toNat - at1 = (cv p).n.toNat := by omega
   rw [e]
  | false =>
   simp only [cond_false]
   cases (cv p).kd == 2 with
   | true => simp only [cond_true]; rw [GE, ByteArray.data_append, Array.toList_append, List.append_assoc]
   | false => simp only [cond_false]; rw [GE, List.drop_drop]
-- FN op.Apply
def ob (l : List UInt8) : List PV := l.map fun b => .sc (.int .u8 b.toNat)
theorem JzN (s : ByteArray) : Jg s = ob s.data.toList := rfl
theorem JuA (a b : List UInt8) : ob a ++ ob b = ob (a ++ b) := by simp [ob]
theorem Jic (a : List UInt8) : (ob a).length = a.length := by simp [ob]
theorem JrX : ∀ l : List UInt8, Jm (ob l) = l
 | [] => rfl
 | b :: l => by
  show UInt8.ofNat ((b.toNat : Int)).toNat :: Jm (ob l) = _
  rw [JrX l, Int.toNat_natCast, UInt8.ofNat_toNat]
theorem JmX : ∀ l : List UInt8, Jo .u8 (ob l) = true
 | [] => rfl
 | b :: l => by
  show (PV.isInt .u8 (.sc (.int .u8 b.toNat)) && Jo .u8 (ob l)) = true
  rw [JmX l]; rfl
theorem JuB {a b : ByteArray} (h : a.data.toList = b.data.toList) : a = b := by
 cases a with
 | mk x => cases b with
  | mk y => exact congrArg ByteArray.mk (Array.ext' h)
theorem JrY {n m : Int} (h0 : 0 <= n) (h1 : n <= m) : JK (J6 n 0) m = n := by
 unfold JK J6
 by_cases h : n < 0
 · omega
 · rw [if_neg h]
   by_cases g : m < n
   · omega
   · rw [if_neg g]
theorem JpW (f : Nat) (rc : ByteArray -> Bool -> Bool -> List PV -> Nat -> Int -> Bool -> List PV -> Option Res) (k0 : ByteArray -> Int -> Option Res) (r : ByteArray) (z fl : Bool) (l : List PV) (out : List UInt8) (q : Bool) :
  WR f rc k0 r z fl l out.length (l.length : Int) q (ob out) = k0 ⟨⟨out⟩⟩ 0 := by
 have e : List.take out.length (ob out) = ob out := by rw [← Jic out]; exact List.take_length
 simp only [WR, List.drop_zero, e, JrX, JmX]
 exact Ja (beq_self_eq_true _)
theorem JmY (f : Nat) (rc : ByteArray -> Bool -> Bool -> List PV -> Nat -> Int -> Bool -> List PV -> Option Res) (k0 : ByteArray -> Int -> Option Res) (r : ByteArray) (z fl : Bool) (l : List PV) (ha : aOk l = true) (out : List UInt8) (q : Bool) (i : Nat) (hi : i < l.length) (X : Option Res)
   (hr : inC (cv (l.getD i .top)) <= r.size) (ho : (out.length : Int) + Wc (cv (l.getD i .top)) <= 1000)
   (h : ∀ (r2 : ByteArray) (o2 : List UInt8) (q2 : Bool),
     (bif (cv (l.getD i .top)).kd == 1 then r2.data.toList = r.data.toList.drop (cv (l.getD i .top)).n.toNat /\ o2 = out ++ r.data.toList.take (cv (l.getD i .top)).n.toNat
       else bif (cv (l.getD i .top)).kd == 2 then r2.data.toList = r.data.toList /\ o2 = out ++ (cv (l.getD i .top)).s.data.toList
       else r2.data.toList = r.data.toList.drop (cv (l.getD i .top)).n.toNat /\ o2 = out : Prop) ->
     rc r2 z fl l o2.length ((i + 1 : Nat) : Int) q2 (ob o2) = X) :
   WR f rc k0 r z fl l out.length (i : Int) q (ob out) = X := by
 obtain ⟨h1, hl, hck⟩ := Yx.1 ha
 have g1 : ((i : Int)).toNat = i := by omega
 have w1 : IntKind.i64.wrap ((i : Int) + 1) = ((i + 1 : Nat) : Int) := by rw [wrap_i64 (by omega) (by omega)]; omega
 have hc := JrA h1 (i := i) (by omega)
 unfold Jez at hc
 have hk := (Jb8 ha (i := i) (by omega)).2
 have e : List.take out.length (ob out) = ob out := by rw [← Jic out]; exact List.take_length
 simp only [WR, g1, w1, e, JzN, JuA, Jic, ← List.length_append]
 generalize l.getD i .top = p at *
 have e1 : (PV.child 0 p).int = (cv p).kd := rfl
 have e2 : (PV.child (0 + 1) p).int = (cv p).n := rfl
 have e3 : (PV.child (0 + 1 + 1) p).str = (cv p).s := rfl
 simp only [e1, e2, e3]
 refine (Jj (beq_false_of_ne (by simp only [zi]; omega))).trans ((Ja hc).trans ?_)
 have hn0 : ∀ (n : Nat), n <= r.size -> (r.extract 0 n).data.toList = r.data.toList.take n := fun n hn => by
   rw [ByteArray.data_extract, Array.toList_extract, List.extract_eq_take_drop, List.drop_zero, Nat.sub_zero]
 have hn1 : ∀ (n : Nat), (r.extract n r.size).data.toList = r.data.toList.drop n := fun n => by
   rw [ByteArray.data_extract, Array.toList_extract, List.extract_eq_take_drop]
   exact List.take_of_length_le (by rw [List.length_drop]; exact Nat.le_refl _)
 have hlen : r.data.toList.length = r.size := rfl
 rcases XP hk with ⟨q1, q2, q3, q4⟩ | ⟨q1, q2, q3, q4⟩
 · rcases q1 with q1 | q1
   · have ei : inC (cv p) = (cv p).n := by unfold inC; rw [q1]; rfl
     have eo : Wc (cv p) = (cv p).n := by unfold Wc; rw [q1]; rfl
     rw [ei] at hr
     rw [eo] at ho
     have mm := JrY (n := (cv p).n) (m := zi r.size) (by omega) (by simp only [zi]; omega)
     have hx := hn0 (cv p).n.toNat (by omega)
     rw [q1] at h ⊢
     simp only [mm, hx]
     refine (Jj rfl).trans ((Ja hc).trans ((Ja rfl).trans ?_))
     refine (Ja (by simp [zi]; omega)).trans ((Ja ?_).trans ((Ja (by simp [zi]; omega)).trans ?_))
     · simp [Jf]; omega
     · exact h _ _ _ ⟨hn1 _, rfl⟩
   · have ei : inC (cv p) = (cv p).n := by unfold inC; rw [q1]; rfl
     rw [ei] at hr
     have mm := JrY (n := (cv p).n) (m := zi r.size) (by omega) (by simp only [zi]; omega)
     rw [q1] at h ⊢
     simp only [mm]
     refine (Jj rfl).trans ((Ja hc).trans ((Jj rfl).trans ((Jj rfl).trans ((Ja rfl).trans ?_))))
     refine (Ja (by simp [zi]; omega)).trans ?_
     exact h _ _ _ ⟨hn1 _, rfl⟩
 · have eo : Wc (cv p) = (cv p).s.size := by unfold Wc; rw [q1]; rfl
   rw [eo] at ho
   have hs : (cv p).s.data.toList.length = (cv p).s.size := rfl
   rw [q1] at h ⊢
   refine (Ja rfl).trans ((Ja hc).trans ((Jj rfl).trans ((Ja rfl).trans ((Ja hc).trans ?_))))
   refine (Ja ?_).trans ?_
   · simp [Jf]; omega
   · exact h _ _ _ ⟨rfl, rfl⟩
theorem JjP (l : List PV) (ha : aOk l = true) (f : Nat) (k0 : ByteArray -> Int -> Option Res) (z fl : Bool) : ∀ (d i n : Nat) (r : ByteArray) (out : List UInt8) (q : Bool), i + d = l.length -> d < n -> inL (l.drop i) <= r.size -> (out.length : Int) + outL (l.drop i) <= 1000 ->
  QD f k0 n r z fl l out.length (i : Int) q (ob out) = k0 ⟨⟨out ++ Jcz (l.drop i) r.data.toList⟩⟩ 0
 | 0, i, n + 1, r, out, q, hi, hn, h3, h4 => by
   rw [List.drop_of_length_le (by omega)]
   obtain rfl : i = l.length := by omega
   simp only [QD, Jcz, List.append_nil]
   exact JpW f _ k0 r z fl l out q
 | d + 1, i, n + 1, r, out, q, hi, hn, h3, h4 => by
   obtain ⟨h1, hl, hck⟩ := Yx.1 ha
   have hck' : ∀ q ∈ l.drop (i + 1), ckC (cv q) = 0 := fun q hq => hck q (List.mem_of_mem_drop hq)
   have hin := Yy hck'
   have hon := ZB hck'
   have hk := (Jb8 ha (i := i) (by omega)).2
   rw [Q9 (by omega)] at h3 h4 ⊢
   simp only [QD, Jcz]
   simp only [inL, outL] at h3 h4
   have i1 := JeA hk
   have o1 := Ja6 hk
   refine JmY f _ k0 r z fl l ha out q i (by omega) _ (by omega) (by omega) fun r2 o2 q2 h => ?_
   generalize l.getD i .top = p at *
   have sz : ∀ x : ByteArray, x.data.toList.length = x.size := fun _ => rfl
   rcases XP hk with ⟨q1, q3, q4, q5⟩ | ⟨q1, q3, q4, q5⟩
   · rcases q1 with q1 | q1
     · have ei : inC (cv p) = (cv p).n := by unfold inC; rw [q1]; rfl
       have eo : Wc (cv p) = (cv p).n := by unfold Wc; rw [q1]; rfl
       rw [q1] at h ⊢
       obtain ⟨e1, e2⟩ := h
       have l1 := congrArg List.length e1
       have l2 := congrArg List.length e2
       rw [List.length_drop, sz, sz] at l1
       rw [List.length_append, List.length_take, sz] at l2
       rw [JjP l ha f k0 z fl d (i + 1) n r2 o2 q2 (by omega) (by omega) (by omega) (by omega), e1, e2, List.append_assoc]
       rfl
     · have ei : inC (cv p) = (cv p).n := by unfold inC; rw [q1]; rfl
       rw [q1] at h ⊢
       obtain ⟨e1, e2⟩ := h
       have l1 := congrArg List.length e1
       rw [List.length_drop, sz, sz] at l1
       subst e2
       rw [JjP l ha f k0 z fl d (i + 1) n r2 _ q2 (by omega) (by omega) (by omega) (by omega), e1]
       rfl
   · have ei : inC (cv p) = 0 := by unfold inC; rw [q1]; rfl
     have eo : Wc (cv p) = (cv p).s.size := by unfold Wc; rw [q1]; rfl
     rw [q1] at h ⊢
     obtain ⟨e1, e2⟩ := h
     have l1 := congrArg List.length e1
     have l2 := congrArg List.length e2
     rw [sz, sz] at l1
     rw [List.length_append, sz] at l2
     rw [JjP l ha f k0 z fl d (i + 1) n r2 o2 q2 (by omega) (by omega) (by omega) (by omega), e1, e2, List.append_assoc]
     rfl
theorem JuC (f : Nat) (doc : ByteArray) (z fl : Bool) (o : List PV) (k : Res -> Option Res) : g89 f doc z fl o k =
  bif aOk o then
   bif !(FloatKind.f64.format.order (fOf .f64 (zi doc.size)) (szI o) == some Ordering.eq && FloatKind.f64.format.order (szO o) (szO o) == some Ordering.eq) then k ⟨.tup [.sc (.string (ByteArray.mk (Array.mk []))), .sc (.int .i64 7)], [], []⟩
   else bif FloatKind.f64.format.order (szO o) 4638144666238189568 == some Ordering.gt then k ⟨.tup [.sc (.string (ByteArray.mk (Array.mk []))), .sc (.int .i64 5)], [], []⟩
   else WR f (QD f (fun x y => k ⟨.tup [.sc (.string x), .sc (.int .i64 y)], [], []⟩) f) (fun x y => k ⟨.tup [.sc (.string x), .sc (.int .i64 y)], [], []⟩) doc z fl o 0 0 true []
  else none := by
 unfold g89 WR
 simp only [Nat.zero_add]
 rfl
theorem JzO (a b : Int) : compare a b = if a < b then .lt else if a = b then .eq else .gt := rfl
theorem JeO {a b : Int} : compare a b = .eq ↔ a = b := by
 rw [JzO]
 by_cases h : a < b
 · rw [if_pos h]; exact ⟨fun e => (nomatch e), fun e => by omega⟩
 · rw [if_neg h]
   by_cases g : a = b
   · rw [if_pos g]; exact ⟨fun _ => g, fun _ => rfl⟩
   · rw [if_neg g]; exact ⟨fun e => (nomatch e), fun e => absurd e g⟩
theorem JjQ {a b : Int} : compare a b = .gt ↔ a > b := by
 rw [JzO]
 by_cases h : a < b
 · rw [if_pos h]; exact ⟨fun e => (nomatch e), fun e => by omega⟩
 · rw [if_neg h]
   by_cases g : a = b
   · rw [if_pos g]; exact ⟨fun e => (nomatch e), fun e => by omega⟩
   · rw [if_neg g]; exact ⟨fun _ => by omega, fun _ => rfl⟩
theorem f120 : fz 120 = 4638144666238189568 := by decide +kernel
def Jid : List PV -> List Ent -> (Res -> Option Res) -> Option Res
 | [.sc (.string doc), .ro 113 z f o], [], k => bif aOk o && decide (doc.size <= 10000) then k ⟨.tup [.sc (.string (apD ⟨doc, o⟩)), .sc (.int .i64 (apE ⟨doc, o⟩))], [], []⟩ else none
 | _, _, _ => none
def JzP : Sig := { own := [], run := Jid }
theorem JuD (doc : ByteArray) (z f : Bool) (o : List PV) (h : aOk o = true) (hd : doc.size <= 10000) (k : Res -> Option Res) : g89 50 doc z f o k = k ⟨.tup [.sc (.string (apD ⟨doc, o⟩)), .sc (.int .i64 (apE ⟨doc, o⟩))], [], []⟩ := by
 obtain ⟨h1, h2, h3⟩ := Yx.1 h
 have p53 : (2 : Nat) ^ 53 = 9007199254740992 := by decide
 have hle := Jmj h3
 have hI := Yy h3
 have hO := ZB h3
 have hOle : ∀ {l : List PV}, (∀ p ∈ l, ckC (cv p) = 0) -> outL l <= 120 * l.length := by
   intro l
   induction l with
   | nil => intro _; simp [outL]
   | cons p l ih =>
     intro h
     have h1 := (Ja6 (h p List.mem_cons_self)).2
     have h2 := ih fun q hq => h q (List.mem_cons_of_mem _ hq)
     simp only [outL, List.length_cons]; omega
 have hOl := hOle h3
 rw [JuC, Jmi, Juc, JhZ, JmS, JmU, JmV, ← f120]
 have r1 : FloatKind.f64.format.order (fz (zi doc.size)) (fz (inL o)) = some (compare (zi doc.size) (inL o)) := Jcj (by rw [p53]; simp only [zi]; omega) (by rw [p53]; omega)
 have r2 : FloatKind.f64.format.order (fz (outL o)) (fz (outL o)) = some (compare (outL o) (outL o)) := Jcj (by rw [p53]; omega) (by rw [p53]; omega)
 have r3 : FloatKind.f64.format.order (fz (outL o)) (fz 120) = some (compare (outL o) 120) := Jcj (by rw [p53]; omega) (by rw [p53]; decide)
 have r4 : compare (outL o) (outL o) = .eq := JeO.2 rfl
 rw [r1, r2, r3, r4]
 refine (Ja h).trans ?_
 by_cases hi : inL o = zi doc.size
 · have c1 : compare (zi doc.size) (inL o) = .eq := JeO.2 hi.symm
   have c2 : (inL o != zi doc.size) = false := by rw [hi]; simp
   rw [c1, c2]
   refine (Jj rfl).trans ?_
   by_cases ho : outL o > 120
   · have c3 : compare (outL o) 120 = .gt := JjQ.2 ho
     rw [c3, decide_eq_true ho]
     rfl
   · have c3 : (some (compare (outL o) 120) == some Ordering.gt) = false := beq_false_of_ne fun e => ho (JjQ.1 (Option.some.inj e))
     rw [c3, decide_eq_false ho]
     refine (Jj rfl).trans ?_
     have := JjP o h 50 (fun x y => k ⟨.tup [.sc (.string x), .sc (.int .i64 y)], [], []⟩) z f o.length 0 51 doc [] true (by omega) (by omega) (by rw [List.drop_zero, hi]; simp [zi]) (by rw [List.drop_zero]; simp; omega)
     simp only [QD, List.drop_zero, List.nil_append] at this
     have e2 : apl o doc 0 (ByteArray.mk (Array.mk [])) = ⟨⟨Jcz o doc.data.toList⟩⟩ := JuB (by rw [GE, List.drop_zero]; rfl)
     refine this.trans ?_
     rw [← e2]; rfl
 · have c1 : (some (compare (zi doc.size) (inL o)) == some Ordering.eq) = false := beq_false_of_ne fun e => hi (JeO.1 (Option.some.inj e)).symm
   have c2 : (inL o != zi doc.size) = true := by simp [bne, hi]
   rw [c1, c2]
   rfl
theorem JzQ : Jh tau Try.prog 89 JzP := Jh.mk' fun xs es k res hl hr => by
 change Jid xs es k = some res at hr
 unfold Jid at hr
 split at hr
 · rename_i doc z f o
   obtain ⟨hc, hr⟩ := JI hr
   have hd := (Bool.and_eq_true _ _ ▸ hc).2
   have hc := (Bool.and_eq_true _ _ ▸ hc).1
   exact Qj Jq JmW Js JzL JzM (JpU (Jck 50)) [.ro, .ro] 0 0 (JCO 50) hl rfl ((e89 50 doc z f o k).trans ((JuD doc z f o hc (of_decide_eq_true hd) k).trans hr))
 · cases hr
def N40 : Nat := 79
def F40 : Fns := JH 91 JzA (JH 90 Jzy (JH 89 JzP (JH 88 JnJ (F0))))
theorem JmZ : Jy tau Try.prog F40 := ((((JE).add Jk3 Jse).add JzQ JCP).add Jzz JCF).add JzB JCJ
def GF : Code := Qn (Try.f40.body.get!) [1, 0]
def YF : Nm := [(0, .any), (1, .any)]
def ZI : Nm := [(4, .any)]
def Jdz : An := (.seq (.seq .leaf (.block none (.seq .leaf (.cond (.seq (.seq .leaf (.seq .leaf (.cond (.seq .leaf .leaf) .leaf))) (.seq .leaf (.seq .leaf .leaf))) (.seq .leaf (.cond (.seq (.seq .leaf (.cond .leaf .leaf)) (.seq .leaf (.seq .leaf .leaf))) .leaf)))))) (.seq (.seq .leaf (.cond .leaf .leaf)) (.seq .leaf (.seq (.seq .leaf .leaf) (.seq .leaf (.seq .leaf .leaf))))))
def JpX (r0 : JkY) : An := (.seq .leaf (.ssum YF N40 (Jdz) r0))
def Jbb (f : Nat) (rc : Bool -> Bool -> List PV -> Int -> Int -> ByteArray -> Bool -> Bool -> List PV -> Int -> List PV -> Int -> Int -> Int -> Int -> List PV -> Int -> Bool -> Bool -> List PV -> Int -> Int -> Option Res) (k0 : Int -> Int -> Int -> ByteArray -> Bool -> Bool -> List PV -> Int -> List PV -> Int -> Int -> Int -> Int -> List PV -> Int -> Bool -> Bool -> List PV -> Int -> Int -> Option Res) (v0 v1 : Bool) (v2 : List PV) (v3 v4 : Int) (v5 : ByteArray) (v6 v7 : Bool) (v8 : List PV) (v9 : Int) (v10 : List PV) (v11 v12 v13 v14 : Int) (v15 : List PV) (v16 : Int) (v17 v18 : Bool) (v19 : List PV) (v20 v21 : Int) : Option Res := k0 (1) v3 v4 v5 v6 v7 v8 v9 v10 v11 v12 v13 v14 v15 v16 v17 v18 v19 v20 v21
def Jaf (f : Nat) (k0 : Int -> Int -> Int -> ByteArray -> Bool -> Bool -> List
 PV -> Int -> List
 PV -> Int -> Int -> Int -> Int -> List
 PV -> Int -> Bool -> Bool -> List
 PV -> Int -> Int -> Option Res) : Nat -> Bool -> Bool -> List
 PV -> Int -> Int -> ByteArray -> Bool -> Bool -> List PV -> Int -> List PV -> Int -> Int -> Int -> Int -> List PV -> Int -> Bool -> Bool -> List PV -> Int -> Int -> Option Res
 | 0, _, _, _, _, _, _, _, _, _, _, _, _, _, _, _, _, _, _, _, _, _, _ => none
 | n + 1, v0, v1, v2, v3, v4, v5, v6, v7, v8, v9, v10, v11, v12, v13, v14, v15, v16, v17, v18, v19, v20, v21 => Jbb f (Jaf f k0 n) k0 v0 v1 v2 v3 v4 v5 v6 v7 v8 v9 v10 v11 v12 v13 v14 v15 v16 v17 v18 v19 v20 v21
theorem JpY (f : Nat) (k : Kont) (n : Nat) (v0 v1 : Bool) (v2 : List PV) (v3 v4 : Int) (v5 : ByteArray) (v6 v7 : Bool) (v8 : List PV) (v9 : Int) (v10 : List PV) (v11 v12 v13 v14 : Int) (v15 : List PV) (v16 : Int) (v17 v18 : Bool) (v19 : List PV) (v20 v21 : Int) : J7 tau 1 YF (hasLabel GF) (fun l s k => JV tau F40 1 0 GF (Jdz ) l s k) (n + 1) 0 (Jc YF N40 [.ptr 0 [], .ro 113 v0 v1 v2] [(0, .box false 98 (PV.st 98 [.st 39 [.st 34 [.sc (.int .i64 v3), .sc (.int .i64 v4)], .sc (.string v5), .ro 42 v6 v7 v8, .sc (.int .i64 v9), .ar 37 v10], .st 53 [.st 42 [.sc (.int .i64 v11), .sc (.int .i64 v12)], .sc (.int .i64 v13), .sc (.int .i64 v14), .ar 37 v15, .sc (.int .i64 v16), .ro 113 v17 v18 v19, .st 42 [.sc (.int .i64 v20), .sc (.int .i64 v21)]]]))]) (Jt tau 1 ZI k) = Jbb f (fun v0 v1 v2 v3 v4 v5 v6 v7 v8 v9 v10 v11 v12 v13 v14 v15 v16 v17 v18 v19 v20 v21 => J7 tau 1 YF (hasLabel GF) (fun l s k => JV tau F40 1 0 GF (Jdz ) l s k) n 0 (Jc YF N40 [.ptr 0 [], .ro 113 v0 v1 v2] [(0, .box false 98 (PV.st 98 [.st 39 [.st 34 [.sc (.int .i64 v3), .sc (.int .i64 v4)], .sc (.string v5), .ro 42 v6 v7 v8, .sc (.int .i64 v9), .ar 37 v10], .st 53 [.st 42 [.sc (.int .i64 v11), .sc (.int .i64 v12)], .sc (.int .i64 v13), .sc (.int .i64 v14), .ar 37 v15, .sc (.int .i64 v16), .ro 113 v17 v18 v19, .st 42 [.sc (.int .i64 v20), .sc (.int .i64 v21)]]]))]) (Jt tau 1 ZI k)) (fun x0 x1 x2 x3 x4 x5 x6 x7 x8 x9 x10 x11 x12 x13 x14 x15 x16 x17 x18 x19 => k Ex.ret (Jc ZI N40 [.sc (.int .i64 x0)] [(0, .box false 98 (PV.st 98 [.st 39 [.st 34 [.sc (.int .i64 x1), .sc (.int .i64 x2)], .sc (.string x3), .ro 42 x4 x5 x6, .sc (.int .i64 x7), .ar 37 x8], .st 53 [.st 42 [.sc (.int .i64 x9), .sc (.int .i64 x10)], .sc (.int .i64 x11), .sc (.int .i64 x12), .ar 37 x13, .sc (.int .i64 x14), .ro 113 x15 x16 x17, .st 42 [.sc (.int .i64 x18), .sc (.int .i64 x19)]]]))])) v0 v1 v2 v3 v4 v5 v6 v7 v8 v9 v10 v11 v12 v13 v14 v15 v16 v17 v18 v19 v20 v21 := by kernel_rfl
theorem JjR (f : Nat) (k : Kont) : ∀ (n : Nat) (v0 v1 : Bool) (v2 : List PV) (v3 v4 : Int) (v5 : ByteArray) (v6 v7 : Bool) (v8 : List PV) (v9 : Int) (v10 : List PV) (v11 v12 v13 v14 : Int) (v15 : List PV) (v16 : Int) (v17 v18 : Bool) (v19 : List PV) (v20 v21 : Int), J7 tau 1 YF (hasLabel GF) (fun l s k => JV tau F40 1 0 GF (Jdz ) l s k) n 0 (Jc YF N40 [.ptr 0 [], .ro 113 v0 v1 v2] [(0, .box false 98 (PV.st 98 [.st 39 [.st 34 [.sc (.int .i64 v3), .sc (.int .i64 v4)], .sc (.string v5), .ro 42 v6 v7 v8, .sc (.int .i64 v9), .ar 37 v10], .st 53 [.st 42 [.sc (.int .i64 v11), .sc (.int .i64 v12)], .sc (.int .i64 v13), .sc (.int .i64 v14), .ar 37 v15, .sc (.int .i64 v16), .ro 113 v17 v18 v19, .st 42 [.sc (.int .i64 v20), .sc (.int .i64 v21)]]]))]) (Jt tau 1 ZI k) = Jaf f (fun x0 x1 x2 x3 x4 x5 x6 x7 x8 x9 x10 x11 x12 x13 x14 x15 x16 x17 x18 x19 => k Ex.ret (Jc ZI N40 [.sc (.int .i64 x0)] [(0, .box false 98 (PV.st 98 [.st 39 [.st 34 [.sc (.int .i64 x1), .sc (.int .i64 x2)], .sc (.string x3), .ro 42 x4 x5 x6, .sc (.int .i64 x7), .ar 37 x8], .st 53 [.st 42 [.sc (.int .i64 x9), .sc (.int .i64 x10)], .sc (.int .i64 x11), .sc (.int .i64 x12), .ar 37 x13, .sc (.int .i64 x14), .ro 113 x15 x16 x17, .st 42 [.sc (.int .i64 x18), .sc (.int .i64 x19)]]]))])) n v0 v1 v2 v3 v4 v5 v6 v7 v8 v9 v10 v11 v12 v13 v14 v15 v16 v17 v18 v19 v20 v21 | 0, _, _, _, _, _, _, _, _, _, _, _, _, _, _, _, _, _, _, _, _, _, _ => rfl | n + 1, v0, v1, v2, v3, v4, v5, v6, v7, v8, v9, v10, v11, v12, v13, v14, v15, v16, v17, v18, v19, v20, v21 => (JpY f k n v0 v1 v2 v3 v4 v5 v6 v7 v8 v9 v10 v11 v12 v13 v14 v15 v16 v17 v18 v19 v20 v21).trans (congrArg (fun r => Jbb f r (fun x0 x1 x2 x3 x4 x5 x6 x7 x8 x9 x10 x11 x12 x13 x14 x15 x16 x17 x18 x19 => k Ex.ret (Jc ZI N40 [.sc (.int .i64 x0)] [(0, .box false 98 (PV.st 98 [.st 39 [.st 34 [.sc (.int .i64 x1), .sc (.int .i64 x2)], .sc (.string x3), .ro 42 x4 x5 x6, .sc (.int .i64 x7), .ar 37 x8], .st 53 [.st 42 [.sc (.int .i64 x9), .sc (.int .i64 x10)], .sc (.int .i64 x11), .sc (.int .i64 x12), .ar 37 x13, .sc (.int .i64 x14), .ro 113 x15 x16 x17, .st 42 [.sc (.int .i64 x18), .sc (.int .i64 x19)]]]))])) v0 v1 v2 v3 v4 v5 v6 v7 v8 v9 v10 v11 v12 v13 v14 v15 v16 v17 v18 v19 v20 v21) (by funext v0 v1 v2 v3 v4 v5 v6 v7 v8 v9 v10 v11 v12 v13 v14 v15 v16 v17 v18 v19 v20 v21; exact JjR f k n v0 v1 v2 v3 v4 v5 v6 v7 v8 v9 v10 v11 v12 v13 v14 v15 v16 v17 v18 v19 v20 v21))
def Jcl (f : Nat) : Nat -> List PV -> List (Nat × Ent) -> Kont -> Option Res
 | 0, [.ptr 0 [],
 PV.ro 113 v0 v1
  v2], [(0,
  Ent.box false 98
   (PV.st 98
    [.st 39 [.st 34 [.sc (.int .i64 v3), .sc (.int .i64 v4)], .sc (.string v5), .ro 42 v6 v7 v8, .sc (.int .i64 v9), .ar 37 v10],
     PV.st 53
      [.st 42 [.sc (.int .i64 v11), .sc (.int .i64 v12)], .sc (.int .i64 v13), .sc (.int .i64 v14), .ar 37 v15,
       .sc (.int .i64 v16), .ro 113 v17 v18 v19,
       PV.st 42
        [.sc (.int .i64 v20),
         PV.sc
          (Value.int IntKind.i64
           v21)]]]))], k => Jaf f (fun x0 x1 x2 x3 x4 x5 x6 x7 x8 x9 x10 x11 x12 x13 x14 x15 x16 x17 x18 x19 => k Ex.ret (Jc ZI N40 [PV.sc
  (Value.int IntKind.i64
   x0)] [(0,
  Ent.box false 98
   (PV.st 98
    [.st 39 [.st 34 [.sc (.int .i64 x1), .sc (.int .i64 x2)], .sc (.string x3), .ro 42 x4 x5 x6, .sc (.int .i64 x7), .ar 37 x8],
     PV.st 53
      [.st 42 [.sc (.int .i64 x9), .sc (.int .i64 x10)], .sc (.int .i64 x11), .sc (.int .i64 x12), .ar 37 x13,
       .sc (.int .i64 x14), .ro 113 x15 x16 x17,
       PV.st 42 [.sc (.int .i64 x18), .sc (.int .i64 x19)]]]))])) f v0 v1 v2 v3 v4 v5 v6 v7 v8 v9 v10 v11 v12 v13 v14 v15 v16 v17 v18 v19 v20 v21
 | _, _, _, _ => none
theorem JuE (f : Nat) : Je GF Jdz = [] := by kernel_rfl
theorem JuF (f : Nat) : (Item.s GF YF N40 (Jcl f)).Ok tau Try.prog 1 := W4 Jq JmZ Js (x := Jdz) (nm2 := ZI) (Jl _ _ (by rw [JuE f]; intro q hq; cases hq)) fun l vs hp k res hr => by
 unfold Jcl at hr
 split at hr
 · exact ⟨f, 0, (JjR f _ f _ _ _ _ _ _ _ _ _ _ _ _ _ _ _ _ _ _ _ _ _ _ ).trans hr⟩
 · cases hr
def g40 (f : Nat) (y0 y1 : Int) (y2 : ByteArray) (y3 y4 : Bool) (y5 : List PV) (y6 : Int) (y7 : List PV) (y8 y9 y10 y11 : Int) (y12 : List PV) (y13 : Int) (y14 y15 : Bool) (y16 : List PV) (y17 y18 : Int) (o_z o_f : Bool) (o : List PV) (k : Res -> Option Res) : Option Res := bif y13 == 1 then bif cOk o then bif ckO o != 0 then k (Res.mk (.sc (.int .i64 (ckO o))) [.box false 98 (PV.st 98 [.st 39 [.st 34 [.sc (.int .i64 y0), .sc (.int .i64 y1)], .sc (.string y2), .ro 42 y3 y4 y5, .sc (.int .i64 y6), .ar 37 y7], .st 53 [.st 42 [.sc (.int .i64 y8), .sc (.int .i64 y9)], .sc (.int .i64 y10), .sc (.int .i64 y11), .ar 37 y12, .sc (.int .i64 y13), .ro 113 y14 y15 y16, .st 42 [.sc (.int .i64 y17), .sc (.int .i64 y18)]]])] []) else bif aOk o && decide (y2.size <= 10000) then k (Res.mk (.sc (.int .i64 (apE (AP.mk y2 o)))) [.box false 98 (PV.st 98 [.st 39 [.st 34 [.sc (.int .i64 y0), .sc (.int .i64 y1)], .sc (.string (apD (AP.mk y2 o))), .ro 42 y3 y4 y5, .sc (.int .i64 y6), .ar 37 y7], .st 53 [.st 42 [.sc (.int .i64 y8), .sc (.int .i64 y9)], .sc (.int .i64 y10), .sc (.int .i64 y11), .ar 37 y12, .sc (.int .i64 y13), .ro 113 y14 y15 y16, .st 42 [.sc (.int .i64 y17), .sc (.int .i64 y18)]]])] []) else none else none else bif y13 == 2 then bif decide (zi o.length > 0) then Jaf f (fun x0_0 x1_0 x2_0 x3_0 x4_0 x5_0 QE x7_0 x8_0 x9_0 x10_0 Jn x12_0 QU x14_0 x15_0 x16_0 x17_0 x18_0 x19_0 => k (Res.mk (.sc (.int .i64 x0_0)) [.box false 98 (PV.st 98 [.st 39 [.st 34 [.sc (.int .i64 x1_0), .sc (.int .i64 x2_0)], .sc (.string x3_0), .ro 42 x4_0 x5_0 QE, .sc (.int .i64 x7_0), .ar 37 x8_0], .st 53 [.st 42 [.sc (.int .i64 x9_0), .sc (.int .i64 x10_0)], .sc (.int .i64 Jn), .sc (.int .i64 x12_0), .ar 37 QU, .sc (.int .i64 x14_0), .ro 113 x15_0 x16_0 x17_0, .st 42 [.sc (.int .i64 x18_0), .sc (.int .i64 x19_0)]]])] [])) f o_z o_f o y0 y1 y2 y3 y4 y5 y6 y7 y8 y9 y10 y11 y12 y13 y14 y15 y16 y17 y18 else bif pOk y5 && zOk y3 y5 then k (Res.mk (.sc (.int .i64 (adE (PH.mk y5 (AV.mk y17 y18))))) [.box false 98 (PV.st 98 [.st 39 [.st 34 [.sc (.int .i64 y0), .sc (.int .i64 y1)], .sc (.string y2), .ro 42 (adF (PH.mk y5 (AV.mk y17 y18)) && y3) (adF (PH.mk y5 (AV.mk y17 y18)) && y3) (adL (PH.mk y5 (AV.mk y17 y18))), .sc (.int .i64 y6), .ar 37 y7], .st 53 [.st 42 [.sc (.int .i64 y8), .sc (.int .i64 y9)], .sc (.int .i64 y10), .sc (.int .i64 y11), .ar 37 y12, .sc (.int .i64 y13), .ro 113 y14 y15 y16, .st 42 [.sc (.int .i64 y17), .sc (.int .i64 y18)]]])] []) else none else bif decide (zi o.length > 0) then Jaf f (fun x0_1 x1_1 x2_1 x3_1 x4_1 x5_1 x6_1 x7_1 x8_1 x9_1 x10_1 x11_1 x12_1 x13_1 x14_1 x15_1 x16_1 x17_1 x18_1 x19_1 => k (Res.mk (.sc (.int .i64 x0_1)) [.box false 98 (PV.st 98 [.st 39 [.st 34 [.sc (.int .i64 x1_1), .sc (.int .i64 x2_1)], .sc (.string x3_1), .ro 42 x4_1 x5_1 x6_1, .sc (.int .i64 x7_1), .ar 37 x8_1], .st 53 [.st 42 [.sc (.int .i64 x9_1), .sc (.int .i64 x10_1)], .sc (.int .i64 x11_1), .sc (.int .i64 x12_1), .ar 37 x13_1, .sc (.int .i64 x14_1), .ro 113 x15_1 x16_1 x17_1, .st 42 [.sc (.int .i64 x18_1), .sc (.int .i64 x19_1)]]])] [])) f o_z o_f o y0 y1 y2 y3 y4 y5 y6 y7 y8 y9 y10 y11 y12 y13 y14 y15 y16 y17 y18 else bif pOk y5 && zOk y3 y5 then k (Res.mk (.sc (.int .i64 (rmE (PH.mk y5 (AV.mk y17 y18))))) [.box false 98 (PV.st 98 [.st 39 [.st 34 [.sc (.int .i64 y0), .sc (.int .i64 y1)], .sc (.string y2), .ro 42 (rmZ (PH.mk y5 (AV.mk y17 y18)) y3) (rmF (PH.mk y5 (AV.mk y17 y18)) y3) (rmL (PH.mk y5 (AV.mk y17 y18))), .sc (.int .i64 y6), .ar 37 y7], .st 53 [.st 42 [.sc (.int .i64 y8), .sc (.int .i64 y9)], .sc (.int .i64 y10), .sc (.int .i64 y11), .ar 37 y12, .sc (.int .i64 y13), .ro 113 y14 y15 y16, .st 42 [.sc (.int .i64 y17), .sc (.int .i64 y18)]]])] []) else none
theorem e40 (f : Nat) (y0 y1 : Int) (y2 : ByteArray) (y3 y4 : Bool) (y5 : List PV) (y6 : Int) (y7 : List PV) (y8 y9 y10 y11 : Int) (y12 : List PV) (y13 : Int) (y14 y15 : Bool) (y16 : List PV) (y17 y18 : Int) (o_z o_f : Bool) (o : List PV) (k : Res -> Option Res) : JL tau F40 Try.f40 (Try.f40.body.get!) (JpX (Jcl f)) [.ro] 0 [.ptr 0 [], .ro 113 o_z o_f o] [.box false 98 (.st 98 [.st 39 [.st 34 [.sc (.int .i64 y0), .sc (.int .i64 y1)], .sc (.string y2), .ro 42 y3 y4 y5, .sc (.int .i64 y6), .ar 37 y7], .st 53 [.st 42 [.sc (.int .i64 y8), .sc (.int .i64 y9)], .sc (.int .i64 y10), .sc (.int .i64 y11), .ar 37 y12, .sc (.int .i64 y13), .ro 113 y14 y15 y16, .st 42 [.sc (.int .i64 y17), .sc (.int .i64 y18)]]])] k = g40 f y0 y1 y2 y3 y4 y5 y6 y7 y8 y9 y10 y11 y12 y13 y14 y15 y16 y17 y18 o_z o_f o k := by kernel_rfl
theorem JCQ (f : Nat) : Je (Try.f40.body.get!) (JpX (Jcl f)) = [.s GF YF N40 (Jcl f)] := by kernel_rfl
theorem JCR (f : Nat) : ∀ q ∈ Je (Try.f40.body.get!) (JpX (Jcl f)), q.Ok tau Try.prog 1 := by
 rw [JCQ f]; simp only [List.forall_mem_cons, List.not_mem_nil, false_implies, implies_true, and_true]; exact JuF f
theorem JzR : Try.prog.funcs[40]? = some Try.f40 := by kernel_rfl
theorem JzS : Try.f40.body = some (Try.f40.body.get!) := by kernel_rfl
theorem JCS : Enters Try.prog 40 := enters_of JzR (by kernel_rfl) JzS
-- FN (*wavelet.doing).change
structure CX where
 (kd : Int) (w : AV) (doc : ByteArray) (l o : List PV)
def JpZ (x : CX) : Int := bif x.kd == 1 then (bif ckO x.o != 0 then ckO x.o else apE ⟨x.doc, x.o⟩) else bif decide (zi x.o.length > 0) then 1 else bif x.kd == 2 then adE ⟨x.l, x.w⟩ else rmE ⟨x.l, x.w⟩
def Jp0 (x : CX) : ByteArray := bif x.kd == 1 then (bif ckO x.o != 0 then x.doc else apD ⟨x.doc, x.o⟩) else x.doc
def Jp1 (x : CX) : List PV := bif x.kd == 1 then x.l else bif decide (zi x.o.length > 0) then x.l else bif x.kd == 2 then adL ⟨x.l, x.w⟩ else rmL ⟨x.l, x.w⟩
def Jp2 (x : CX) (z : Bool) : Bool := bif x.kd == 1 then z else bif decide (zi x.o.length > 0) then z else bif x.kd == 2 then (adF ⟨x.l, x.w⟩ && z) else rmZ ⟨x.l, x.w⟩ z
def JuG (x : CX) (z f : Bool) : Bool := bif x.kd == 1 then f else bif decide (zi x.o.length > 0) then f else bif x.kd == 2 then (adF ⟨x.l, x.w⟩ && z) else rmF ⟨x.l, x.w⟩ z
def ccE : CX -> Int := hid JpZ
def ccD : CX -> ByteArray := hid Jp0
def ccL : CX -> List PV := hid Jp1
def ccZ : CX -> Bool -> Bool := hid Jp2
def ccF : CX -> Bool -> Bool -> Bool := hid JuG
theorem Jm0 (x : CX) : ccE x = JpZ x := by rw [ccE, hid_eq]
theorem Jm1 (x : CX) : ccD x = Jp0 x := by rw [ccD, hid_eq]
theorem Jm2 (x : CX) : ccL x = Jp1 x := by rw [ccL, hid_eq]
theorem Jm3 (x : CX) (z : Bool) : ccZ x z = Jp2 x z := by rw [ccZ, hid_eq]
theorem JuH (x : CX) (z f : Bool) : ccF x z f = JuG x z f := by rw [ccF, hid_eq]
def doP (ih iN : Int) (doc : ByteArray) (z f : Bool) (l : List PV) (ver : Int) (hash : List PV) (aD aU dI dV : Int) (dh : List PV) (kd : Int) (pz pf : Bool) (po : List PV) (wD wU : Int) : PV :=
 .st 98 [.st 39 [.st 34 [.sc (.int .i64 ih), .sc (.int .i64 iN)], .sc (.string doc), .ro 42 z f l, .sc (.int .i64 ver), .ar 37 hash],
  .st 53 [.st 42 [.sc (.int .i64 aD), .sc (.int .i64 aU)], .sc (.int .i64 dI), .sc (.int .i64 dV), .ar 37 dh, .sc (.int .i64 kd), .ro 113 pz pf po, .st 42 [.sc (.int .i64 wD), .sc (.int .i64 wU)]]]
theorem JuI (ih iN : Int) (doc : ByteArray) (z f : Bool) (l : List PV) (ver : Int) (hash : List PV) (aD aU dI dV : Int) (dh : List PV) (kd : Int) (pz pf : Bool) (po : List PV) (wD wU : Int) (oz of : Bool) (o : List PV)
  (ho : cOk o = true) (hd : doc.size <= 10000) (hl : pOk l = true) (hz : zOk z l = true) (k : Res -> Option Res) :
  g40 1 ih iN doc z f l ver hash aD aU dI dV dh kd pz pf po wD wU oz of o k =
   k ⟨.sc (.int .i64 (ccE ⟨kd, ⟨wD, wU⟩, doc, l, o⟩)), [.box false 98 (doP ih iN (ccD ⟨kd, ⟨wD, wU⟩, doc, l, o⟩) (ccZ ⟨kd, ⟨wD, wU⟩, doc, l, o⟩ z) (ccF ⟨kd, ⟨wD, wU⟩, doc, l, o⟩ z f) (ccL ⟨kd, ⟨wD, wU⟩, doc, l, o⟩) ver hash aD aU dI dV dh kd pz pf po wD wU)], []⟩ := by
 have hlz : (pOk l && zOk z l) = true := by rw [hl, hz]; rfl
 unfold g40 doP
 rw [Jm0, Jm1, Jm2, Jm3, JuH, JpZ, Jp0, Jp1, Jp2, JuG]
 simp only [Jaf, Jbb]
 cases h1 : (kd == 1) with
 | true =>
  simp only [cond_true]
  refine (Ja ho).trans ?_
  cases h2 : (ckO o != 0) with
  | true => rfl
  | false =>
   refine (Jj rfl).trans (Ja ?_)
   rw [Jmh ho (by simpa using h2), decide_eq_true hd]; rfl
 | false =>
  simp only [cond_false]
  cases h3 : decide (zi o.length > 0) with
  | true => cases h2 : (kd == 2) <;> rfl
  | false =>
   cases h2 : (kd == 2) <;> exact Ja hlz
def Jie : List PV -> List Ent -> (Res -> Option Res) -> Option Res
 | [.ptr 0 [], .ro 113 oz of o], [.box false 98 (.st 98 [.st 39 [.st 34 [.sc (.int .i64 ih), .sc (.int .i64 iN)], .sc (.string doc), .ro 42 z f l, .sc (.int .i64 ver), .ar 37 hash], .st 53 [.st 42 [.sc (.int .i64 aD), .sc (.int .i64 aU)], .sc (.int .i64 dI), .sc (.int .i64 dV), .ar 37 dh, .sc (.int .i64 kd), .ro 113 pz pf po, .st 42 [.sc (.int .i64 wD), .sc (.int .i64 wU)]]])], k =>
  bif cOk o && (decide (doc.size <= 10000) && (pOk l && zOk z l)) then k ⟨.sc (.int .i64 (ccE ⟨kd, ⟨wD, wU⟩, doc, l, o⟩)), [.box false 98 (.st 98 [.st 39 [.st 34 [.sc (.int .i64 ih), .sc (.int .i64 iN)], .sc (.string (ccD ⟨kd, ⟨wD, wU⟩, doc, l, o⟩)), .ro 42 (ccZ ⟨kd, ⟨wD, wU⟩, doc, l, o⟩ z) (ccF ⟨kd, ⟨wD, wU⟩, doc, l, o⟩ z f) (ccL ⟨kd, ⟨wD, wU⟩, doc, l, o⟩), .sc (.int .i64 ver), .ar 37 hash], .st 53 [.st 42 [.sc (.int .i64 aD), .sc (.int .i64 aU)], .sc (.int .i64 dI), .sc (.int .i64 dV), .ar 37 dh, .sc (.int .i64 kd), .ro 113 pz pf po, .st 42 [.sc (.int .i64 wD), .sc (.int .i64 wU)]]])], []⟩ else none
 | _, _, _ => none
def JzT : Sig := { own := [true], run := Jie }
theorem JzU : Jh tau Try.prog 40 JzT := Jh.mk' fun xs es k res hl hr => by
 change Jie xs es k = some res at hr
 unfold Jie at hr
 split at hr
 · rename_i oz of o ih iN doc z f l ver hash aD aU dI dV dh kd pz pf po wD wU
   obtain ⟨hc, hr⟩ := JI hr
   simp only [Bool.and_eq_true, decide_eq_true_eq] at hc
   obtain ⟨c1, c2, c3, c4⟩ := hc
   exact Qj Jq JmZ Js JzR JzS (JpX (Jcl 1)) [.ro] 1 0 (JCR 1) hl rfl ((e40 1 ih iN doc z f l ver hash aD aU dI dV dh kd pz pf po wD wU oz of o k).trans ((JuI ih iN doc z f l ver hash aD aU dI dV dh kd pz pf po wD wU oz of o c1 c2 c3 c4 k).trans hr))
 · cases hr
end
end Go.Proofs.Ythpmachmnoljeaa.Rx
