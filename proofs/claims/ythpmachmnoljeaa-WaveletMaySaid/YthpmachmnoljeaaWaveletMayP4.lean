/- What the functions of this law compute, and their plain laws. Conditions: none. -/
import Derived.Test.YthpmachmnoljeaaWaveletMayP3
namespace Go.Proofs.Ythpmachmnoljeaa.Rx
noncomputable section
open Go
set_option linter.unusedVariables false
set_option linter.unusedSimpArgs false
set_option maxRecDepth 100000
set_option maxHeartbeats 0
-- FN ref4.Apply
structure AP where
 (doc : ByteArray) (o : List PV)
def apl : List PV -> ByteArray -> Nat -> ByteArray -> ByteArray
 | [], _, _, out => out
 | p :: ps, doc, at1, out =>
  bif (cv p).kd == 1 then apl ps doc (at1 + (cv p).n.toNat) (out ++ doc.extract at1 (at1 + (cv p).n.toNat))
  else bif (cv p).kd == 2 then apl ps doc at1 (out ++ (cv p).s)
  else apl ps doc (at1 + (cv p).n.toNat) out
def Jgr (x : AP) : Int := bif inL x.o != zi x.doc.size then 7 else bif decide (outL x.o > 120) then 5 else 0
def apE : AP -> Int := hid Jgr
def apD : AP -> ByteArray := hid fun x => bif Jgr x == 0 then apl x.o x.doc 0 (ByteArray.mk (Array.mk [])) else ByteArray.mk (Array.mk [])
theorem JmJ (x : AP) : apE x = Jgr x := by rw [apE, hid_eq]
theorem JmK (x : AP) : apD x = bif Jgr x == 0 then apl x.o x.doc 0 (ByteArray.mk (Array.mk [])) else ByteArray.mk (Array.mk []) := by rw [apD, hid_eq]
theorem JaP (a b : ByteArray) : (a ++ b).size = a.size + b.size := ByteArray.size_append
theorem Jgs (a : ByteArray) (i j : Nat) (h : i <= j) (h2 : j <= a.size) : (a.extract i j).size = j - i := by rw [ByteArray.size_extract]; omega
theorem YC : ∀ {l : List PV}, (∀ p ∈ l, ckC (cv p) = 0) -> 0 <= inL l
 | [], _ => by simp [inL]
 | p :: l, h => by
  have h1 := (JeP (h p List.mem_cons_self)).1
  have h2 := YC fun q hq => h q (List.mem_cons_of_mem _ hq)
  simp only [inL]; omega
theorem ZD : ∀ {l : List PV}, (∀ p ∈ l, ckC (cv p) = 0) -> 0 <= outL l
 | [], _ => by simp [outL]
 | p :: l, h => by
  have h1 := (Jbf (h p List.mem_cons_self)).1
  have h2 := ZD fun q hq => h q (List.mem_cons_of_mem _ hq)
  simp only [outL]; omega
theorem GC : ∀ {l : List PV} {doc : ByteArray} {at1 : Nat} {out : ByteArray}, (∀ p ∈ l, ckC (cv p) = 0) -> (at1 : Int) + inL l <= doc.size -> ((apl l doc at1 out).size : Int) = out.size + outL l
 | [], _, _, _, _, _ => by simp [apl, outL]
 | p :: l, doc, at1, out, h, hi => by
  have hk := h p List.mem_cons_self
  have h' : ∀ q ∈ l, ckC (cv q) = 0 := fun q hq => h q (List.mem_cons_of_mem _ hq)
  have hn := YC h'
  simp only [apl, inL, outL] at hi ⊢
  rcases XS hk with ⟨h1, h2, h3, h4⟩ | ⟨h1, h2, h3, h4⟩
  · rcases h1 with h1 | h1
    · have e1 : inC (cv p) = (cv p).n := by unfold inC; rw [h1]; rfl
      have e2 : Q2 (cv p) = (cv p).n := by unfold Q2; rw [h1]; rfl
      rw [h1]
      refine (congrArg (fun b : ByteArray => (b.size : Int)) (Ja rfl)).trans ?_
      rw [GC h' (by omega), JaP, Jgs _ _ _ (by omega) (by omega)]; omega
    · have e1 : inC (cv p) = (cv p).n := by unfold inC; rw [h1]; rfl
      have e2 : Q2 (cv p) = (cv p).s.size := by unfold Q2; rw [h1]; rfl
      rw [h1]
      refine (congrArg (fun b : ByteArray => (b.size : Int)) ((Jj rfl).trans (Jj rfl))).trans ?_
      rw [GC h' (by omega)]; omega
  · have e1 : inC (cv p) = 0 := by unfold inC; rw [h1]; rfl
    have e2 : Q2 (cv p) = (cv p).s.size := by unfold Q2; rw [h1]; rfl
    rw [h1]
    refine (congrArg (fun b : ByteArray => (b.size : Int)) ((Jj rfl).trans (Ja rfl))).trans ?_
    rw [GC h' (by omega), JaP]; omega
theorem JmL : ∀ {l : List PV}, (∀ p ∈ l, ckC (cv p) = 0) -> inL l <= 120 * l.length
 | [], _ => by simp [inL]
 | p :: l, h => by
  have h1 := (JeP (h p List.mem_cons_self)).2
  have h2 := JmL fun q hq => h q (List.mem_cons_of_mem _ hq)
  simp only [inL, List.length_cons]; omega
theorem JmM {x : AP} (h : aOk x.o = true) : (apD x).size <= 120 := by
 obtain ⟨h1, h2, h3⟩ := YB.1 h
 rw [JmK]
 cases he : (Jgr x == 0) with
 | false => exact Nat.zero_le _
 | true =>
  rw [cond_true]
  unfold Jgr at he
  cases hi : (inL x.o != zi x.doc.size) with
  | true => rw [hi] at he; exact absurd (show false = true from he) (by decide)
  | false =>
   rw [hi] at he
   cases ho : decide (outL x.o > 120) with
   | true => rw [ho] at he; exact absurd (show false = true from he) (by decide)
   | false =>
    have ho := of_decide_eq_false ho
    have hi : inL x.o = zi x.doc.size := by simpa [bne] using hi
    have := GC (l := x.o) (doc := x.doc) (at1 := 0) (out := ByteArray.mk (Array.mk [])) h3 (by rw [hi]; simp [zi])
    have e : (ByteArray.mk (Array.mk ([] : List UInt8))).size = 0 := rfl
    rw [e] at this; omega


-- FN ref12.Add | ref12.Remove
def Q3 : List PV -> AV -> Nat
 | [], _ => 0
 | p :: ps, a => bif ltA (av p) a then Q3 ps a + 1 else 0
def Z4 (l : List PV) (a : AV) : List PV := l.take (Q3 l a) ++ adP a :: l.drop (Q3 l a)
theorem Jbg : ∀ (l : List PV) (a : AV), Q3 l a <= l.length
 | [], _ => Nat.zero_le _
 | p :: ps, a => by
  simp only [Q3, List.length_cons]
  have := Jbg ps a
  cases ltA (av p) a with
  | true => rw [cond_true]; omega
  | false => rw [cond_false]; omega
def VG (x : PH) : Int := bif !inA [x.a.d, 2, x.a.u, 7] then 1 else bif hasL x.l x.a then 12 else bif decide (x.l.length >= 8) then 4 else 0
def adE : PH -> Int := hid VG
def adL : PH -> List PV := hid fun x => bif VG x == 0 then Z4 x.l x.a else x.l
def adF : PH -> Bool := hid fun x => !(VG x == 0)
theorem JmN (x : PH) : adE x = VG x := by rw [adE, hid_eq]
theorem Jac (x : PH) : adL x = bif VG x == 0 then Z4 x.l x.a else x.l := by rw [adL, hid_eq]
theorem JmO (x : PH) : adF x = !(VG x == 0) := by rw [adF, hid_eq]
def JpX (x : PH) : Int := bif hasL x.l x.a then 0 else 2
def rmA (l : List PV) (a : AV) : List PV := l.filter fun p => !eqA (av p) a
def rmE : PH -> Int := hid JpX
def rmL : PH -> List PV := hid fun x => bif hasL x.l x.a then rmA x.l x.a else x.l
def rmZ : PH -> Bool -> Bool := hid fun x z => bif hasL x.l x.a then (rmA x.l x.a).isEmpty else z
def rmF : PH -> Bool -> Bool := hid fun x f => bif hasL x.l x.a then false else f
theorem JmP (x : PH) : rmE x = JpX x := by rw [rmE, hid_eq]
theorem Jad (x : PH) : rmL x = bif hasL x.l x.a then rmA x.l x.a else x.l := by rw [rmL, hid_eq]
theorem JmQ (x : PH) (z : Bool) : rmZ x z = bif hasL x.l x.a then (rmA x.l x.a).isEmpty else z := by rw [rmZ, hid_eq]
theorem JuM (x : PH) (z : Bool) : rmF x z = bif hasL x.l x.a then false else z := by rw [rmF, hid_eq]
/-! what stays -/
theorem Xf {p : PV} {l : List PV} : srt (p :: l) = true ↔ (∀ q ∈ l, ltA (av p) (av q) = true) /\ srt l = true := by
 simp only [srt, Bool.and_eq_true, List.all_eq_true]
theorem VH (P : PV -> Bool) : ∀ {l : List PV}, srt l = true -> srt (l.filter P) = true
 | [], _ => rfl
 | p :: l, h => by
  obtain ⟨h1, h2⟩ := Xf.1 h
  rw [List.filter_cons]
  cases P p with
  | false => exact VH P h2
  | true => exact Xf.2 ⟨fun q hq => h1 q (List.mem_filter.1 hq).1, VH P h2⟩
theorem JdE {a b c : AV} (h : ltA a b = true) (h2 : ltA b c = true) : ltA a c = true := by
 rw [WM] at *; omega
theorem JmR {a b : AV} (h : ltA a b = false) (h2 : eqA a b = false) : ltA b a = true := by
 have h1 : ¬ ltA a b = true := by rw [h]; decide
 have h3 : ¬ eqA a b = true := by rw [h2]; decide
 rw [WM] at h1
 rw [Qh] at h3
 rw [WM]
 rcases a with ⟨p, q⟩; rcases b with ⟨r, s⟩
 have : ¬ (p = r /\ q = s) := fun ⟨x, y⟩ => h3 (by rw [x, y])
 simp only at h1 ⊢
 omega
theorem JdF (p : PV) (l : List PV) (a : AV) : Z4 (p :: l) a = bif ltA (av p) a then p :: Z4 l a else adP a :: p :: l := by
 unfold Z4
 simp only [Q3]
 cases ltA (av p) a with
 | true => simp
 | false => simp
theorem GD {a : AV} {q : PV} : ∀ {l : List PV}, q ∈ Z4 l a -> q = adP a ∨ q ∈ l
 | [], h => by simp [Z4, Q3] at h; exact .inl h
 | p :: l, h => by
  rw [JdF] at h
  cases hc : ltA (av p) a with
  | true =>
   rw [hc, cond_true] at h
   rcases List.mem_cons.1 h with h | h
   · exact .inr (h ▸ List.mem_cons_self)
   · rcases GD h with h | h
     · exact .inl h
     · exact .inr (List.mem_cons_of_mem _ h)
  | false =>
   rw [hc, cond_false] at h
   exact List.mem_cons.1 h
theorem Jgt {a : AV} : ∀ {l : List PV}, srt l = true -> hasL l a = false -> srt (Z4 l a) = true
 | [], _, _ => rfl
 | p :: l, h, hh => by
  obtain ⟨h1, h2⟩ := Xf.1 h
  have hh2 : eqA (av p) a = false /\ hasL l a = false := by
   have : hasL (p :: l) a = (eqA (av p) a || hasL l a) := rfl
   rw [this, Bool.or_eq_false_iff] at hh; exact hh
  rw [JdF]
  cases hc : ltA (av p) a with
  | true =>
   rw [cond_true]
   refine Xf.2 ⟨fun q hq => ?_, Jgt h2 hh2.2⟩
   rcases GD hq with rfl | hq
   · exact hc
   · exact h1 q hq
  | false =>
   rw [cond_false]
   have hl := JmR hc hh2.1
   refine Xf.2 ⟨fun q hq => ?_, h⟩
   rcases List.mem_cons.1 hq with rfl | hq
   · exact hl
   · exact JdE hl (h1 q hq)
theorem ZE (l : List PV) (a : AV) : (Z4 l a).length = l.length + 1 := by
 have := Jbg l a
 simp [Z4]; omega
theorem JpY {x : PH} (h : pOk x.l = true) : pOk (adL x) = true := by
 rw [Jac]
 cases he : (VG x == 0) with
 | false => exact h
 | true =>
  rw [cond_true]
  obtain ⟨h1, h2, h3⟩ := Q1.1 h
  unfold VG at he
  cases hu : inA [x.a.d, 2, x.a.u, 7] with
  | false => rw [hu] at he; exact absurd (show false = true from he) (by decide)
  | true =>
   rw [hu] at he
   cases hh : hasL x.l x.a with
   | true => rw [hh] at he; exact absurd (show false = true from he) (by decide)
   | false =>
    rw [hh] at he
    by_cases h8 : x.l.length >= 8
    · rw [decide_eq_true h8] at he; exact absurd (show false = true from he) (by decide)
    · refine Q1.2 ⟨List.all_eq_true.2 fun q hq => ?_, Jgt h2 hh, by rw [ZE]; omega⟩
      rcases GD hq with rfl | hq
      · rfl
      · exact List.all_eq_true.1 h1 q hq
theorem JpZ {x : PH} (h : pOk x.l = true) : pOk (rmL x) = true := by
 rw [Jad]
 cases hasL x.l x.a with
 | false => exact h
 | true =>
  obtain ⟨h1, h2, h3⟩ := Q1.1 h
  exact Q1.2 ⟨List.all_eq_true.2 fun q hq => List.all_eq_true.1 h1 q (List.mem_filter.1 hq).1, VH _ h2, by have := List.length_filter_le (fun p => !eqA (av p) x.a) x.l; show (rmA x.l x.a).length <= 8; unfold rmA; omega⟩

theorem JC1 {τ : Tab} {m : Nat} {a b c : TypeId} {pvs : List PV} (h : TyL τ m [a, b, c] pvs) : ∃ p q r, pvs = [p, q, r] /\ Ty τ m a p /\ Ty τ m b q /\ Ty τ m c r := by
 match pvs, h with
 | [p, q, r], h => exact ⟨p, q, r, rfl, h.1, h.2.1, h.2.2.1⟩
def F12 : Fns := F0
theorem JuN : Jy tau Try.prog F12 := JE
def Jp0 : An := (.seq .leaf (.seq .leaf (.seq .leaf .leaf)))
def g12 (f : Nat) (b_z b_f : Bool) (b : List PV) (k : Res -> Option Res) : Option Res := bif decide (0 <= JK (zi b.length) 60) && true && decide ((JK (zi b.length) 60).toNat <= b.length) && true then bif Jf (2 + (List.take (JK (zi b.length) 60).toNat b).length) 1 && true then bif Jf (2 + (List.take (JK (zi b.length) 60).toNat b).length) 1 && true then bif Jf (2 + (List.take (JK (zi b.length) 60).toNat b).length) 1 && true then k (Res.mk (.st 31 [.ro 5 false false (List.take (2 + (List.take (JK (zi b.length) 60).toNat b).length) (.sc (.int .u8 107) :: .sc (.int .u8 48) :: id (List.take (JK (zi b.length) 60).toNat b))), .ro 5 false false (List.take (2 + (List.take (JK (zi b.length) 60).toNat b).length) (.sc (.int .u8 107) :: .sc (.int .u8 49) :: id (List.take (JK (zi b.length) 60).toNat b))), .ro 5 false false (List.take (2 + (List.take (JK (zi b.length) 60).toNat b).length) (.sc (.int .u8 107) :: .sc (.int .u8 50) :: id (List.take (JK (zi b.length) 60).toNat b)))]) [] []) else none else none else none else none
theorem e12 (f : Nat) (b_z b_f : Bool) (b : List PV) (k : Res -> Option Res) : JM tau F12 Try.f12 (Try.f12.body.get!) Jp0 [.ro] 0 [.ro 5 b_z b_f b] [] k = g12 f b_z b_f b k := by kernel_rfl
theorem JC2 (f : Nat) : Je (Try.f12.body.get!) Jp0 = [] := by kernel_rfl
theorem JC3 (f : Nat) : ∀ q ∈ Je (Try.f12.body.get!) Jp0, q.Ok tau Try.prog 0 := by
 rw [JC2 f]; intro q hq; cases hq
theorem Jzv : Try.prog.funcs[12]? = some Try.f12 := by kernel_rfl
theorem Jzw : Try.f12.body = some (Try.f12.body.get!) := by kernel_rfl
theorem JC4 : Enters Try.prog 12 := enters_of Jzv (by kernel_rfl) Jzw
def JmS : List PV -> List Ent -> (Res -> Option Res) -> Option Res
 | [.ro 5 b_z b_f b], [], k => g12 0 b_z b_f b k
 | _, _, _ => none
def s12 : Sig := { own := [], run := JmS }
theorem JC5 : Jh tau Try.prog 12 s12 := JW Jr JuN Js Jzv Jzw Jp0 [.ro] 0 [] JmS (JC3 0) fun xs es k res hr => by
 unfold JmS at hr
 split at hr
 · exact ⟨rfl, 0, (e12 0 _ _ _  _).trans hr⟩
 · cases hr


theorem JaQ (n : Int) (i : Nat) (h : 8 * i < 64) : ib n i = (n % 18446744073709551616) / (2 ^ (8 * i)) % 256 := by
 unfold ib JA
 rw [W9, QU]
 have : min (8 * (i : Int)).toNat IntKind.u64.bits = 8 * i := by
  show min _ 64 = _
  omega
 rw [this, Int.fdiv_eq_ediv_of_nonneg _ (Int.pow_nonneg (by decide))]
theorem JkN (n : Int) : XA (JT n) = n % 18446744073709551616 := by
 rw [WG]
 simp only [Jjq, XA]
 have e0 : ib n 0 = n % 18446744073709551616 / 2 ^ (8 * 0) % 256 := JaQ n 0 (by decide)
 have e1 : ib n 1 = n % 18446744073709551616 / 2 ^ (8 * 1) % 256 := JaQ n 1 (by decide)
 have e2 : ib n 2 = n % 18446744073709551616 / 2 ^ (8 * 2) % 256 := JaQ n 2 (by decide)
 have e3 : ib n 3 = n % 18446744073709551616 / 2 ^ (8 * 3) % 256 := JaQ n 3 (by decide)
 have e4 : ib n 4 = n % 18446744073709551616 / 2 ^ (8 * 4) % 256 := JaQ n 4 (by decide)
 have e5 : ib n 5 = n % 18446744073709551616 / 2 ^ (8 * 5) % 256 := JaQ n 5 (by decide)
 have e6 : ib n 6 = n % 18446744073709551616 / 2 ^ (8 * 6) % 256 := JaQ n 6 (by decide)
 have e7 : ib n 7 = n % 18446744073709551616 / 2 ^ (8 * 7) % 256 := JaQ n 7 (by decide)
 simp only [Nat.reduceMul, Int.reducePow] at e0 e1 e2 e3 e4 e5 e6 e7
 omega
theorem JcF (n : Int) : IntKind.i64.wrap (n % 18446744073709551616) = IntKind.i64.wrap n := by
 have h : n % 18446744073709551616 % 18446744073709551616 = n % 18446744073709551616 := Int.emod_emod_of_dvd n (Int.dvd_refl _)
 show (if _ then _ else _) = (if _ then _ else _)
 have e : ∀ x : Int, x % 2 ^ IntKind.i64.bits = x % 18446744073709551616 := fun x => rfl
 simp only [e, h]
def i64B (n : Int) : Bool := decide (-9223372036854775808 <= n) && decide (n < 9223372036854775808)
theorem JeQ {n : Int} (h : i64B n = true) : IntKind.i64.wrap (n % 18446744073709551616) = n := by
 simp only [i64B, Bool.and_eq_true, decide_eq_true_eq] at h
 have e : IntKind.i64.wrap (n % 18446744073709551616) = IntKind.i64.wrap n := JcF n
 rw [e]; exact wrap_i64 h.1 h.2
theorem JmT (l : List Int) (r : List PV) {n : Nat} (h : l.length = n) : QB n ⟨pu .u8 l ++ r, 0⟩ = pu .u8 l := by
 unfold QB Y3
 have : Nat.ble n (pu .u8 l ++ r).length = true := (Nat.ble_eq ▸ (by simp; omega) : Nat.ble n (pu .u8 l ++ r).length = true)
 rw [this]
 show List.take n (pu .u8 l ++ r) = _
 rw [List.take_append_of_le_length (by simp; omega), List.take_of_length_le (by simp; omega)]
theorem GE (l : List Int) (r : List PV) {n : Nat} (h : l.length = n) : Qd n ⟨pu .u8 l ++ r, 0⟩ = ⟨r, 0⟩ := by
 unfold Qd Y3
 have : Nat.ble n (pu .u8 l ++ r).length = true := (Nat.ble_eq ▸ (by simp; omega) : Nat.ble n (pu .u8 l ++ r).length = true)
 rw [this]
 show RS.mk (List.drop n (pu .u8 l ++ r)) 0 = _
 rw [List.drop_append_of_le_length (by simp; omega), List.drop_of_length_le (by simp; omega), List.nil_append]
theorem JeR (l : List Int) (r : List PV) {n : Nat} (h : l.length = n) : Wq n ⟨pu .u8 l ++ r, 0⟩ = IntKind.i64.wrap (XA l) := by
 unfold Wq; rw [JmT l r h, Q0]
theorem YD {n : Int} (h : i64B n = true) (r : List PV) : JB 8 ⟨pu .u8 (JT n) ++ r, 0⟩ = n := by
 rw [Xm, JeR _ _ (Wr n), JkN, JeQ h]
theorem QG (n : Int) (r : List PV) : Jb 8 ⟨pu .u8 (JT n) ++ r, 0⟩ = ⟨r, 0⟩ := by
 rw [Xa, GE _ _ (Wr n)]
theorem Jci (n : Int) (r : List PV) : JB 1 ⟨pu .u8 [IntKind.u8.wrap n] ++ r, 0⟩ = IntKind.u8.wrap n := by
 rw [Xm, JeR [IntKind.u8.wrap n] r (n := 1) rfl]
 have := Yd n
 simp only [XA]
 rw [wrap_i64 (by omega) (by omega)]; omega
theorem ZZ (n : Int) (r : List PV) : Jb 1 ⟨pu .u8 [IntKind.u8.wrap n] ++ r, 0⟩ = ⟨r, 0⟩ := by
 rw [Xa, GE [IntKind.u8.wrap n] r (n := 1) rfl]
theorem Jp1 (l : List PV) (h : byB l = true) : Jg (⟨(Jn l).toArray⟩ : ByteArray) = l := by
 simp only [Jg]
 show (Jn l).map _ = l
 induction l with
 | nil => rfl
 | cons p ps ih =>
  have h1 : (p.isInt .u8 && (decide (0 <= p.int) && decide (p.int < 256))) = true /\ byB ps = true := by
   have : byB (p :: ps) = ((p.isInt .u8 && (decide (0 <= p.int) && decide (p.int < 256))) && byB ps) := rfl
   rw [this, Bool.and_eq_true] at h; exact h
  simp only [Jn, List.map_cons, ih h1.2]
  congr 1
  have h2 := h1.1
  simp only [Bool.and_eq_true, decide_eq_true_eq] at h2
  obtain ⟨h2, h3, h4⟩ := h2
  match p, h2 with
  | .sc (.int .u8 x), _ =>
   simp only [PV.int] at h3 h4 ⊢
   congr 2
   simp [UInt8.toNat_ofNat]
   omega
  all_goals skip
theorem JjR {t : ByteArray} (h : t.size <= 65535) (r : List PV) : JU ⟨pu .u8 (Qn t) ++ r, 0⟩ = t /\ J2 ⟨pu .u8 (Qn t) ++ r, 0⟩ = ⟨r, 0⟩ := by
 have hn : ∀ r, Wq 2 ⟨pu .u8 [IntKind.u8.wrap (zi t.size), IntKind.u8.wrap (JA .i64 (zi t.size) 8)] ++ r, 0⟩ = (t.size : Int) := by
  intro r
  rw [JeR [IntKind.u8.wrap (zi t.size), IntKind.u8.wrap (JA .i64 (zi t.size) 8)] r (n := 2) rfl]
  simp only [XA, JA, W9, zi]
  have : min (8 : Int).toNat IntKind.i64.bits = 8 := by decide
  rw [this, Int.fdiv_eq_ediv_of_nonneg _ (by decide), wrap_i64 (by omega) (by omega)]
  omega
 have hs : ∀ r, Qd 2 ⟨pu .u8 [IntKind.u8.wrap (zi t.size), IntKind.u8.wrap (JA .i64 (zi t.size) 8)] ++ r, 0⟩ = ⟨r, 0⟩ := fun r => GE _ _ rfl
 have he : pu .u8 (Qn t) ++ r = pu .u8 [IntKind.u8.wrap (zi t.size), IntKind.u8.wrap (JA .i64 (zi t.size) 8)] ++ (pu .u8 (bsI t) ++ r) := by
  rw [Xc, Zb, JQ, List.append_assoc]
 rw [Jbb, Jba, he]
 unfold JfP JfO
 rw [hn, hs, Int.toNat_natCast, JmT _ _ (Vo t), GE _ _ (Vo t)]
 refine ⟨?_, rfl⟩
 rw [← Wd]
 apply ByteArray.ext
 apply Array.ext'
 show Jn (Jg t) = t.data.toList
 simp only [Jg]
 generalize t.data.toList = l
 induction l with
 | nil => rfl
 | cons x l ih =>
  simp only [List.map_cons, Jn, ih, PV.int]
  congr 1
  simp
theorem JmU : ∀ (l : List Int) (r : List PV), (∀ x ∈ l, 0 <= x /\ x < 256) -> G7 l.length ⟨pu .u8 l ++ r, 0⟩ = ⟨r, 0⟩ /\ G8 l.length ⟨pu .u8 l ++ r, 0⟩ = l
 | [], r, _ => ⟨rfl, rfl⟩
 | x :: l, r, h => by
  have h2 := JmU l r fun y hy => h y (List.mem_cons_of_mem _ hy)
  have hx := h x List.mem_cons_self
  have e1 : Qd 1 ⟨pu .u8 (x :: l) ++ r, 0⟩ = ⟨pu .u8 l ++ r, 0⟩ := by
   rw [show pu .u8 (x :: l) ++ r = pu .u8 [x] ++ (pu .u8 l ++ r) from rfl, GE [x] _ (n := 1) rfl]
  have e2 : Wq 1 ⟨pu .u8 (x :: l) ++ r, 0⟩ = x := by
   rw [show pu .u8 (x :: l) ++ r = pu .u8 [x] ++ (pu .u8 l ++ r) from rfl, JeR [x] _ (n := 1) rfl]
   simp only [XA]
   rw [wrap_i64 (by omega) (by omega)]; omega
  simp only [List.length_cons, G7, G8, e1, e2, h2.1, h2.2, true_and]
  rw [W9]; congr 1; omega
structure MsgOk (ns : List Int) (ts : List ByteArray) (h : List Int) : Prop where
 len : ns.length = 12
 num : ∀ n, n < 12 -> i64B (ns.getD n 0) = true
 cnt : ts.length <= 4
 txt : ∀ t ∈ ts, t.size <= 65535
 sum : h.length = 32
 sumB : ∀ x ∈ h, 0 <= x /\ x < 256
-- FN law9.Keys | law16.Good | law16.Few
def kb : Nat -> List PV -> List PV := hid fun i b => pu .u8 [107, 48 + i] ++ b.take 60
theorem Jsg (i : Nat) (b : List PV) : kb i b = pu .u8 [107, 48 + i] ++ b.take 60 := by rw [kb, hid_eq]
theorem Jzx (i : Nat) {b : List PV} (h : Jl .u8 b = true) : kOk (kb i b) = true := by
 rw [Jsg]; unfold kOk
 have h2 : Jl .u8 (b.take 60) = true := by
  rw [Ql h, Xk]; simp
 rw [QF, h2, JN]
 simp; omega
def Jin : List PV -> List Ent -> (Res -> Option Res) -> Option Res
 | [.ro 5 z f b], [], k => k ⟨.st 31 [.ro 5 false false (kb 0 b), .ro 5 false false (kb 1 b), .ro 5 false false (kb 2 b)], [], []⟩
 | _, _, _ => none
def Jzy : Sig := { own := [], run := Jin }
theorem Jzz (n m : Nat) : (JK (zi n) m).toNat = min n m := by unfold JK; simp only [zi]; split <;> omega
theorem JzA : Jh tau Try.prog 12 Jzy := JC5.of fun xs es k res hr => by
 change Jin xs es k = some res at hr
 unfold Jin at hr
 split at hr
 · rename_i z f b
   show g12 0 z f b k = some res
   have hm : (JK (zi b.length) 60).toNat = min b.length 60 := Jzz b.length 60
   have ht : List.take (min b.length 60) b = b.take 60 := by rw [Nat.min_comm, List.take_eq_take_iff]; omega
   have hl : (b.take 60).length <= 60 := by simp; omega
   have e : ∀ x y : Int, List.take (2 + (b.take 60).length) (.sc (.int .u8 x) :: .sc (.int .u8 y) :: id (b.take 60)) = .sc (.int .u8 x) :: .sc (.int .u8 y) :: b.take 60 := fun x y => List.take_of_length_le (by simp; omega)
   have hk : ∀ i, kb i b = .sc (.int .u8 107) :: .sc (.int .u8 (48 + i)) :: b.take 60 := fun i => by rw [Jsg]; simp
   unfold g12
   simp only [hm, ht, e]
   have hr4 : Jf (2 + (b.take 60).length) 1 = true := by simp only [Jf, Nat.mul_one, decide_eq_true_eq]; omega
   rw [Ja (by simp; unfold JK; simp only [zi]; split <;> omega), hr4]
   simp only [hk] at hr
   exact hr
 · cases hr
def JuO : Nat -> C13 -> Int
 | 0, c => 1 + c.kd % 5
 | 1, c => c.fr % 3
 | 2, c => (c.fr % 3 + 1 + c.to % 2) % 3
 | 3, c => c.wh % 3
 | 4, c => c.wn % 100
 | 5, c => c.cd % 3
 | 6, c => c.cu % 8
 | 7, c => c.ve % 1073741824
 | 8, c => c.co % 1073741824
 | 9, c => c.ad % 3
 | 10, c => c.au % 8
 | 11, c => c.su % 1073741824
 | _, c => c.er % 256
def XT : Nat -> C13 -> Int := hid JuO
noncomputable abbrev JD9 (c : C13) : C13 := ⟨XT 0 c, XT 1 c, XT 2 c, XT 3 c, XT 4 c, XT 5 c, XT 6 c, XT 7 c, XT 8 c, XT 9 c, XT 10 c, XT 11 c, XT 12 c⟩
theorem JmV {n : Nat} {p : PV} (h : Ty tau (n + 1) 3 p) : ∃ x, p = .sc (.int .i64 x) /\ i64B x = true := by
 have u : tau.und 3 = some (.int .i64) := by kernel_rfl
 obtain ⟨x, rfl, hx⟩ := Jlr u h
 refine ⟨x, rfl, ?_⟩
 have e1 : IntKind.i64.min = -9223372036854775808 := rfl
 have e2 : IntKind.i64.max = 9223372036854775807 := rfl
 simp only [Lit.wf, e1, e2, Bool.and_eq_true, decide_eq_true_eq] at hx
 simp only [i64B, Bool.and_eq_true, decide_eq_true_eq]
 omega
theorem Jp2 {n : Nat} {p : PV} (h : Ty tau (n + 2) 57 p) : ∃ z l, p = .ro 3 z false l /\ (z = true -> l = []) /\ l.length <= maxLen /\ Jl .i64 l = true := by
 have u : tau.und 57 = some (.slice 3) := by kernel_rfl
 have u2 : tau.und 3 = some (.int .i64) := by kernel_rfl
 obtain ⟨z, b, rfl, h1, h2, h3⟩ := Jlq u h
 exact ⟨z, b, rfl, h1, h2, JiY u2 b h3⟩
-- FN
theorem JmW {n : Int} (h : 0 < n) (h2 : n < 1000000000000) : okW n = true := by rw [JmF, Bool.and_eq_true, decide_eq_true_eq, decide_eq_true_eq]; exact ⟨h, h2⟩
theorem Jgu {l : List PV} (h : Jl .u8 l = true) : Qs l l = true := by
 rw [Ql h, GY]; exact beq_self_eq_true _
structure EW where
 (b m : List PV) (at1 : Int) (o h mc : List PV)
theorem Z0 (x : Int) {m : Int} (h : 0 < m) : 0 <= x % m /\ x % m < m := ⟨Int.emod_nonneg _ (by omega), Int.emod_lt_of_pos _ h⟩
-- FN ref13.Do
structure SV where
 (ih iN : Int) (doc : ByteArray) (l : List PV) (ver : Int) (hash : List PV)
structure DX where
 (s : SV) (e : EW)
def JcG (e : EW) : EV := ⟨e.b, e.m, e.at1, e.o⟩
def auA (b : List PV) : AV := ⟨dF 0 b, dF 1 b⟩
def whA (b : List PV) : AV := ⟨dF 5 b, dF 6 b⟩
def chE (x : DX) : Int := bif dF 4 x.e.b == 1 then (bif ckO x.e.o == 0 then apE ⟨x.s.doc, x.e.o⟩ else ckO x.e.o) else bif decide (zi x.e.o.length > 0) then 1 else bif dF 4 x.e.b == 2 then adE ⟨x.s.l, whA x.e.b⟩ else rmE ⟨x.s.l, whA x.e.b⟩
def chD (x : DX) : ByteArray := bif dF 4 x.e.b == 1 then apD ⟨x.s.doc, x.e.o⟩ else x.s.doc
def chL (x : DX) : List PV := bif dF 4 x.e.b == 1 then x.s.l else bif dF 4 x.e.b == 2 then adL ⟨x.s.l, whA x.e.b⟩ else rmL ⟨x.s.l, whA x.e.b⟩
def chZ (x : DX) (z : Bool) : Bool := bif dF 4 x.e.b == 1 then z else bif dF 4 x.e.b == 2 then (adF ⟨x.s.l, whA x.e.b⟩ && z) else rmZ ⟨x.s.l, whA x.e.b⟩ z
def chF (x : DX) (f : Bool) : Bool := bif dF 4 x.e.b == 1 then f else bif dF 4 x.e.b == 2 then (adF ⟨x.s.l, whA x.e.b⟩ && f) else rmF ⟨x.s.l, whA x.e.b⟩ f
def dsE0 (x : DX) : Int := bif dE x.e.b != 0 then dE x.e.b else bif x.e.at1 != x.s.ver then 15 else bif decide (dF 3 x.e.b > x.s.ver) then 15 else bif !hasP ⟨x.s.l, auA x.e.b⟩ then 13 else bif chE x != 0 then chE x else bif !Qs x.e.h (pu .u8 (nxP ⟨x.s.hash, JcG x.e⟩)) then 16 else 0
def dsE : DX -> Int := hid dsE0
def dsD : DX -> ByteArray := hid fun x => bif dsE0 x == 0 then chD x else x.s.doc
def dsL : DX -> List PV := hid fun x => bif dsE0 x == 0 then chL x else x.s.l
def dsZ : DX -> Bool -> Bool := hid fun x z => bif dsE0 x == 0 then chZ x z else z
def dsF : DX -> Bool -> Bool := hid fun x z => bif dsE0 x == 0 then chF x z else z
def dsV : DX -> Int := hid fun x => bif dsE0 x == 0 then x.s.ver + 1 else x.s.ver
def dsH : DX -> List PV := hid fun x => bif dsE0 x == 0 then x.e.h else x.s.hash
theorem JeS (x : DX) : dsE x = dsE0 x := by rw [dsE, hid_eq]
theorem JeT (x : DX) : dsD x = bif dsE0 x == 0 then chD x else x.s.doc := by rw [dsD, hid_eq]
theorem Jcj (x : DX) : dsL x = bif dsE0 x == 0 then chL x else x.s.l := by rw [dsL, hid_eq]
theorem Jio (x : DX) (z : Bool) : dsZ x z = bif dsE0 x == 0 then chZ x z else z := by rw [dsZ, hid_eq]
theorem VI (x : DX) : dsV x = bif dsE0 x == 0 then x.s.ver + 1 else x.s.ver := by rw [dsV, hid_eq]
theorem Jae (x : DX) : dsH x = bif dsE0 x == 0 then x.e.h else x.s.hash := by rw [dsH, hid_eq]
def uOk (l : List PV) : Bool := l.all fun p => inA [(av p).d, 2, (av p).u, 7]
def sOk : SV -> Bool := hid fun s => pOk s.l && (h32 s.hash && (decide (0 <= s.ver) && (decide (s.ver <= 1000000) && (decide (s.doc.size <= 120) && uOk s.l))))
theorem WN {s : SV} : sOk s = true ↔ pOk s.l = true /\ h32 s.hash = true /\ 0 <= s.ver /\ s.ver <= 1000000 /\ s.doc.size <= 120 /\ uOk s.l = true := by
 rw [sOk, hid_eq]; simp only [Bool.and_eq_true, decide_eq_true_eq]
def eD : EW -> Bool := hid fun e => byB e.b && (eOk (JcG e) && (cOk e.o && h32 e.h))
theorem Jaf {e : EW} : eD e = true ↔ byB e.b = true /\ eOk (JcG e) = true /\ cOk e.o = true /\ h32 e.h = true := by
 rw [eD, hid_eq]; simp only [Bool.and_eq_true]
def stP (s : SV) (z f : Bool) : PV := .st 58 [.st 34 [.sc (.int .i64 s.ih), .sc (.int .i64 s.iN)], .sc (.string s.doc), .ro 42 z f s.l, .sc (.int .i64 s.ver), .ar 37 s.hash]
def dsS (x : DX) : SV := ⟨x.s.ih, x.s.iN, dsD x, dsL x, dsV x, dsH x⟩
theorem JjS {x : DX} (h0 : (dsE0 x == 0) = false) : dsS x = x.s := by
 unfold dsS; rw [JeT, Jcj, VI, Jae, h0]; rfl
theorem Jp3 {x : PH} (h : uOk x.l = true) : uOk (adL x) = true := by
 rw [Jac]
 cases he : (VG x == 0) with
 | false => exact h
 | true =>
  rw [cond_true]
  refine List.all_eq_true.2 fun q hq => ?_
  rcases GD hq with rfl | hq
  · unfold VG at he
    cases hu : inA [x.a.d, 2, x.a.u, 7] with
    | false => rw [hu] at he; exact absurd (show false = true from he) (by decide)
    | true => exact hu
  · exact List.all_eq_true.1 h q hq
theorem Jp4 {x : PH} (h : uOk x.l = true) : uOk (rmL x) = true := by
 rw [Jad]
 cases hasL x.l x.a with
 | false => exact h
 | true => exact List.all_eq_true.2 fun q hq => List.all_eq_true.1 h q (List.mem_filter.1 hq).1
theorem JjT {x : DX} (hs : sOk x.s = true) (he : eD x.e = true) (hv : x.s.ver < 1000000) : sOk (dsS x) = true := by
 cases h : (dsE0 x == 0) with
 | false => rw [JjS h]; exact hs
 | true =>
  obtain ⟨s1, s2, s3, s4, s5, s6⟩ := WN.1 hs
  obtain ⟨e1, e2, e3, e4⟩ := Jaf.1 he
  have hE : dsE0 x = 0 := by simpa using h
  unfold dsS
  rw [JeT, Jcj, VI, Jae, h]
  refine WN.2 ⟨?_, e4, by show 0 <= x.s.ver + 1; omega, by show x.s.ver + 1 <= 1000000; omega, ?_, ?_⟩
  rotate_left 2
  · show uOk (chL x) = true
    unfold chL
    cases dF 4 x.e.b == 1 with
    | true => exact s6
    | false =>
     cases dF 4 x.e.b == 2 with
     | true => exact Jp3 (x := ⟨x.s.l, whA x.e.b⟩) s6
     | false => exact Jp4 (x := ⟨x.s.l, whA x.e.b⟩) s6
  · show pOk (chL x) = true
    unfold chL
    cases dF 4 x.e.b == 1 with
    | true => exact s1
    | false =>
     cases dF 4 x.e.b == 2 with
     | true => exact JpY (x := ⟨x.s.l, whA x.e.b⟩) s1
     | false => exact JpZ (x := ⟨x.s.l, whA x.e.b⟩) s1
  · show (chD x).size <= 120
    unfold chD
    cases h5 : (dF 4 x.e.b == 1) with
    | false => exact s5
    | true =>
     show (apD ⟨x.s.doc, x.e.o⟩).size <= 120
     cases hc : (ckO x.e.o == 0) with
     | true => exact JmM (x := ⟨x.s.doc, x.e.o⟩) (JmI e3 (by simpa using hc))
     | false =>
      have hn : ckO x.e.o ≠ 0 := by simpa using hc
      have hE2 : chE x = ckO x.e.o := (Ja h5).trans (Jj hc)
      exfalso
      unfold dsE0 at hE
      rw [hE2] at hE
      cases h1 : (dE x.e.b != 0) with
      | true => rw [h1] at hE; rw [show dE x.e.b = 0 from hE] at h1; exact absurd h1 (by decide)
      | false =>
       rw [h1] at hE
       cases h2 : (x.e.at1 != x.s.ver) with
       | true => rw [h2] at hE; exact absurd (show (15 : Int) = 0 from hE) (by decide)
       | false =>
        rw [h2] at hE
        cases h3 : decide (dF 3 x.e.b > x.s.ver) with
        | true => rw [h3] at hE; exact absurd (show (15 : Int) = 0 from hE) (by decide)
        | false =>
         rw [h3] at hE
         cases h4 : (!hasP ⟨x.s.l, auA x.e.b⟩) with
         | true => rw [h4] at hE; exact absurd (show (13 : Int) = 0 from hE) (by decide)
         | false =>
          rw [h4] at hE
          have hE : (bif ckO x.e.o != 0 then ckO x.e.o else bif !Qs x.e.h (pu .u8 (nxP ⟨x.s.hash, JcG x.e⟩)) then 16 else 0) = 0 := hE
          rw [show (ckO x.e.o != 0) = true from by simpa [bne] using hn] at hE
          exact hn hE
-- FN wavelet.Same | law13.known
structure SW where
 (a b : SV)
def wOk : SV -> Bool := hid fun s => Jab s.l && h32 s.hash
theorem Jp5 {s : SV} : wOk s = true ↔ Jab s.l = true /\ h32 s.hash = true := by rw [wOk, hid_eq, Bool.and_eq_true]
def JmX : List PV -> List Ent -> (Res -> Option Res) -> Option Res
 | [], [], k => k ⟨.sc (.bool true), [], []⟩
 | _, _, _ => none
def s9' : Sig := { own := [], run := JmX }
theorem JC6 : Jh tau Try.prog 9 s9' := ok9.of fun xs es k res hr => by
 change JmX xs es k = some res at hr
 unfold JmX at hr
 split at hr
 · refine Eq.trans ?_ hr
   show g9 0 _ = _
   unfold g9
   exact Ja (by rw [Jb7, hid_eq]; rfl)
 · cases hr
def F86 : Fns := F0
theorem JuP : Jy tau Try.prog F86 := JE
def Jp6 : An := (.seq .leaf (.seq (.seq .leaf (.cond (.seq .leaf .leaf) .leaf)) (.seq .leaf .leaf)))
def g86 (f : Nat) (s_z s_f : Bool) (s : List PV) (k : Res -> Option Res) : Option Res := bif s_z then k (Res.mk (.ro 42 true true []) [] []) else bif Jf (0 + s.length) 16 && true then k (Res.mk (.ow 42 16 [] 0 (0 + s.length) none) [] [.vec false 42 false s]) else none
theorem e86 (f : Nat) (s_z s_f : Bool) (s : List PV) (k : Res -> Option Res) : JM tau F86 Try.f86 (Try.f86.body.get!) Jp6 [] 0 [.ro 42 s_z s_f s] [] k = g86 f s_z s_f s k := by kernel_rfl
theorem JC7 (f : Nat) : Je (Try.f86.body.get!) Jp6 = [] := by kernel_rfl
theorem JC8 (f : Nat) : ∀ q ∈ Je (Try.f86.body.get!) Jp6, q.Ok tau Try.prog 0 := by
 rw [JC7 f]; intro q hq; cases hq
theorem JzB : Try.prog.funcs[86]? = some Try.f86 := by kernel_rfl
theorem JzC : Try.f86.body = some (Try.f86.body.get!) := by kernel_rfl
theorem JuQ : Enters Try.prog 86 := enters_of JzB (by kernel_rfl) JzC
def JmY : List PV -> List Ent -> (Res -> Option Res) -> Option Res
 | [.ro 42 s_z s_f s], [], k => g86 0 s_z s_f s k
 | _, _, _ => none
def s86 : Sig := { own := [], run := JmY }
theorem JuR : Jh tau Try.prog 86 s86 := JW Jr JuP Js JzB JzC Jp6 [] 0 [] JmY (JC8 0) fun xs es k res hr => by
 unfold JmY at hr
 split at hr
 · exact ⟨rfl, 0, (e86 0 _ _ _  _).trans hr⟩
 · cases hr
def F38 : Fns := JG 86 s86 (F0)
theorem JuS : Jy tau Try.prog F38 := (JE).add JuR JuQ
def Jp7 : An := (.seq .leaf (.seq .leaf (.seq .leaf .leaf)))
def g38 (f : Nat) (y0 y1 : Int) (y2 : ByteArray) (y3 y4 : Bool) (y5 : List PV) (y6 : Int) (y7 : List PV) (k : Res -> Option Res) : Option Res := bif y3 then k (Res.mk (.st 39 [.st 34 [.sc (.int .i64 y0), .sc (.int .i64 y1)], .sc (.string y2), .ro 42 true true [], .sc (.int .i64 y6), .ar 37 y7]) [] []) else bif Jf (0 + y5.length) 16 && true then k (Res.mk (.st 39 [.st 34 [.sc (.int .i64 y0), .sc (.int .i64 y1)], .sc (.string y2), .ro 42 false false (List.take (0 + y5.length) y5), .sc (.int .i64 y6), .ar 37 y7]) [] []) else none
theorem e38 (f : Nat) (y0 y1 : Int) (y2 : ByteArray) (y3 y4 : Bool) (y5 : List PV) (y6 : Int) (y7 : List PV) (k : Res -> Option Res) : JM tau F38 Try.f38 (Try.f38.body.get!) Jp7 [.ro] 0 [.st 39 [.st 34 [.sc (.int .i64 y0), .sc (.int .i64 y1)], .sc (.string y2), .ro 42 y3 y4 y5, .sc (.int .i64 y6), .ar 37 y7]] [] k = g38 f y0 y1 y2 y3 y4 y5 y6 y7 k := by kernel_rfl
theorem JC9 (f : Nat) : Je (Try.f38.body.get!) Jp7 = [] := by kernel_rfl
theorem JDa (f : Nat) : ∀ q ∈ Je (Try.f38.body.get!) Jp7, q.Ok tau Try.prog 0 := by
 rw [JC9 f]; intro q hq; cases hq
theorem JzD : Try.prog.funcs[38]? = some Try.f38 := by kernel_rfl
theorem JzE : Try.f38.body = some (Try.f38.body.get!) := by kernel_rfl
theorem JDb : Enters Try.prog 38 := enters_of JzD (by kernel_rfl) JzE
def JmZ : List PV -> List Ent -> (Res -> Option Res) -> Option Res
 | [.st 39 [.st 34 [.sc (.int .i64 y0), .sc (.int .i64 y1)], .sc (.string y2), .ro 42 y3 y4 y5, .sc (.int .i64 y6), .ar 37 y7]], [], k => g38 0 y0 y1 y2 y3 y4 y5 y6 y7 k
 | _, _, _ => none
def s38 : Sig := { own := [], run := JmZ }
theorem JDc : Jh tau Try.prog 38 s38 := JW Jr JuS Js JzD JzE Jp7 [.ro] 0 [] JmZ (JDa 0) fun xs es k res hr => by
 unfold JmZ at hr
 split at hr
 · exact ⟨rfl, 0, (e38 0 _ _ _ _ _ _ _ _  _).trans hr⟩
 · cases hr
def JzF : Fns := F0
theorem Jp8 : Jy tau Try.prog JzF := JE
def JjU : An := (.seq .leaf (.seq .leaf .leaf))
def Jp9 (f : Nat) (a_D a_U : Int) (k : Res -> Option Res) : Option Res := bif decide (a_D >= 0) then bif decide (a_D < 3) then bif decide (a_U >= 0) then k (Res.mk (.sc (.bool (decide (a_U < 8)))) [] []) else k (Res.mk (.sc (.bool false)) [] []) else k (Res.mk (.sc (.bool false)) [] []) else k (Res.mk (.sc (.bool false)) [] [])
theorem JDd (f : Nat) (a_D a_U : Int) (k : Res -> Option Res) : JM tau JzF Try.f128 (Try.f128.body.get!) JjU [.ro] 0 [.st 42 [.sc (.int .i64 a_D), .sc (.int .i64 a_U)]] [] k = Jp9 f a_D a_U k := by kernel_rfl
theorem JzG (f : Nat) : Je (Try.f128.body.get!) JjU = [] := by kernel_rfl
theorem JzH (f : Nat) : ∀ q ∈ Je (Try.f128.body.get!) JjU, q.Ok tau Try.prog 0 := by
 rw [JzG f]; intro q hq; cases hq
theorem Jsh : Try.prog.funcs[128]? = some Try.f128 := by kernel_rfl
theorem Jsi : Try.f128.body = some (Try.f128.body.get!) := by kernel_rfl
theorem JzI : Enters Try.prog 128 := enters_of Jsh (by kernel_rfl) Jsi
def Jip : List PV -> List Ent -> (Res -> Option Res) -> Option Res
 | [.st 42 [.sc (.int .i64 a_D), .sc (.int .i64 a_U)]], [], k => Jp9 0 a_D a_U k
 | _, _, _ => none
def JDe : Sig := { own := [], run := Jip }
theorem JzJ : Jh tau Try.prog 128 JDe := JW Jr Jp8 Js Jsh Jsi JjU [.ro] 0 [] Jip (JzH 0) fun xs es k res hr => by
 unfold Jip at hr
 split at hr
 · exact ⟨rfl, 0, (JDd 0 _ _  _).trans hr⟩
 · cases hr
def GF : Nat := 19
def Jm0 : Fns := F0
theorem JjV : Jy tau Try.prog Jm0 := JE
def Jag : Code := Qj (Try.f123.body.get!) [1, 0, 1, 0, 0]
def WO : Nm := [(0, .any), (3, .any), (7, .any), (8, .any)]
def QL : Nm := [(4, .any)]
def Jck : An := (.seq .leaf (.seq (.cond .leaf .leaf) (.seq (.block none (.seq .leaf (.seq .leaf (.cond (.seq .leaf .leaf) .leaf)))) .leaf)))
def JjW (r0 : QC) : An := (.seq .leaf (.seq (.seq .leaf (.block none (.sum WO GF r0))) (.seq .leaf .leaf)))
def ZF (f : Nat) (rc : Bool -> Bool -> List PV -> Int -> Int -> Int -> Int -> Option Res) (k0 : Int -> Option Res) (k1 : Option Res) (v0 v1 : Bool) (v2 : List PV) (v3 v4 v5 v6 : Int) : Option Res := bif decide (v4 < v3) then bif decide (0 <= v4) && decide (v4 < zi v2.length) && (PV.isSt 42 #[Field.mk "D" 3 0 false "" "" 0, Field.mk "U" 3 1 false "" "" 8].size (v2.getD v4.toNat PV.top) && (PV.isInt IntKind.i64 (PV.child 0 (v2.getD v4.toNat PV.top)) && (PV.isInt IntKind.i64 (PV.child (0 + 1) (v2.getD v4.toNat PV.top)) && true))) && true then bif v5 == (PV.child 0 (v2.getD v4.toNat PV.top)).int && (v6 == (PV.child (0 + 1) (v2.getD v4.toNat PV.top)).int && true) then k0 v4 else rc v0 v1 v2 v3 (IntKind.i64.wrap (v4 + 1)) v5 v6 else none else k1
def YE (f : Nat) (k0 : Int -> Option Res) (k1 : Option Res) : Nat -> Bool -> Bool -> List PV -> Int -> Int -> Int -> Int -> Option Res
 | 0, _, _, _, _, _, _, _ => none
 | n + 1, v0, v1, v2, v3, v4, v5, v6 => ZF f (YE f k0 k1 n) k0 k1 v0 v1 v2 v3 v4 v5 v6
theorem Jm1 (f : Nat) (k : Kont) (n : Nat) (v0 v1 : Bool) (v2 : List PV) (v3 v4 v5 v6 : Int) : Jp tau 0 WO (fun s k => ev tau Jm0 0 0 Jag (Jck ) s k) (n + 1) (Jc WO GF [.ro 42 v0 v1 v2, .ptr 320 [], .sc (.int .i64 v3), .sc (.int .i64 v4)] [(320, .box false 42 (PV.st 42 [.sc (.int .i64 v5), .sc (.int .i64 v6)]))]) (Jq tau 0 QL k) = ZF f (fun v0 v1 v2 v3 v4 v5 v6 => Jp tau 0 WO (fun s k => ev tau Jm0 0 0 Jag (Jck ) s k) n (Jc WO GF [.ro 42 v0 v1 v2, .ptr 320 [], .sc (.int .i64 v3), .sc (.int .i64 v4)] [(320, .box false 42 (PV.st 42 [.sc (.int .i64 v5), .sc (.int .i64 v6)]))]) (Jq tau 0 QL k)) (fun x0 => k Ex.ret (Jc QL GF [.sc (.int .i64 x0)] [])) (k (Ex.exit 0) (Jc QL GF [PV.top] [])) v0 v1 v2 v3 v4 v5 v6 := by kernel_rfl
theorem Jgv (f : Nat) (k : Kont) : ∀ (n : Nat) (v0 v1 : Bool) (v2 : List PV) (v3 v4 v5 v6 : Int), Jp tau 0 WO (fun s k => ev tau Jm0 0 0 Jag (Jck ) s k) n (Jc WO GF [.ro 42 v0 v1 v2, .ptr 320 [], .sc (.int .i64 v3), .sc (.int .i64 v4)] [(320, .box false 42 (PV.st 42 [.sc (.int .i64 v5), .sc (.int .i64 v6)]))]) (Jq tau 0 QL k) = YE f (fun x0 => k Ex.ret (Jc QL GF [.sc (.int .i64 x0)] [])) (k (Ex.exit 0) (Jc QL GF [PV.top] [])) n v0 v1 v2 v3 v4 v5 v6 | 0, _, _, _, _, _, _, _ => rfl | n + 1, v0, v1, v2, v3, v4, v5, v6 => (Jm1 f k n v0 v1 v2 v3 v4 v5 v6).trans (congrArg (fun r => ZF f r (fun x0 => k Ex.ret (Jc QL GF [.sc (.int .i64 x0)] [])) (k (Ex.exit 0) (Jc QL GF [PV.top] [])) v0 v1 v2 v3 v4 v5 v6) (by funext v0 v1 v2 v3 v4 v5 v6; exact Jgv f k n v0 v1 v2 v3 v4 v5 v6))
def VJ (f : Nat) : List PV -> List (Nat × Ent) -> Kont -> Option Res
 | [.ro 42 v0 v1 v2, .ptr 320 [], .sc (.int .i64 v3),
 PV.sc
  (Value.int IntKind.i64
   v4)], [(320,
  Ent.box false 42
   (PV.st 42
    [.sc (.int .i64 v5),
     PV.sc
      (Value.int IntKind.i64
       v6)]))], k => YE f (fun x0 => k Ex.ret (Jc QL GF [.sc (.int .i64 x0)] [])) (k (Ex.exit 0) (Jc QL GF [PV.top] [])) f v0 v1 v2 v3 v4 v5 v6
 | _, _, _ => none
theorem Jqa (f : Nat) : Je Jag Jck = [] := by kernel_rfl
theorem Jqb (f : Nat) : (Item.l Jag WO GF (VJ f)).Ok tau Try.prog 0 := JJ Jr JjV Js (x := Jck) (nm2 := QL) (Jk _ _ (by rw [Jqa f]; intro q hq; cases hq)) fun vs hp k res hr => by
 unfold VJ at hr
 split at hr
 · exact ⟨f, 0, (Jgv f _ f _ _ _ _ _ _ _ ).trans hr⟩
 · cases hr
def JuT (f : Nat) (s_z s_f : Bool) (s : List PV) (v_D v_U : Int) (k : Res -> Option Res) : Option Res := YE f (fun x0_0 => k (Res.mk (.sc (.int .i64 x0_0)) [] [])) (k (Res.mk (.sc (.int .i64 (-1))) [] [])) f s_z s_f s (zi s.length) (0) v_D v_U
theorem JDf (f : Nat) (s_z s_f : Bool) (s : List PV) (v_D v_U : Int) (k : Res -> Option Res) : JM tau Jm0 Try.f123 (Try.f123.body.get!) (JjW (VJ f)) [.ro] 0 [.ro 42 s_z s_f s, .st 42 [.sc (.int .i64 v_D), .sc (.int .i64 v_U)]] [] k = JuT f s_z s_f s v_D v_U k := by kernel_rfl
theorem JzK (f : Nat) : Je (Try.f123.body.get!) (JjW (VJ f)) = [.l Jag WO GF (VJ f)] := by kernel_rfl
theorem JzL (f : Nat) : ∀ q ∈ Je (Try.f123.body.get!) (JjW (VJ f)), q.Ok tau Try.prog 0 := by
 rw [JzK f]; simp only [List.forall_mem_cons, List.not_mem_nil, false_implies, implies_true, and_true]; exact Jqb f
theorem Jsj : Try.prog.funcs[123]? = some Try.f123 := by kernel_rfl
theorem Jsk : Try.f123.body = some (Try.f123.body.get!) := by kernel_rfl
theorem JzM : Enters Try.prog 123 := enters_of Jsj (by kernel_rfl) Jsk
def JcH : Nat := 53
def Jm2 : Fns := F0
theorem JjX : Jy tau Try.prog Jm2 := JE
def YF : Code := Qj (Try.f127.body.get!) [1, 0]
def WP : Nm := [(0, .any), (3, .any), (6, .any)]
def Xv : Nm := [(4, .any), (5, .any)]
def Jah : An := (.seq .leaf (.seq .leaf (.seq (.block none (.seq .leaf (.cond (.seq .leaf .leaf) (.seq .leaf (.cond (.seq .leaf .leaf) .leaf))))) (.seq .leaf .leaf))))
def JjY (r0 : Jlo) : An := (.seq .leaf (.ssum WP JcH (Jah) r0))
def Q4 (f : Nat) (rc : Bool -> Bool -> List PV -> Int -> Int -> Int -> Option Res) (k0 : Int -> Bool -> Option Res) (v0 v1 : Bool) (v2 : List PV) (v3 v4 v5 : Int) : Option Res := bif v3 == zi v2.length then k0 v3 false else bif decide (0 <= v3) && decide (v3 < zi v2.length) && (PV.isSt 42 #[Field.mk "D" 3 0 false "" "" 0, Field.mk "U" 3 1 false "" "" 8].size (v2.getD v3.toNat PV.top) && (PV.isInt IntKind.i64 (PV.child 0 (v2.getD v3.toNat PV.top)) && (PV.isInt IntKind.i64 (PV.child (0 + 1) (v2.getD v3.toNat PV.top)) && true))) && true then bif decide ((PV.child 0 (v2.getD v3.toNat PV.top)).int > v4) then k0 v3 false else bif decide (0 <= v3) && decide (v3 < zi v2.length) && (PV.isSt 42 #[Field.mk "D" 3 0 false "" "" 0, Field.mk "U" 3 1 false "" "" 8].size (v2.getD v3.toNat PV.top) && (PV.isInt IntKind.i64 (PV.child 0 (v2.getD v3.toNat PV.top)) && (PV.isInt IntKind.i64 (PV.child (0 + 1) (v2.getD v3.toNat PV.top)) && true))) && true then bif (PV.child 0 (v2.getD v3.toNat PV.top)).int == v4 then bif decide (0 <= v3) && decide (v3 < zi v2.length) && (PV.isSt 42 #[Field.mk "D" 3 0 false "" "" 0, Field.mk "U" 3 1 false "" "" 8].size (v2.getD v3.toNat PV.top) && (PV.isInt IntKind.i64 (PV.child 0 (v2.getD v3.toNat PV.top)) && (PV.isInt IntKind.i64 (PV.child (0 + 1) (v2.getD v3.toNat PV.top)) && true))) && true then bif decide ((PV.child (0 + 1) (v2.getD v3.toNat PV.top)).int > v5) then k0 v3 false else bif decide (0 <= v3) && decide (v3 < zi v2.length) && (PV.isSt 42 #[Field.mk "D" 3 0 false "" "" 0, Field.mk "U" 3 1 false "" "" 8].size (v2.getD v3.toNat PV.top) && (PV.isInt IntKind.i64 (PV.child 0 (v2.getD v3.toNat PV.top)) && (PV.isInt IntKind.i64 (PV.child (0 + 1) (v2.getD v3.toNat PV.top)) && true))) && true then bif (PV.child 0 (v2.getD v3.toNat PV.top)).int == v4 && ((PV.child (0 + 1) (v2.getD v3.toNat PV.top)).int == v5 && true) then k0 v3 true else rc v0 v1 v2 (IntKind.i64.wrap (v3 + 1)) v4 v5 else none else none else bif decide (0 <= v3) && decide (v3 < zi v2.length) && (PV.isSt 42 #[Field.mk "D" 3 0 false "" "" 0, Field.mk "U" 3 1 false "" "" 8].size (v2.getD v3.toNat PV.top) && (PV.isInt IntKind.i64 (PV.child 0 (v2.getD v3.toNat PV.top)) && (PV.isInt IntKind.i64 (PV.child (0 + 1) (v2.getD v3.toNat PV.top)) && true))) && true then bif (PV.child 0 (v2.getD v3.toNat PV.top)).int == v4 && ((PV.child (0 + 1) (v2.getD v3.toNat PV.top)).int == v5 && true) then k0 v3 true else rc v0 v1 v2 (IntKind.i64.wrap (v3 + 1)) v4 v5 else none else none else none
def Wj (f : Nat) (k0 : Int -> Bool -> Option Res) : Nat -> Bool -> Bool -> List PV -> Int -> Int -> Int -> Option Res
 | 0, _, _, _, _, _, _ => none
 | n + 1, v0, v1, v2, v3, v4, v5 => Q4 f (Wj f k0 n) k0 v0 v1 v2 v3 v4 v5
theorem Jm3 (f : Nat) (k : Kont) (n : Nat) (v0 v1 : Bool) (v2 : List PV) (v3 v4 v5 : Int) : J6 tau 0 WP (hasLabel YF) (fun l s k => JV tau Jm2 0 0 YF (Jah ) l s k) (n + 1) 0 (Jc WP JcH [.ro 42 v0 v1 v2, .ptr 864 [], .sc (.int .i64 v3)] [(864, .box false 42 (PV.st 42 [.sc (.int .i64 v4), .sc (.int .i64 v5)]))]) (Jq tau 0 Xv k) = Q4 f (fun v0 v1 v2 v3 v4 v5 => J6 tau 0 WP (hasLabel YF) (fun l s k => JV tau Jm2 0 0 YF (Jah ) l s k) n 0 (Jc WP JcH [.ro 42 v0 v1 v2, .ptr 864 [], .sc (.int .i64 v3)] [(864, .box false 42 (PV.st 42 [.sc (.int .i64 v4), .sc (.int .i64 v5)]))]) (Jq tau 0 Xv k)) (fun x0 x1 => k Ex.ret (Jc Xv JcH [.sc (.int .i64 x0), .sc (.bool x1)] [])) v0 v1 v2 v3 v4 v5 := by kernel_rfl
theorem Jgw (f : Nat) (k : Kont) : ∀ (n : Nat) (v0 v1 : Bool) (v2 : List PV) (v3 v4 v5 : Int), J6 tau 0 WP (hasLabel YF) (fun l s k => JV tau Jm2 0 0 YF (Jah ) l s k) n 0 (Jc WP JcH [.ro 42 v0 v1 v2, .ptr 864 [], .sc (.int .i64 v3)] [(864, .box false 42 (PV.st 42 [.sc (.int .i64 v4), .sc (.int .i64 v5)]))]) (Jq tau 0 Xv k) = Wj f (fun x0 x1 => k Ex.ret (Jc Xv JcH [.sc (.int .i64 x0), .sc (.bool x1)] [])) n v0 v1 v2 v3 v4 v5 | 0, _, _, _, _, _, _ => rfl | n + 1, v0, v1, v2, v3, v4, v5 => (Jm3 f k n v0 v1 v2 v3 v4 v5).trans (congrArg (fun r => Q4 f r (fun x0 x1 => k Ex.ret (Jc Xv JcH [.sc (.int .i64 x0), .sc (.bool x1)] [])) v0 v1 v2 v3 v4 v5) (by funext v0 v1 v2 v3 v4 v5; exact Jgw f k n v0 v1 v2 v3 v4 v5))
def VK (f : Nat) : Nat -> List PV -> List (Nat × Ent) -> Kont -> Option Res
 | 0, [.ro 42 v0 v1 v2, .ptr 864 [],
 PV.sc
  (Value.int IntKind.i64
   v3)], [(864,
  Ent.box false 42
   (PV.st 42
    [.sc (.int .i64 v4),
     .sc (.int .i64 v5)]))], k => Wj f (fun x0 x1 => k Ex.ret (Jc Xv JcH [.sc (.int .i64 x0), .sc (.bool x1)] [])) f v0 v1 v2 v3 v4 v5
 | _, _, _, _ => none
theorem Jqc (f : Nat) : Je YF Jah = [] := by kernel_rfl
theorem Jqd (f : Nat) : (Item.s YF WP JcH (VK f)).Ok tau Try.prog 0 := W7 Jr JjX Js (x := Jah) (nm2 := Xv) (Jk _ _ (by rw [Jqc f]; intro q hq; cases hq)) fun l vs hp k res hr => by
 unfold VK at hr
 split at hr
 · exact ⟨f, 0, (Jgw f _ f _ _ _ _ _ _ ).trans hr⟩
 · cases hr
def Jqe (f : Nat) (l_z l_f : Bool) (l : List PV) (a_D a_U : Int) (k : Res -> Option Res) : Option Res := bif 0 == zi l.length then k (Res.mk (.tup [.sc (.int .i64 0), .sc (.bool false)]) [] []) else bif decide (0 < zi l.length) && (PV.isSt 42 #[Field.mk "D" 3 0 false "" "" 0, Field.mk "U" 3 1 false "" "" 8].size (l.getD (Int.toNat 0) PV.top) && (PV.isInt IntKind.i64 (PV.child 0 (l.getD 0 PV.top)) && (PV.isInt IntKind.i64 (PV.child (0 + 1) (l.getD 0 PV.top)) && true))) && true then bif decide ((PV.child 0 (l.getD 0 PV.top)).int > a_D) then k (Res.mk (.tup [.sc (.int .i64 0), .sc (.bool false)]) [] []) else bif decide (0 < zi l.length) && (PV.isSt 42 #[Field.mk "D" 3 0 false "" "" 0, Field.mk "U" 3 1 false "" "" 8].size (l.getD (Int.toNat 0) PV.top) && (PV.isInt IntKind.i64 (PV.child 0 (l.getD 0 PV.top)) && (PV.isInt IntKind.i64 (PV.child (0 + 1) (l.getD 0 PV.top)) && true))) && true then bif (PV.child 0 (l.getD 0 PV.top)).int == a_D then bif decide (0 < zi l.length) && (PV.isSt 42 #[Field.mk "D" 3 0 false "" "" 0, Field.mk "U" 3 1 false "" "" 8].size (l.getD (Int.toNat 0) PV.top) && (PV.isInt IntKind.i64 (PV.child 0 (l.getD 0 PV.top)) && (PV.isInt IntKind.i64 (PV.child (0 + 1) (l.getD 0 PV.top)) && true))) && true then bif decide ((PV.child (0 + 1) (l.getD 0 PV.top)).int > a_U) then k (Res.mk (.tup [.sc (.int .i64 0), .sc (.bool false)]) [] []) else bif decide (0 < zi l.length) && (PV.isSt 42 #[Field.mk "D" 3 0 false "" "" 0, Field.mk "U" 3 1 false "" "" 8].size (l.getD (Int.toNat 0) PV.top) && (PV.isInt IntKind.i64 (PV.child 0 (l.getD 0 PV.top)) && (PV.isInt IntKind.i64 (PV.child (0 + 1) (l.getD 0 PV.top)) && true))) && true then bif (PV.child 0 (l.getD 0 PV.top)).int == a_D && ((PV.child (0 + 1) (l.getD 0 PV.top)).int == a_U && true) then k (Res.mk (.tup [.sc (.int .i64 0), .sc (.bool true)]) [] []) else Wj f (fun x0_0 x1_0 => k (Res.mk (.tup [.sc (.int .i64 x0_0), .sc (.bool x1_0)]) [] [])) f l_z l_f l (IntKind.i64.wrap (0 + 1)) a_D a_U else none else none else bif decide (0 < zi l.length) && (PV.isSt 42 #[Field.mk "D" 3 0 false "" "" 0, Field.mk "U" 3 1 false "" "" 8].size (l.getD (Int.toNat 0) PV.top) && (PV.isInt IntKind.i64 (PV.child 0 (l.getD 0 PV.top)) && (PV.isInt IntKind.i64 (PV.child (0 + 1) (l.getD 0 PV.top)) && true))) && true then bif (PV.child 0 (l.getD 0 PV.top)).int == a_D && ((PV.child (0 + 1) (l.getD 0 PV.top)).int == a_U && true) then k (Res.mk (.tup [.sc (.int .i64 0), .sc (.bool true)]) [] []) else Wj f (fun x0_1 x1_1 => k (Res.mk (.tup [.sc (.int .i64 x0_1), .sc (.bool x1_1)]) [] [])) f l_z l_f l (IntKind.i64.wrap (0 + 1)) a_D a_U else none else none else none
theorem JDg (f : Nat) (l_z l_f : Bool) (l : List PV) (a_D a_U : Int) (k : Res -> Option Res) : JM tau Jm2 Try.f127 (Try.f127.body.get!) (JjY (VK f)) [.ro, .ro] 0 [.ro 42 l_z l_f l, .st 42 [.sc (.int .i64 a_D), .sc (.int .i64 a_U)]] [] k = Jqe f l_z l_f l a_D a_U k := by kernel_rfl
theorem JzN (f : Nat) : Je (Try.f127.body.get!) (JjY (VK f)) = [.s YF WP JcH (VK f)] := by kernel_rfl
theorem JzO (f : Nat) : ∀ q ∈ Je (Try.f127.body.get!) (JjY (VK f)), q.Ok tau Try.prog 0 := by
 rw [JzN f]; simp only [List.forall_mem_cons, List.not_mem_nil, false_implies, implies_true, and_true]; exact Jqd f
theorem Jsl : Try.prog.funcs[127]? = some Try.f127 := by kernel_rfl
theorem Jsm : Try.f127.body = some (Try.f127.body.get!) := by kernel_rfl
theorem Jsn : Enters Try.prog 127 := enters_of Jsl (by kernel_rfl) Jsm
-- FN
def VL (l : List PV) (a : AV) : Bool := Nat.blt (Q3 l a) l.length && eqA (av (l.getD (Q3 l a) .top)) a
theorem Jbh {a : AV} : ltA a a = false := by
 cases h : ltA a a with
 | false => rfl
 | true => rw [WM] at h; omega
theorem Jcl (a : AV) : eqA a a = true := Qh.2 rfl
theorem hasL_above {a : AV} : ∀ {l : List PV}, (∀ q ∈ l, ltA a (av q) = true) -> hasL l a = false
 | [], _ => rfl
 | p :: l, h => by
  have h1 : eqA (av p) a = false := by
   cases he : eqA (av p) a with
   | false => rfl
   | true => have := h p List.mem_cons_self; rw [Qh.1 he, Jbh] at this; cases this
  have h2 := hasL_above fun q hq => h q (List.mem_cons_of_mem _ hq)
  show (eqA (av p) a || hasL l a) = false
  rw [h1, h2]; rfl
theorem JdG {a : AV} : ∀ {l : List PV}, hasL l a = false -> rmA l a = l
 | [], _ => rfl
 | p :: l, h => by
  have h : (eqA (av p) a || hasL l a) = false := h
  rw [Bool.or_eq_false_iff] at h
  unfold rmA
  rw [List.filter_cons, h.1]
  exact congrArg (p :: ·) (JdG h.2)
theorem XU {a : AV} : ∀ {l : List PV}, srt l = true -> VL l a = hasL l a
 | [], _ => rfl
 | p :: l, h => by
  obtain ⟨h1, h2⟩ := Xf.1 h
  show VL (p :: l) a = (eqA (av p) a || hasL l a)
  unfold VL
  simp only [Q3]
  cases hc : ltA (av p) a with
  | true =>
   have he : eqA (av p) a = false := by
    cases he : eqA (av p) a with
    | false => rfl
    | true => rw [Qh.1 he, Jbh] at hc; cases hc
   have ih := XU (a := a) h2
   unfold VL at ih
   rw [cond_true, he, Bool.false_or, ← ih, List.getD_cons_succ]
   rfl
  | false =>
   rw [cond_false]
   have hd : Nat.blt 0 (p :: l).length = true := rfl
   rw [hd, Bool.true_and, List.getD_cons_zero]
   cases he : eqA (av p) a with
   | true => rfl
   | false =>
    have hl := JmR hc he
    rw [hasL_above fun q hq => JdE hl (h1 q hq)]; rfl
theorem JjZ {a : AV} : ∀ {l : List PV}, srt l = true -> VL l a = true -> l.take (Q3 l a) ++ l.drop (Q3 l a + 1) = rmA l a
 | [], _, h => by cases h
 | p :: l, h, hf => by
  obtain ⟨h1, h2⟩ := Xf.1 h
  have hf2 := hf
  unfold VL at hf
  simp only [Q3] at hf ⊢
  cases hc : ltA (av p) a with
  | true =>
   have he : eqA (av p) a = false := by
    cases he : eqA (av p) a with
    | false => rfl
    | true => rw [Qh.1 he, Jbh] at hc; cases hc
   have hf' : VL l a = true := by
    rw [XU h] at hf2
    rw [XU h2]
    have : (eqA (av p) a || hasL l a) = true := hf2
    rwa [he, Bool.false_or] at this
   have ih := JjZ h2 hf'
   unfold rmA at ih ⊢
   rw [cond_true, List.take_succ_cons, List.drop_succ_cons, List.filter_cons, he, List.cons_append, ih]; rfl
  | false =>
   rw [hc, cond_false, Bool.and_eq_true] at hf
   have he : eqA (av p) a = true := hf.2
   rw [cond_false, List.take_zero, List.nil_append, List.drop_succ_cons, List.drop_zero]
   have ha := Qh.1 he
   have := JdG (a := a) (hasL_above (l := l) fun q hq => by have := h1 q hq; rwa [ha] at this)
   unfold rmA at this ⊢
   rw [List.filter_cons, he]
   exact this.symm
-- FN people.find
theorem Jm4 (a b : AV) : eqA a b = eqA b a := by
 cases h : eqA b a with
 | true => exact Qh.2 (Qh.1 h).symm
 | false =>
  cases h2 : eqA a b with
  | false => rfl
  | true => rw [Qh.2 (Qh.1 h2).symm] at h; cases h
theorem JkO (p : PV) (l : List PV) (a : AV) : VL (p :: l) a = bif ltA (av p) a then VL l a else eqA (av p) a := by
 unfold VL
 simp only [Q3]
 cases ltA (av p) a with
 | true => rfl
 | false => rfl
def QH : PH -> Int := hid fun x => (Q3 x.l x.a : Int)
def JkP : PH -> Bool := hid fun x => VL x.l x.a
theorem JeU (x : PH) : QH x = (Q3 x.l x.a : Int) := by rw [QH, hid_eq]
theorem JeV (x : PH) : JkP x = VL x.l x.a := by rw [JkP, hid_eq]
theorem Jm5 (f : Nat) (rc : Bool -> Bool -> List PV -> Int -> Int -> Int -> Option Res) (k0 : Int -> Bool -> Option Res) (z fl : Bool) (l : List PV) (d u : Int) : Q4 f rc k0 z fl l (l.length : Int) d u = k0 (l.length : Int) false := by
 simp only [Q4]
 exact Ja (beq_self_eq_true _)
theorem JkQ (f : Nat) (rc : Bool -> Bool -> List PV -> Int -> Int -> Int -> Option Res) (k0 : Int -> Bool -> Option Res) (z fl : Bool) (l : List PV) (hl : l.all Ja3 = true) (h2 : l.length <= 1000) (i : Nat) (hi : i < l.length) (d u : Int) :
   Q4 f rc k0 z fl l (i : Int) d u = bif ltA (av (l.getD i .top)) ⟨d, u⟩ then rc z fl l ((i + 1 : Nat) : Int) d u else k0 (i : Int) (eqA (av (l.getD i .top)) ⟨d, u⟩) := by
 have g1 : ((i : Int)).toNat = i := by omega
 have w1 : IntKind.i64.wrap ((i : Int) + 1) = ((i + 1 : Nat) : Int) := by rw [wrap_i64 (by omega) (by omega)]; omega
 have hc := Jdf (Jdg hl hi)
 unfold JhY at hc
 simp only [Q4, g1, w1]
 generalize l.getD i .top = p at *
 have hr : (decide (0 <= (i : Int)) && decide ((i : Int) < zi l.length) && (PV.isSt 42 #[Field.mk "D" 3 0 false "" "" 0, Field.mk "U" 3 1 false "" "" 8].size p && (PV.isInt IntKind.i64 (PV.child 0 p) && (PV.isInt IntKind.i64 (PV.child (0 + 1) p) && true))) && true) = true := by rw [hc]; simp [zi]; omega
 have e1 : (PV.child 0 p).int = (av p).d := rfl
 have e2 : (PV.child (0 + 1) p).int = (av p).u := rfl
 have e3 : ((av p).d == d && ((av p).u == u && true)) = eqA (av p) ⟨d, u⟩ := rfl
 rw [e1, e2, e3]
 refine (Jj (beq_false_of_ne (by simp only [zi]; omega))).trans ((Ja hr).trans ?_)
 by_cases h1 : (av p).d > d
 · have hlt : ltA (av p) ⟨d, u⟩ = false := Bool.eq_false_iff.2 fun h => by have h := WM.1 h; simp only at h; omega
   have heq : eqA (av p) ⟨d, u⟩ = false := Bool.eq_false_iff.2 fun h => by have h := Qh.1 h; rw [h] at h1; simp only at h1; omega
   rw [hlt, heq]
   exact Ja (decide_eq_true h1)
 refine (Jj (decide_eq_false h1)).trans ((Ja hr).trans ?_)
 by_cases h2 : (av p).d = d
 · refine (Ja (by simpa using h2)).trans ((Ja hr).trans ?_)
   by_cases h3 : (av p).u > u
   · have hlt : ltA (av p) ⟨d, u⟩ = false := Bool.eq_false_iff.2 fun h => by have h := WM.1 h; simp only at h; omega
     have heq : eqA (av p) ⟨d, u⟩ = false := Bool.eq_false_iff.2 fun h => by have h := Qh.1 h; rw [h] at h3; simp only at h3; omega
     rw [hlt, heq]
     exact Ja (decide_eq_true h3)
   · refine (Jj (decide_eq_false h3)).trans ((Ja hr).trans ?_)
     cases he : eqA (av p) ⟨d, u⟩ with
     | true =>
      have hlt : ltA (av p) ⟨d, u⟩ = false := by rw [Qh.1 he]; exact Jbh
      rw [hlt]; rfl
     | false =>
      have hlt : ltA (av p) ⟨d, u⟩ = true := WM.2 (by
       rcases Int.lt_or_le (av p).u u with g | g
       · exact .inr ⟨h2, g⟩
       · exfalso
         have : eqA (av p) ⟨d, u⟩ = true := Qh.2 (by
          have : (av p).u = u := by omega
          cases hp : av p with
          | mk x y => rw [hp] at h2 this; simp only at h2 this; rw [h2, this])
         rw [this] at he; cases he)
      rw [hlt]; rfl
 · refine (Jj (by simpa using h2)).trans ((Ja hr).trans ?_)
   have hlt : ltA (av p) ⟨d, u⟩ = true := WM.2 (.inl (by show (av p).d < d; omega))
   have heq : eqA (av p) ⟨d, u⟩ = false := Bool.eq_false_iff.2 fun h => by have h := Qh.1 h; rw [h] at h2; exact h2 rfl
   rw [hlt, heq]; rfl
theorem Jm6 (l : List PV) (hl : l.all Ja3 = true) (h2 : l.length <= 1000) (d u : Int) (f : Nat) (k0 : Int -> Bool -> Option Res) (z fl : Bool) : ∀ (e i n : Nat), i + e = l.length -> e < n ->
  Wj f k0 n z fl l (i : Int) d u = k0 ((i + Q3 (l.drop i) ⟨d, u⟩ : Nat) : Int) (VL (l.drop i) ⟨d, u⟩)
 | 0, i, n + 1, hi, hn => by
   rw [List.drop_of_length_le (by omega)]
   obtain rfl : i = l.length := by omega
   simp only [Wj]
   exact Jm5 f _ k0 z fl l d u
 | e + 1, i, n + 1, hi, hn => by
   simp only [Wj]
   rw [JkQ f _ k0 z fl l hl h2 i (by omega) d u, Wb (by omega), JkO, Q3]
   cases ltA (av (l.getD i .top)) ⟨d, u⟩ with
   | false => rfl
   | true =>
    simp only [cond_true]
    rw [Jm6 l hl h2 d u f k0 z fl e (i + 1) n (by omega) (by omega)]
    rw [show i + 1 + Q3 (l.drop (i + 1)) ⟨d, u⟩ = i + (Q3 (l.drop (i + 1)) ⟨d, u⟩ + 1) from by omega]
theorem Jqf (f : Nat) (z fl : Bool) (l : List PV) (d u : Int) (k : Res -> Option Res) : Jqe f z fl l d u k = Q4 f (Wj f (fun x y => k ⟨.tup [.sc (.int .i64 x), .sc (.bool y)], [], []⟩) f) (fun x y => k ⟨.tup [.sc (.int .i64 x), .sc (.bool y)], [], []⟩) z fl l 0 d u := by
 unfold Jqe Q4
 rfl
def JeW : List PV -> List Ent -> (Res -> Option Res) -> Option Res
 | [.ro 42 z f l, .st 42 [.sc (.int .i64 d), .sc (.int .i64 u)]], [], k => bif Jab l then k ⟨.tup [.sc (.int .i64 (QH ⟨l, ⟨d, u⟩⟩)), .sc (.bool (JkP ⟨l, ⟨d, u⟩⟩))], [], []⟩ else none
 | _, _, _ => none
def Jm7 : Sig := { own := [], run := JeW }
theorem Jqg (z f : Bool) (l : List PV) (d u : Int) (h : Jab l = true) (k : Res -> Option Res) : Jqe (l.length + 1) z f l d u k = k ⟨.tup [.sc (.int .i64 (QH ⟨l, ⟨d, u⟩⟩)), .sc (.bool (JkP ⟨l, ⟨d, u⟩⟩))], [], []⟩ := by
 obtain ⟨h1, h2⟩ := Gf.1 h
 rw [Jqf, JeU, JeV]
 have := Jm6 l h1 h2 d u (l.length + 1) (fun x y => k ⟨.tup [.sc (.int .i64 x), .sc (.bool y)], [], []⟩) z f l.length 0 (l.length + 1 + 1) (by omega) (by omega)
 simp only [Wj, List.drop_zero, Nat.zero_add] at this
 exact this
theorem Jm8 : Jh tau Try.prog 127 Jm7 := Jh.mk' fun xs es k res hl hr => by
 change JeW xs es k = some res at hr
 unfold JeW at hr
 split at hr
 · rename_i z f l d u
   obtain ⟨hc, hr⟩ := JI hr
   exact Qk Jr JjX Js Jsl Jsm (JjY (VK (l.length + 1))) [.ro, .ro] 0 0 (JzO (l.length + 1)) hl rfl ((JDg (l.length + 1) z f l d u k).trans ((Jqg z f l d u hc k).trans hr))
 · cases hr
-- FN people.user | slices.Index[[]api.Addr,api.Addr]
def Jiq : List PV -> AV -> Nat
 | [], _ => 0
 | p :: ps, a => bif eqA a (av p) then 0 else Jiq ps a + 1
def Jir : PH -> Int := hid fun x => bif hasL x.l x.a then (Jiq x.l x.a : Int) else -1
theorem Jj0 (x : PH) : Jir x = bif hasL x.l x.a then (Jiq x.l x.a : Int) else -1 := by rw [Jir, hid_eq]
theorem Jm9 (x : PH) : decide (Jir x >= 0) = hasP x := by
 rw [Jj0, hasP_eq]
 cases hasL x.l x.a with
 | true => exact decide_eq_true (Int.natCast_nonneg _)
 | false => rfl
theorem Jna (l : List PV) (hl : l.all Ja3 = true) (h2 : l.length <= 1000) (d u : Int) (f : Nat) (k0 : Int -> Option Res) (k1 : Option Res) (z fl : Bool) : ∀ (e i n : Nat), i + e = l.length -> e < n ->
  YE f k0 k1 n z fl l (zi l.length) (i : Int) d u = bif hasL (l.drop i) ⟨d, u⟩ then k0 ((i + Jiq (l.drop i) ⟨d, u⟩ : Nat) : Int) else k1
 | 0, i, n + 1, hi, hn => by
   rw [List.drop_of_length_le (by omega)]
   simp only [YE, ZF]
   exact Jj (by simp [zi]; omega)
 | e + 1, i, n + 1, hi, hn => by
   have g1 : ((i : Int)).toNat = i := by omega
   have w1 : IntKind.i64.wrap ((i : Int) + 1) = ((i + 1 : Nat) : Int) := by rw [wrap_i64 (by omega) (by omega)]; omega
   have hc := Jdf (Jdg hl (i := i) (by omega))
   unfold JhY at hc
   rw [Wb (by omega)]
   simp only [YE, ZF, g1, w1]
   refine (Ja (by simp [zi]; omega)).trans ((Ja (by rw [hc]; simp [zi]; omega)).trans ?_)
   have he : (d == (PV.child 0 (l.getD i PV.top)).int && (u == (PV.child (0 + 1) (l.getD i PV.top)).int && true)) = eqA ⟨d, u⟩ (av (l.getD i .top)) := rfl
   have hh : hasL (l.getD i .top :: l.drop (i + 1)) ⟨d, u⟩ = (eqA ⟨d, u⟩ (av (l.getD i .top)) || hasL (l.drop (i + 1)) ⟨d, u⟩) := by
    rw [Jm4]; rfl
   rw [he, hh, Jiq]
   cases eqA ⟨d, u⟩ (av (l.getD i .top)) with
   | true => rfl
   | false =>
    refine (Jj rfl).trans ((Jna l hl h2 d u f k0 k1 z fl e (i + 1) n (by omega) (by omega)).trans ?_)
    rw [Bool.false_or, cond_false, show i + 1 + Jiq (l.drop (i + 1)) ⟨d, u⟩ = i + (Jiq (l.drop (i + 1)) ⟨d, u⟩ + 1) from by omega]
def JeX : List PV -> List Ent -> (Res -> Option Res) -> Option Res
 | [.ro 42 z f l, .st 42 [.sc (.int .i64 d), .sc (.int .i64 u)]], [], k => bif Jab l then k ⟨.sc (.int .i64 (Jir ⟨l, ⟨d, u⟩⟩)), [], []⟩ else none
 | _, _, _ => none
def Jso : Sig := { own := [], run := JeX }
theorem Jqh (z f : Bool) (l : List PV) (d u : Int) (h : Jab l = true) (k : Res -> Option Res) : JuT (l.length + 1) z f l d u k = k ⟨.sc (.int .i64 (Jir ⟨l, ⟨d, u⟩⟩)), [], []⟩ := by
 obtain ⟨h1, h2⟩ := Gf.1 h
 unfold JuT
 rw [Jj0]
 refine (Jna l h1 h2 d u (l.length + 1) _ _ z f l.length 0 (l.length + 1) (by omega) (by omega)).trans ?_
 rw [List.drop_zero, Nat.zero_add]
 cases hasL l ⟨d, u⟩ <;> rfl
theorem JuU : Jh tau Try.prog 123 Jso := Jh.mk' fun xs es k res hl hr => by
 change JeX xs es k = some res at hr
 unfold JeX at hr
 split at hr
 · rename_i z f l d u
   obtain ⟨hc, hr⟩ := JI hr
   exact Qk Jr JjV Js Jsj Jsk (JjW (VJ (l.length + 1))) [.ro] 0 0 (JzL (l.length + 1)) hl rfl ((JDf (l.length + 1) z f l d u k).trans ((Jqh z f l d u hc k).trans hr))
 · cases hr
def JeY : List PV -> List Ent -> (Res -> Option Res) -> Option Res
 | [.st 42 [.sc (.int .i64 a), .sc (.int .i64 b)]], [], k => k ⟨.sc (.bool (inA [a, 2, b, 7])), [], []⟩
 | _, _, _ => none
def Jsp : Sig := { own := [], run := JeY }
theorem JuV : Jh tau Try.prog 128 Jsp := JzJ.of fun xs es k res hr => by
 change JeY xs es k = some res at hr
 unfold JeY at hr
 split at hr
 · rename_i a b
   show Jp9 0 a b k = some res
   rw [Ji1] at hr
   unfold Jp9
   unfold inZ at hr
   by_cases h1 : a >= 0 <;> by_cases h2 : a < 3 <;> by_cases h3 : b >= 0 <;> by_cases h4 : b < 8 <;> simp [h1, h2, h3, h4, show (a <= 2) ↔ (a < 3) from by omega, show (b <= 7) ↔ (b < 8) from by omega] at hr ⊢ <;> exact hr
 · cases hr
def F87 : Fns := JG 123 Jso (F0)
theorem JuW : Jy tau Try.prog F87 := (JE).add JuU JzM
def Jqi : An := (.seq .leaf (.seq .leaf .leaf))
def g87 (f : Nat) (s_z s_f : Bool) (s : List PV) (v_D v_U : Int) (k : Res -> Option Res) : Option Res := bif Jab s then k (Res.mk (.sc (.bool (decide (Jir (PH.mk s (AV.mk v_D v_U)) >= 0)))) [] []) else none
theorem e87 (f : Nat) (s_z s_f : Bool) (s : List PV) (v_D v_U : Int) (k : Res -> Option Res) : JM tau F87 Try.f87 (Try.f87.body.get!) Jqi [.ro] 0 [.ro 42 s_z s_f s, .st 42 [.sc (.int .i64 v_D), .sc (.int .i64 v_U)]] [] k = g87 f s_z s_f s v_D v_U k := by kernel_rfl
theorem JDh (f : Nat) : Je (Try.f87.body.get!) Jqi = [] := by kernel_rfl
theorem JDi (f : Nat) : ∀ q ∈ Je (Try.f87.body.get!) Jqi, q.Ok tau Try.prog 0 := by
 rw [JDh f]; intro q hq; cases hq
theorem JzP : Try.prog.funcs[87]? = some Try.f87 := by kernel_rfl
theorem JzQ : Try.f87.body = some (Try.f87.body.get!) := by kernel_rfl
theorem JDj : Enters Try.prog 87 := enters_of JzP (by kernel_rfl) JzQ
def Jnb : List PV -> List Ent -> (Res -> Option Res) -> Option Res
 | [.ro 42 s_z s_f s, .st 42 [.sc (.int .i64 v_D), .sc (.int .i64 v_U)]], [], k => g87 0 s_z s_f s v_D v_U k
 | _, _, _ => none
def s87 : Sig := { own := [], run := Jnb }
theorem JDk : Jh tau Try.prog 87 s87 := JW Jr JuW Js JzP JzQ Jqi [.ro] 0 [] Jnb (JDi 0) fun xs es k res hr => by
 unfold Jnb at hr
 split at hr
 · exact ⟨rfl, 0, (e87 0 _ _ _ _ _  _).trans hr⟩
 · cases hr
def F39 : Fns := JG 87 s87 (F0)
theorem JuX : Jy tau Try.prog F39 := (JE).add JDk JDj
def Jqj : An := (.seq .leaf (.seq .leaf .leaf))
def g39 (f : Nat) (l_z l_f : Bool) (l : List PV) (a_D a_U : Int) (k : Res -> Option Res) : Option Res := bif Jab l then k (Res.mk (.sc (.bool (decide (Jir (PH.mk l (AV.mk a_D a_U)) >= 0)))) [] []) else none
theorem e39 (f : Nat) (l_z l_f : Bool) (l : List PV) (a_D a_U : Int) (k : Res -> Option Res) : JM tau F39 Try.f39 (Try.f39.body.get!) Jqj [.ro] 0 [.ro 42 l_z l_f l, .st 42 [.sc (.int .i64 a_D), .sc (.int .i64 a_U)]] [] k = g39 f l_z l_f l a_D a_U k := by kernel_rfl
theorem JDl (f : Nat) : Je (Try.f39.body.get!) Jqj = [] := by kernel_rfl
theorem JDm (f : Nat) : ∀ q ∈ Je (Try.f39.body.get!) Jqj, q.Ok tau Try.prog 0 := by
 rw [JDl f]; intro q hq; cases hq
theorem JzR : Try.prog.funcs[39]? = some Try.f39 := by kernel_rfl
theorem JzS : Try.f39.body = some (Try.f39.body.get!) := by kernel_rfl
theorem JDn : Enters Try.prog 39 := enters_of JzR (by kernel_rfl) JzS
def Jnc : List PV -> List Ent -> (Res -> Option Res) -> Option Res
 | [.ro 42 l_z l_f l, .st 42 [.sc (.int .i64 a_D), .sc (.int .i64 a_U)]], [], k => g39 0 l_z l_f l a_D a_U k
 | _, _, _ => none
def s39 : Sig := { own := [], run := Jnc }
theorem JDo : Jh tau Try.prog 39 s39 := JW Jr JuX Js JzR JzS Jqj [.ro] 0 [] Jnc (JDm 0) fun xs es k res hr => by
 unfold Jnc at hr
 split at hr
 · exact ⟨rfl, 0, (e39 0 _ _ _ _ _  _).trans hr⟩
 · cases hr
def JzT : Fns := F0
theorem Jqk : Jy tau Try.prog JzT := JE
def Jj1 : An := (.seq .leaf (.seq (.seq .leaf (.cond .leaf .leaf)) (.seq (.seq .leaf (.seq .leaf (.cond .leaf .leaf))) (.seq .leaf .leaf))))
def JzU (f : Nat) (n : Int) (k : Res -> Option Res) : Option Res := bif decide (n < 0) then none else bif decide (IntKind.i64.wrap (n - IntKind.i64.wrap (zi 0 - zi 0)) > 0) then bif decide (0 <= IntKind.i64.wrap (n - IntKind.i64.wrap (zi 0 - zi 0))) && Jf (IntKind.i64.wrap (n - IntKind.i64.wrap (zi 0 - zi 0))).toNat 16 && true then k (Res.mk (.ow 42 16 [] 0 0 none) [] [.vec false 42 (IntKind.i64.wrap (n - IntKind.i64.wrap (zi 0 - zi 0)) == 0) (List.replicate (IntKind.i64.wrap (n - IntKind.i64.wrap (zi 0 - zi 0))).toNat (PV.st 42 [.sc (.int .i64 0), .sc (.int .i64 0)]))]) else none else k (Res.mk (.ro 42 true true []) [] [])
theorem JDp (f : Nat) (n : Int) (k : Res -> Option Res) : JM tau JzT Try.f135 (Try.f135.body.get!) Jj1 [] 0 [.ro 42 true true [], .sc (.int .i64 n)] [] k = JzU f n k := by kernel_rfl
theorem JzV (f : Nat) : Je (Try.f135.body.get!) Jj1 = [] := by kernel_rfl
theorem JzW (f : Nat) : ∀ q ∈ Je (Try.f135.body.get!) Jj1, q.Ok tau Try.prog 0 := by
 rw [JzV f]; intro q hq; cases hq
theorem Jsq : Try.prog.funcs[135]? = some Try.f135 := by kernel_rfl
theorem Jsr : Try.f135.body = some (Try.f135.body.get!) := by kernel_rfl
theorem JzX : Enters Try.prog 135 := enters_of Jsq (by kernel_rfl) Jsr
def Jis : List PV -> List Ent -> (Res -> Option Res) -> Option Res
 | [.ro 42 true true [], .sc (.int .i64 n)], [], k => JzU 0 n k
 | _, _, _ => none
def JzY : Sig := { own := [], run := Jis }
theorem JzZ : Jh tau Try.prog 135 JzY := JW Jr Jqk Js Jsq Jsr Jj1 [] 0 [] Jis (JzW 0) fun xs es k res hr => by
 unfold Jis at hr
 split at hr
 · exact ⟨rfl, 0, (JDp 0 _  _).trans hr⟩
 · cases hr
def XV : Nat := 36
def Jgx : Fns := JG 135 JzY (F0)
theorem JeZ : Jy tau Try.prog Jgx := (JE).add JzZ JzX
def Jai : Code := Qj (Try.f129.body.get!) [1, 1, 0, 1, 0, 0]
def WQ : Nm := [(0, .any), (3, .any), (9, .any), (10, .any), (11, .any)]
def Xw : Nm := [(0, .any), (3, .any)]
def Jcm : An := (.seq .leaf (.seq (.cond .leaf .leaf) (.seq (.block none (.seq .leaf (.seq .leaf (.seq .leaf (.cond .leaf .leaf))))) .leaf)))
def Jaj : Code := Qj (Try.f129.body.get!) [1, 1, 1, 1, 0, 1, 0, 0]
def WR : Nm := [(6, .own), (25, .any), (26, .any), (27, .any)]
def Xx : Nm := [(6, .any)]
def Jcn : An := (.seq .leaf (.seq (.cond .leaf .leaf) (.seq (.block none (.seq .leaf .leaf)) .leaf)))
def Jj2 (r0 : QC) (r1 : QC) : An := (.seq .leaf (.seq .leaf (.seq (.seq .leaf (.block none (.sum WQ XV r0))) (.seq .leaf (.seq (.seq .leaf (.block none (.sum WR XV r1))) (.seq .leaf .leaf))))))
def ZG (f : Nat) (rc : Bool -> Bool -> List PV -> Int -> Bool -> Bool -> List PV -> Int -> Int -> Option Res) (k0 : Bool -> Bool -> List PV -> Int -> Option Res) (v0 v1 : Bool) (v2 : List PV) (v3 : Int) (v4 v5 : Bool) (v6 : List PV) (v7 v8 : Int) : Option Res := bif decide (v8 < v7) then bif decide (0 <= v8) && decide (v8 < zi v6.length) && PV.isRo 42 (v6.getD v8.toNat PV.top) && true then bif decide (IntKind.i64.wrap (v3 + zi (v6.getD v8.toNat PV.top).els.length) < 0) then none else rc v0 v1 v2 (IntKind.i64.wrap (v3 + zi (v6.getD v8.toNat PV.top).els.length)) v4 v5 v6 v7 (IntKind.i64.wrap (v8 + 1)) else none else k0 v0 v1 v2 v3
def YG (f : Nat) (k0 : Bool -> Bool -> List PV -> Int -> Option Res) : Nat -> Bool -> Bool -> List PV -> Int -> Bool -> Bool -> List PV -> Int -> Int -> Option Res
 | 0, _, _, _, _, _, _, _, _, _ => none
 | n + 1, v0, v1, v2, v3, v4, v5, v6, v7, v8 => ZG f (YG f k0 n) k0 v0 v1 v2 v3 v4 v5 v6 v7 v8
theorem Jnd (f : Nat) (k : Kont) (n : Nat) (v0 v1 : Bool) (v2 : List PV) (v3 : Int) (v4 v5 : Bool) (v6 : List PV) (v7 v8 : Int) : Jp tau 0 WQ (fun s k => ev tau Jgx 0 0 Jai (Jcm ) s k) (n + 1) (Jc WQ XV [.ro 35 v0 v1 v2, .sc (.int .i64 v3), .ro 35 v4 v5 v6, .sc (.int .i64 v7), .sc (.int .i64 v8)] []) (Jq tau 0 Xw k) = ZG f (fun v0 v1 v2 v3 v4 v5 v6 v7 v8 => Jp tau 0 WQ (fun s k => ev tau Jgx 0 0 Jai (Jcm ) s k) n (Jc WQ XV [.ro 35 v0 v1 v2, .sc (.int .i64 v3), .ro 35 v4 v5 v6, .sc (.int .i64 v7), .sc (.int .i64 v8)] []) (Jq tau 0 Xw k)) (fun x0 x1 x2 x3 => k (Ex.exit 0) (Jc Xw XV [.ro 35 x0 x1 x2, .sc (.int .i64 x3)] [])) v0 v1 v2 v3 v4 v5 v6 v7 v8 := by kernel_rfl
theorem Jgy (f : Nat) (k : Kont) : ∀ (n : Nat) (v0 v1 : Bool) (v2 : List PV) (v3 : Int) (v4 v5 : Bool) (v6 : List PV) (v7 v8 : Int), Jp tau 0 WQ (fun s k => ev tau Jgx 0 0 Jai (Jcm ) s k) n (Jc WQ XV [.ro 35 v0 v1 v2, .sc (.int .i64 v3), .ro 35 v4 v5 v6, .sc (.int .i64 v7), .sc (.int .i64 v8)] []) (Jq tau 0 Xw k) = YG f (fun x0 x1 x2 x3 => k (Ex.exit 0) (Jc Xw XV [.ro 35 x0 x1 x2, .sc (.int .i64 x3)] [])) n v0 v1 v2 v3 v4 v5 v6 v7 v8 | 0, _, _, _, _, _, _, _, _, _ => rfl | n + 1, v0, v1, v2, v3, v4, v5, v6, v7, v8 => (Jnd f k n v0 v1 v2 v3 v4 v5 v6 v7 v8).trans (congrArg (fun r => ZG f r (fun x0 x1 x2 x3 => k (Ex.exit 0) (Jc Xw XV [.ro 35 x0 x1 x2, .sc (.int .i64 x3)] [])) v0 v1 v2 v3 v4 v5 v6 v7 v8) (by funext v0 v1 v2 v3 v4 v5 v6 v7 v8; exact Jgy f k n v0 v1 v2 v3 v4 v5 v6 v7 v8))
def VM (f : Nat) : List PV -> List (Nat × Ent) -> Kont -> Option Res
 | [.ro 35 v0 v1 v2, .sc (.int .i64 v3), .ro 35 v4 v5 v6, .sc (.int .i64 v7),
 .sc (.int .i64 v8)], [], k => YG f (fun x0 x1 x2 x3 => k (Ex.exit 0) (Jc Xw XV [.ro 35 x0 x1 x2, .sc (.int .i64 x3)] [])) f v0 v1 v2 v3 v4 v5 v6 v7 v8
 | _, _, _ => none
theorem Jql (f : Nat) : Je Jai Jcm = [] := by kernel_rfl
theorem Jqm (f : Nat) : (Item.l Jai WQ XV (VM f)).Ok tau Try.prog 0 := JJ Jr JeZ Js (x := Jcm) (nm2 := Xw) (Jk _ _ (by rw [Jql f]; intro q hq; cases hq)) fun vs hp k res hr => by
 unfold VM at hr
 split at hr
 · exact ⟨f, 0, (Jgy f _ f _ _ _ _ _ _ _ _ _ ).trans hr⟩
 · cases hr
def ZH (f : Nat) (rc : Nat -> Bool -> Bool -> List PV -> Int -> Int -> Bool -> List PV -> Option Res) (k0 : Nat -> Bool -> List PV -> Option Res) (v0 : Nat) (v1 v2 : Bool) (v3 : List PV) (v4 v5 : Int) (v6 : Bool) (v7 : List PV) : Option Res := bif decide (v5 < v4) then bif decide (0 <= v5) && decide (v5 < zi v3.length) && PV.isRo 42 (v3.getD v5.toNat PV.top) && true then bif Jf (v0 + (v3.getD v5.toNat PV.top).els.length) 16 && true then rc (v0 + (v3.getD v5.toNat PV.top).els.length) v1 v2 v3 v4 (IntKind.i64.wrap (v5 + 1)) (v6 && (v3.getD v5.toNat PV.top).els.isEmpty) (List.take v0 v7 ++ (v3.getD v5.toNat PV.top).els) else none else none else k0 v0 v6 v7
def Wk (f : Nat) (k0 : Nat -> Bool -> List PV -> Option Res) : Nat -> Nat -> Bool -> Bool -> List PV -> Int -> Int -> Bool -> List PV -> Option Res
 | 0, _, _, _, _, _, _, _, _ => none
 | n + 1, v0, v1, v2, v3, v4, v5, v6, v7 => ZH f (Wk f k0 n) k0 v0 v1 v2 v3 v4 v5 v6 v7
theorem Jne (f : Nat) (k : Kont) (n v0 : Nat) (v1 v2 : Bool) (v3 : List PV) (v4 v5 : Int) (v6 : Bool) (v7 : List PV) : Jp tau 0 WR (fun s k => ev tau Jgx 0 0 Jaj (Jcn ) s k) (n + 1) (Jc WR XV [.ow 42 592 [] 0 v0 none, .ro 35 v1 v2 v3, .sc (.int .i64 v4), .sc (.int .i64 v5)] [(592, .vec false 42 v6 v7)]) (Jq tau 0 Xx k) = ZH f (fun v0 v1 v2 v3 v4 v5 v6 v7 => Jp tau 0 WR (fun s k => ev tau Jgx 0 0 Jaj (Jcn ) s k) n (Jc WR XV [.ow 42 592 [] 0 v0 none, .ro 35 v1 v2 v3, .sc (.int .i64 v4), .sc (.int .i64 v5)] [(592, .vec false 42 v6 v7)]) (Jq tau 0 Xx k)) (fun x0 x1 x2 => k (Ex.exit 2) (Jc Xx XV [.ow 42 592 [] 0 x0 none] [(592, .vec false 42 x1 x2)])) v0 v1 v2 v3 v4 v5 v6 v7 := by kernel_rfl
theorem Jgz (f : Nat) (k : Kont) : ∀ (n v0 : Nat) (v1 v2 : Bool) (v3 : List PV) (v4 v5 : Int) (v6 : Bool) (v7 : List PV), Jp tau 0 WR (fun s k => ev tau Jgx 0 0 Jaj (Jcn ) s k) n (Jc WR XV [.ow 42 592 [] 0 v0 none, .ro 35 v1 v2 v3, .sc (.int .i64 v4), .sc (.int .i64 v5)] [(592, .vec false 42 v6 v7)]) (Jq tau 0 Xx k) = Wk f (fun x0 x1 x2 => k (Ex.exit 2) (Jc Xx XV [.ow 42 592 [] 0 x0 none] [(592, .vec false 42 x1 x2)])) n v0 v1 v2 v3 v4 v5 v6 v7 | 0, _, _, _, _, _, _, _, _ => rfl | n + 1, v0, v1, v2, v3, v4, v5, v6, v7 => (Jne f k n v0 v1 v2 v3 v4 v5 v6 v7).trans (congrArg (fun r => ZH f r (fun x0 x1 x2 => k (Ex.exit 2) (Jc Xx XV [.ow 42 592 [] 0 x0 none] [(592, .vec false 42 x1 x2)])) v0 v1 v2 v3 v4 v5 v6 v7) (by funext v0 v1 v2 v3 v4 v5 v6 v7; exact Jgz f k n v0 v1 v2 v3 v4 v5 v6 v7))
def VN (f : Nat) : List PV -> List (Nat × Ent) -> Kont -> Option Res
 | [.ow 42 592 [] 0 v0 none, .ro 35 v1 v2 v3, .sc (.int .i64 v4),
 PV.sc
  (Value.int IntKind.i64
   v5)], [(592, .vec false 42 v6 v7)], k => Wk f (fun x0 x1 x2 => k (Ex.exit 2) (Jc Xx XV [.ow 42 592 [] 0 x0 none] [(592, .vec false 42 x1 x2)])) f v0 v1 v2 v3 v4 v5 v6 v7
 | _, _, _ => none
theorem Jqn (f : Nat) : Je Jaj Jcn = [] := by kernel_rfl
theorem Jqo (f : Nat) : (Item.l Jaj WR XV (VN f)).Ok tau Try.prog 0 := JJ Jr JeZ Js (x := Jcn) (nm2 := Xx) (Jk _ _ (by rw [Jqn f]; intro q hq; cases hq)) fun vs hp k res hr => by
 unfold VN at hr
 split at hr
 · exact ⟨f, 0, (Jgz f _ f _ _ _ _ _ _ _ _ ).trans hr⟩
 · cases hr
def Jz0 (f : Nat) (y0 y1 : Bool) (slices : List PV) (k : Res -> Option Res) : Option Res := YG f (fun x0_0 x1_0 x2_0 x3_0 => bif decide (x3_0 < 0) then none else bif decide (IntKind.i64.wrap (x3_0 - IntKind.i64.wrap (zi 0 - zi 0)) > 0) then bif decide (0 <= IntKind.i64.wrap (x3_0 - IntKind.i64.wrap (zi 0 - zi 0))) && Jf (IntKind.i64.wrap (x3_0 - IntKind.i64.wrap (zi 0 - zi 0))).toNat 16 && true then Wk f (fun x0_1 x1_1 x2_1 => k (Res.mk (.ow 42 16 [] 0 x0_1 none) [] [.vec false 42 x1_1 x2_1])) f (0) x0_0 x1_0 x2_0 (zi x2_0.length) (0) (IntKind.i64.wrap (x3_0 - IntKind.i64.wrap (zi 0 - zi 0)) == 0) (List.replicate (IntKind.i64.wrap (x3_0 - IntKind.i64.wrap (zi 0 - zi 0))).toNat (PV.st 42 [.sc (.int .i64 0), .sc (.int .i64 0)])) else none else Wk f (fun x0_2 x1_2 x2_2 => k (Res.mk (.ow 42 16 [] 0 x0_2 none) [] [.vec false 42 x1_2 x2_2])) f (0) x0_0 x1_0 x2_0 (zi x2_0.length) (0) true ([])) f y0 y1 slices (0) y0 y1 slices (zi slices.length) (0)
theorem JDq (f : Nat) (y0 y1 : Bool) (slices : List PV) (k : Res -> Option Res) : JM tau Jgx Try.f129 (Try.f129.body.get!) (Jj2 (VM f) (VN f)) [] 0 [.ro 35 y0 y1 slices] [] k = Jz0 f y0 y1 slices k := by kernel_rfl
theorem Jz1 (f : Nat) : Je (Try.f129.body.get!) (Jj2 (VM f) (VN f)) = [.l Jai WQ XV (VM f), .l Jaj WR XV (VN f)] := by kernel_rfl
theorem Jz2 (f : Nat) : ∀ q ∈ Je (Try.f129.body.get!) (Jj2 (VM f) (VN f)), q.Ok tau Try.prog 0 := by
 rw [Jz1 f]; simp only [List.forall_mem_cons, List.not_mem_nil, false_implies, implies_true, and_true]; exact ⟨Jqm f, Jqo f⟩
theorem Jss : Try.prog.funcs[129]? = some Try.f129 := by kernel_rfl
theorem Jst : Try.f129.body = some (Try.f129.body.get!) := by kernel_rfl
theorem Jsu : Enters Try.prog 129 := enters_of Jss (by kernel_rfl) Jst
-- FN slices.Concat[[]api.Addr,api.Addr]
theorem Jco {l : List PV} (h : l.all (PV.isRo 42) = true) {i : Nat} (hi : i < l.length) : (l.getD i .top).isRo 42 = true := by
 rw [List.getD_eq_getElem?_getD, List.getElem?_eq_getElem hi]
 exact List.all_eq_true.1 h _ (List.getElem_mem hi)
theorem Jnf (f : Nat) (k0 : Bool -> Bool -> List PV -> Int -> Option Res) (a b : Bool) (c : List PV) (nl fl : Bool) (l : List PV) (hl : l.all (PV.isRo 42) = true) (hs : (Jw l).length <= 8000000000000) (hn : l.length <= 8000000000000) : ∀ (d i n : Nat), i + d = l.length -> d < n ->
  YG f k0 n a b c ((Jw (l.take i)).length : Int) nl fl l (l.length : Int) (i : Int) = k0 a b c ((Jw l).length : Int)
 | 0, i, n + 1, h, hd => by
   obtain rfl : i = l.length := by omega
   simp only [YG, ZG]
   exact (Jj (by simp)).trans (by rw [List.take_length])
 | d + 1, i, n + 1, h, hd => by
   have hle := WF l (i + 1)
   have hadd : (Jw (l.take (i + 1))).length = (Jw (l.take i)).length + (l.getD i .top).els.length := by rw [WY l i (by omega), List.length_append]
   have h1 : IntKind.i64.wrap ((i : Int) + 1) = ((i + 1 : Nat) : Int) := by rw [wrap_i64 (by omega) (by omega)]; omega
   have h2 : IntKind.i64.wrap (((Jw (l.take i)).length : Int) + ((l.getD i .top).els.length : Int)) = ((Jw (l.take (i + 1))).length : Int) := by rw [wrap_i64 (by omega) (by omega)]; omega
   simp only [YG, ZG, zi, Int.toNat_natCast, h1, h2]
   refine (Ja (by simp <;> omega)).trans ?_
   refine (Ja (by rw [Jco hl (by omega)]; simp; omega)).trans ?_
   refine (Jj (by simp <;> omega)).trans ?_
   exact Jnf f k0 a b c nl fl l hl hs hn d (i + 1) n (by omega) (by omega)
theorem Jit (f : Nat) (k0 : Nat -> Bool -> List PV -> Option Res) (nl fl : Bool) (l : List PV) (hl : l.all (PV.isRo 42) = true) (hs : (Jw l).length <= 8000000000000) (hn : l.length <= 8000000000000) : ∀ (d i n : Nat) (z : Bool) (v : List PV), i + d = l.length -> d < n -> v.take (Jw (l.take i)).length = Jw (l.take i) -> (d = 0 -> v = Jw l) ->
  Wk f k0 n (Jw (l.take i)).length nl fl l (l.length : Int) (i : Int) z v = k0 (Jw l).length (z && (Jw (l.drop i)).isEmpty) (Jw l)
 | 0, i, n + 1, z, v, h, hd, hv, h0 => by
   obtain rfl : i = l.length := by omega
   simp only [Wk, ZH]
   refine (Jj (by simp)).trans ?_
   rw [List.take_length, h0 rfl, List.drop_length]; simp
 | d + 1, i, n + 1, z, v, h, hd, hv, h0 => by
   have hle := WF l (i + 1)
   have hadd : (Jw (l.take (i + 1))).length = (Jw (l.take i)).length + (l.getD i .top).els.length := by rw [WY l i (by omega), List.length_append]
   have h1 : IntKind.i64.wrap ((i : Int) + 1) = ((i + 1 : Nat) : Int) := by rw [wrap_i64 (by omega) (by omega)]; omega
   simp only [Wk, ZH, zi, Int.toNat_natCast, h1, hv]
   refine (Ja (by simp <;> omega)).trans ?_
   refine (Ja (by rw [Jco hl (by omega)]; simp; omega)).trans ?_
   refine (Ja (by simp only [Jf, Bool.and_true, decide_eq_true_eq]; omega)).trans ?_
   have := Jit f k0 nl fl l hl hs hn d (i + 1) n (z && (l.getD i .top).els.isEmpty) (Jw (l.take (i + 1))) (by omega) (by omega) (List.take_length) (fun hd0 => by rw [show i + 1 = l.length from by omega, List.take_length])
   rw [hadd, WY l i (by omega)] at this
   rw [this, JbY l i (by omega), WX, JaI, Bool.and_assoc]
def Je0 : List PV -> List Ent -> (Res -> Option Res) -> Option Res
 | [.ro 35 nl fl l], [], k => bif l.all (PV.isRo 42) && (decide ((Jw l).length <= 8000000000000) && decide (l.length <= 8000000000000)) then k ⟨.ow 42 16 [] 0 (Jw l).length none, [], [.vec false 42 (Jw l).isEmpty (Jw l)]⟩ else none
 | _, _, _ => none
def Jng : Sig := { own := [], run := Je0 }
theorem Jqp (nl fl : Bool) (l : List PV) (k : Res -> Option Res) (hl : l.all (PV.isRo 42) = true) (hs : (Jw l).length <= 8000000000000) (hn : l.length <= 8000000000000) :
  Jz0 (l.length + 1) nl fl l k = k ⟨.ow 42 16 [] 0 (Jw l).length none, [], [.vec false 42 (Jw l).isEmpty (Jw l)]⟩ := by
 have h0 := Jnf (l.length + 1) (fun x0_0 x1_0 x2_0 x3_0 =>
  bif decide (x3_0 < 0) then
   none
  else bif decide (IntKind.i64.wrap (x3_0 - IntKind.i64.wrap (zi 0 - zi 0)) > 0) then
   bif decide (0 <= IntKind.i64.wrap (x3_0 - IntKind.i64.wrap (zi 0 - zi 0))) && Jf (IntKind.i64.wrap (x3_0 - IntKind.i64.wrap (zi 0 - zi 0))).toNat 16 && true then
    Wk (l.length + 1) (fun x0_1 x1_1 x2_1 =>
     k (Res.mk (PV.ow 42 16 [] 0 x0_1 none) []
      [Ent.vec false 42 x1_1
       x2_1])) (l.length + 1) (0) x0_0 x1_0 x2_0 (zi
     x2_0.length) (0) (IntKind.i64.wrap (x3_0 - IntKind.i64.wrap (zi 0 - zi 0)) ==
     0) (List.replicate (IntKind.i64.wrap (x3_0 - IntKind.i64.wrap (zi 0 - zi 0))).toNat (PV.st 42 [.sc (.int .i64 0), .sc (.int .i64 0)]))
   else none
  else Wk (l.length + 1) (fun x0_2 x1_2 x2_2 =>
   k (Res.mk (PV.ow 42 16 [] 0 x0_2 none) [] [Ent.vec false 42 x1_2 x2_2])) (l.length + 1) (0) x0_0 x1_0 x2_0 (zi x2_0.length) (0) true ([])) nl fl l nl fl l hl hs hn l.length 0 (l.length + 1) (by omega) (by omega)
 refine h0.trans ?_
 have hw : IntKind.i64.wrap (((Jw l).length : Int) - IntKind.i64.wrap (zi 0 - zi 0)) = ((Jw l).length : Int) := by
  have : IntKind.i64.wrap (zi 0 - zi 0) = 0 := by decide
  rw [this, wrap_i64 (by omega) (by omega)]; omega
 simp only [hw]
 refine (Jj (by simp <;> omega)).trans ?_
 cases he : (Jw l).isEmpty with
 | true =>
  have he' : Jw l = [] := by simpa using he
  refine (Jj (by simp [he'])).trans ?_
  have := Jit (l.length + 1) (fun x0_2 x1_2 x2_2 => k (Res.mk (PV.ow 42 16 [] 0 x0_2 none) [] [Ent.vec false 42 x1_2 x2_2])) nl fl l hl hs hn l.length 0 (l.length + 1) true [] (by omega) (by omega) (by simp) (fun _ => he'.symm)
  refine this.trans ?_
  simp [he']
 | false =>
  have he' : Jw l ≠ [] := by simpa using he
  have hpos : 0 < (Jw l).length := List.length_pos_iff.2 he'
  have hl0 : l.length ≠ 0 := by
   intro h; rw [List.length_eq_zero_iff] at h; subst h; simp at he'
  refine (Ja (by simp <;> omega)).trans ?_
  refine (Ja (by simp [Jf] <;> omega)).trans ?_
  have := Jit (l.length + 1) (fun x0_2 x1_2 x2_2 => k (Res.mk (PV.ow 42 16 [] 0 x0_2 none) [] [Ent.vec false 42 x1_2 x2_2])) nl fl l hl hs hn l.length 0 (l.length + 1) (((Jw l).length : Int) == 0) (List.replicate (((Jw l).length : Int)).toNat (PV.st 42 [.sc (.int .i64 0), .sc (.int .i64 0)])) (by omega) (by omega) (by simp) (fun h => absurd h hl0)
  refine this.trans ?_
  have hz : (((Jw l).length : Int) == 0) = false := by simp [he']
  rw [hz]; rfl
theorem Jnh : Jh tau Try.prog 129 Jng := Jek Jr JeZ Js Jss Jst (fun n => Jj2 (VM n) (VN n)) [] 0 [] Je0 (fun n => Jz2 n) fun xs es k res hr => by
 unfold Je0 at hr
 split at hr
 · rename_i nl fl l
   obtain ⟨hc, hr⟩ := JI hr
   simp only [Bool.and_eq_true, decide_eq_true_eq] at hc
   refine ⟨rfl, l.length + 1, 0, (JDq _ _ _ _ _).trans ?_⟩
   rw [Jqp _ _ _ _ hc.1 hc.2.1 hc.2.2]; exact hr
 · cases hr
def F90 : Fns := JG 129 Jng (JG 128 Jsp (JG 127 Jm7 (JG 86 s86 (F0))))
theorem JuY : Jy tau Try.prog F90 := ((((JE).add JuR JuQ).add Jm8 Jsn).add JuV JzI).add Jnh Jsu
def Jqq : An := (.seq .leaf (.seq .leaf (.seq (.block none (.seq .leaf (.cond (.seq .leaf .leaf) (.seq .leaf (.cond (.seq .leaf .leaf) (.seq .leaf (.cond (.seq .leaf .leaf) .leaf))))))) (.seq .leaf .leaf))))
def g90 (f : Nat) (l_z l_f : Bool) (l : List PV) (a_D a_U : Int) (k : Res -> Option Res) : Option Res := bif Jab l then bif !inA [a_D, 2, a_U, 7] then bif l_z then k (Res.mk (.tup [.ro 42 true true [], .sc (.int .i64 1)]) [] []) else bif Jf (0 + l.length) 16 && true then k (Res.mk (.tup [.ro 42 false false (List.take (0 + l.length) l), .sc (.int .i64 1)]) [] []) else none else bif JkP (PH.mk l (AV.mk a_D a_U)) then bif l_z then k (Res.mk (.tup [.ro 42 true true [], .sc (.int .i64 12)]) [] []) else bif Jf (0 + l.length) 16 && true then k (Res.mk (.tup [.ro 42 false false (List.take (0 + l.length) l), .sc (.int .i64 12)]) [] []) else none else bif decide (zi l.length >= 8) then bif l_z then k (Res.mk (.tup [.ro 42 true true [], .sc (.int .i64 4)]) [] []) else bif Jf (0 + l.length) 16 && true then k (Res.mk (.tup [.ro 42 false false (List.take (0 + l.length) l), .sc (.int .i64 4)]) [] []) else none else bif decide (0 <= QH (PH.mk l (AV.mk a_D a_U))) && true && decide ((QH (PH.mk l (AV.mk a_D a_U))).toNat <= l.length) && true then bif decide (0 <= QH (PH.mk l (AV.mk a_D a_U))) && true && decide ((QH (PH.mk l (AV.mk a_D a_U))).toNat <= l.length) && decide (l.length <= l.length) && true then bif decide ((Jw [.ro 42 l_z (l_z || l_f && false) (List.take (QH (PH.mk l (AV.mk a_D a_U))).toNat l), .ro 42 false false [.st 42 [.sc (.int .i64 a_D), .sc (.int .i64 a_U)]], .ro 42 l_z (l_z || l_f && true) (List.drop (QH (PH.mk l (AV.mk a_D a_U))).toNat (List.take l.length l))]).length <= 8000000000000) && true then k (Res.mk (.tup [.ro 42 (Ent.vec false 42 (Jw [.ro 42 l_z (l_z || l_f && false) (List.take (QH (PH.mk l (AV.mk a_D a_U))).toNat l), .ro 42 false false [.st 42 [.sc (.int .i64 a_D), .sc (.int .i64 a_U)]], .ro 42 l_z (l_z || l_f && true) (List.drop (QH (PH.mk l (AV.mk a_D a_U))).toNat (List.take l.length l))]).isEmpty (Jw [.ro 42 l_z (l_z || l_f && false) (List.take (QH (PH.mk l (AV.mk a_D a_U))).toNat l), .ro 42 false false [.st 42 [.sc (.int .i64 a_D), .sc (.int .i64 a_U)]], .ro 42 l_z (l_z || l_f && true) (List.drop (QH (PH.mk l (AV.mk a_D a_U))).toNat (List.take l.length l))])).nil false (List.take (Jw [.ro 42 l_z (l_z || l_f && false) (List.take (QH (PH.mk l (AV.mk a_D a_U))).toNat l), .ro 42 false false [.st 42 [.sc (.int .i64 a_D), .sc (.int .i64 a_U)]], .ro 42 l_z (l_z || l_f && true) (List.drop (QH (PH.mk l (AV.mk a_D a_U))).toNat (List.take l.length l))]).length (Jw [.ro 42 l_z (l_z || l_f && false) (List.take (QH (PH.mk l (AV.mk a_D a_U))).toNat l), .ro 42 false false [.st 42 [.sc (.int .i64 a_D), .sc (.int .i64 a_U)]], .ro 42 l_z (l_z || l_f && true) (List.drop (QH (PH.mk l (AV.mk a_D a_U))).toNat (List.take l.length l))])), .sc (.int .i64 0)]) [] []) else none else none else none else none
theorem e90 (f : Nat) (l_z l_f : Bool) (l : List PV) (a_D a_U : Int) (k : Res -> Option Res) : JM tau F90 Try.f90 (Try.f90.body.get!) Jqq [.ro, .ro] 0 [.ro 42 l_z l_f l, .st 42 [.sc (.int .i64 a_D), .sc (.int .i64 a_U)]] [] k = g90 f l_z l_f l a_D a_U k := by kernel_rfl
theorem JDr (f : Nat) : Je (Try.f90.body.get!) Jqq = [] := by kernel_rfl
theorem JDs (f : Nat) : ∀ q ∈ Je (Try.f90.body.get!) Jqq, q.Ok tau Try.prog 0 := by
 rw [JDr f]; intro q hq; cases hq
theorem Jz3 : Try.prog.funcs[90]? = some Try.f90 := by kernel_rfl
theorem Jz4 : Try.f90.body = some (Try.f90.body.get!) := by kernel_rfl
theorem JDt : Enters Try.prog 90 := enters_of Jz3 (by kernel_rfl) Jz4
def Jni : List PV -> List Ent -> (Res -> Option Res) -> Option Res
 | [.ro 42 l_z l_f l, .st 42 [.sc (.int .i64 a_D), .sc (.int .i64 a_U)]], [], k => g90 0 l_z l_f l a_D a_U k
 | _, _, _ => none
def s90 : Sig := { own := [], run := Jni }
theorem JDu : Jh tau Try.prog 90 s90 := JW Jr JuY Js Jz3 Jz4 Jqq [.ro, .ro] 0 [] Jni (JDs 0) fun xs es k res hr => by
 unfold Jni at hr
 split at hr
 · exact ⟨rfl, 0, (e90 0 _ _ _ _ _  _).trans hr⟩
 · cases hr
def F91 : Fns := JG 129 Jng (JG 127 Jm7 (JG 86 s86 (F0)))
theorem JuZ : Jy tau Try.prog F91 := (((JE).add JuR JuQ).add Jm8 Jsn).add Jnh Jsu
def Jqr : An := (.seq .leaf (.seq .leaf (.seq (.seq .leaf (.cond (.seq .leaf .leaf) .leaf)) (.seq .leaf .leaf))))
def g91 (f : Nat) (l_z l_f : Bool) (l : List PV) (a_D a_U : Int) (k : Res -> Option Res) : Option Res := bif Jab l then bif !JkP (PH.mk l (AV.mk a_D a_U)) then bif l_z then k (Res.mk (.tup [.ro 42 true true [], .sc (.int .i64 2)]) [] []) else bif Jf (0 + l.length) 16 && true then k (Res.mk (.tup [.ro 42 false false (List.take (0 + l.length) l), .sc (.int .i64 2)]) [] []) else none else bif decide (0 <= QH (PH.mk l (AV.mk a_D a_U))) && true && decide ((QH (PH.mk l (AV.mk a_D a_U))).toNat <= l.length) && true then bif decide (0 <= IntKind.i64.wrap (QH (PH.mk l (AV.mk a_D a_U)) + 1)) && true && decide ((IntKind.i64.wrap (QH (PH.mk l (AV.mk a_D a_U)) + 1)).toNat <= l.length) && decide (l.length <= l.length) && true then bif decide ((Jw [.ro 42 l_z (l_z || l_f && false) (List.take (QH (PH.mk l (AV.mk a_D a_U))).toNat l), .ro 42 l_z (l_z || l_f && true) (List.drop (IntKind.i64.wrap (QH (PH.mk l (AV.mk a_D a_U)) + 1)).toNat (List.take l.length l))]).length <= 8000000000000) && true then k (Res.mk (.tup [.ro 42 (Ent.vec false 42 (Jw [.ro 42 l_z (l_z || l_f && false) (List.take (QH (PH.mk l (AV.mk a_D a_U))).toNat l), .ro 42 l_z (l_z || l_f && true) (List.drop (IntKind.i64.wrap (QH (PH.mk l (AV.mk a_D a_U)) + 1)).toNat (List.take l.length l))]).isEmpty (Jw [.ro 42 l_z (l_z || l_f && false) (List.take (QH (PH.mk l (AV.mk a_D a_U))).toNat l), .ro 42 l_z (l_z || l_f && true) (List.drop (IntKind.i64.wrap (QH (PH.mk l (AV.mk a_D a_U)) + 1)).toNat (List.take l.length l))])).nil false (List.take (Jw [.ro 42 l_z (l_z || l_f && false) (List.take (QH (PH.mk l (AV.mk a_D a_U))).toNat l), .ro 42 l_z (l_z || l_f && true) (List.drop (IntKind.i64.wrap (QH (PH.mk l (AV.mk a_D a_U)) + 1)).toNat (List.take l.length l))]).length (Jw [.ro 42 l_z (l_z || l_f && false) (List.take (QH (PH.mk l (AV.mk a_D a_U))).toNat l), .ro 42 l_z (l_z || l_f && true) (List.drop (IntKind.i64.wrap (QH (PH.mk l (AV.mk a_D a_U)) + 1)).toNat (List.take l.length l))])), .sc (.int .i64 0)]) [] []) else none else none else none else none
theorem e91 (f : Nat) (l_z l_f : Bool) (l : List PV) (a_D a_U : Int) (k : Res -> Option Res) : JM tau F91 Try.f91 (Try.f91.body.get!) Jqr [.ro, .ro] 0 [.ro 42 l_z l_f l, .st 42 [.sc (.int .i64 a_D), .sc (.int .i64 a_U)]] [] k = g91 f l_z l_f l a_D a_U k := by kernel_rfl
theorem JDv (f : Nat) : Je (Try.f91.body.get!) Jqr = [] := by kernel_rfl
theorem JDw (f : Nat) : ∀ q ∈ Je (Try.f91.body.get!) Jqr, q.Ok tau Try.prog 0 := by
 rw [JDv f]; intro q hq; cases hq
theorem Jz5 : Try.prog.funcs[91]? = some Try.f91 := by kernel_rfl
theorem Jz6 : Try.f91.body = some (Try.f91.body.get!) := by kernel_rfl
theorem JDx : Enters Try.prog 91 := enters_of Jz5 (by kernel_rfl) Jz6
def Jnj : List PV -> List Ent -> (Res -> Option Res) -> Option Res
 | [.ro 42 l_z l_f l, .st 42 [.sc (.int .i64 a_D), .sc (.int .i64 a_U)]], [], k => g91 0 l_z l_f l a_D a_U k
 | _, _, _ => none
def s91 : Sig := { own := [], run := Jnj }
theorem JDy : Jh tau Try.prog 91 s91 := JW Jr JuZ Js Jz5 Jz6 Jqr [.ro, .ro] 0 [] Jnj (JDw 0) fun xs es k res hr => by
 unfold Jnj at hr
 split at hr
 · exact ⟨rfl, 0, (e91 0 _ _ _ _ _  _).trans hr⟩
 · cases hr
-- FN people.Has | people.Add | people.Remove
def zOk : Bool -> List PV -> Bool := hid fun z l => !z || l.isEmpty
theorem Jbi {z : Bool} {l : List PV} : zOk z l = true ↔ (z = true -> l = []) := by
 rw [zOk, hid_eq]
 cases z <;> simp
theorem Jcp {l : List PV} (h : pOk l = true) : Jab l = true := by
 obtain ⟨h1, _, h3⟩ := Q1.1 h
 exact Gf.2 ⟨h1, by omega⟩
theorem Jj3 {z : Bool} {l : List PV} (hz : z = true -> l = []) (hl : l.length <= 1000) (e : Int) (k : Res -> Option Res) : (bif z then k ⟨.tup [.ro 42 true true [], .sc (.int .i64 e)], [], []⟩ else bif Jf (0 + l.length) 16 && true then k ⟨.tup [.ro 42 false false (List.take (0 + l.length) l), .sc (.int .i64 e)], [], []⟩ else none) = k ⟨.tup [.ro 42 z z l, .sc (.int .i64 e)], [], []⟩ := by
 cases z with
 | true => rw [hz rfl]; rfl
 | false =>
  refine (Jj rfl).trans ((Ja (by simp [Jf]; omega)).trans ?_)
  rw [List.take_of_length_le (by omega)]
def Jiu : List PV -> List Ent -> (Res -> Option Res) -> Option Res
 | [.ro 42 z f l, .st 42 [.sc (.int .i64 d), .sc (.int .i64 u)]], [], k => bif pOk l then k ⟨.sc (.bool (hasP ⟨l, ⟨d, u⟩⟩)), [], []⟩ else none
 | _, _, _ => none
def Jz7 : Sig := { own := [], run := Jiu }
theorem Jz8 : Jh tau Try.prog 39 Jz7 := JDo.of fun xs es k res hr => by
 change Jiu xs es k = some res at hr
 unfold Jiu at hr
 split at hr
 · rename_i z f l d u
   obtain ⟨hc, hr⟩ := JI hr
   refine Eq.trans ?_ hr
   show g39 0 z f l d u k = _
   unfold g39
   rw [Jm9]
   exact Ja (Jcp hc)
 · cases hr
def Jiv : List PV -> List Ent -> (Res -> Option Res) -> Option Res
 | [.ro 42 z f l, .st 42 [.sc (.int .i64 d), .sc (.int .i64 u)]], [], k => bif pOk l && zOk z l then k ⟨.tup [.ro 42 (adF ⟨l, ⟨d, u⟩⟩ && z) (adF ⟨l, ⟨d, u⟩⟩ && z) (adL ⟨l, ⟨d, u⟩⟩), .sc (.int .i64 (adE ⟨l, ⟨d, u⟩⟩))], [], []⟩ else none
 | _, _, _ => none
def Jz9 : Sig := { own := [], run := Jiv }
theorem Ju0 (z f : Bool) (l : List PV) (d u : Int) (h : pOk l = true) (hz : z = true -> l = []) (k : Res -> Option Res) : g90 0 z f l d u k = k ⟨.tup [.ro 42 (adF ⟨l, ⟨d, u⟩⟩ && z) (adF ⟨l, ⟨d, u⟩⟩ && z) (adL ⟨l, ⟨d, u⟩⟩), .sc (.int .i64 (adE ⟨l, ⟨d, u⟩⟩))], [], []⟩ := by
 obtain ⟨h1, h2, h3⟩ := Q1.1 h
 unfold g90
 rw [JeV, JmN, Jac, JmO]
 simp only [XU h2]
 unfold VG
 refine (Ja (Jcp h)).trans ?_
 cases hu : inA [d, 2, u, 7] with
 | false => exact (Ja rfl).trans (Jj3 hz (by omega) 1 k)
 | true =>
  refine (Jj rfl).trans ?_
  cases hh : hasL l ⟨d, u⟩ with
  | true => exact (Ja rfl).trans (Jj3 hz (by omega) 12 k)
  | false =>
   refine (Jj rfl).trans ?_
   by_cases h8 : l.length >= 8
   · refine (Ja (by simp [zi]; omega)).trans ((Jj3 hz (by omega) 4 k).trans ?_)
     simp only [decide_eq_true h8, Bool.not_true, cond_false, cond_true]; rfl
   · refine (Jj (by simp [zi]; omega)).trans ?_
     simp only [decide_eq_false h8, Bool.not_true, cond_false]
     have hc := Jbg l ⟨d, u⟩
     rw [JeU]
     simp only [Int.toNat_natCast]
     have e0 : List.take l.length l = l := List.take_length
     have hfl : ∀ (a b c e x y : Bool), Jw [.ro 42 a b (List.take (Q3 l ⟨d, u⟩) l), .ro 42 x y [.st 42 [.sc (.int .i64 d), .sc (.int .i64 u)]], .ro 42 c e (List.drop (Q3 l ⟨d, u⟩) l)] = Z4 l ⟨d, u⟩ := fun _ _ _ _ _ _ => by
      simp only [WX, V9, PV.els, List.append_nil]; rfl
     have hil := ZE l ⟨d, u⟩
     have hne : (Z4 l ⟨d, u⟩).isEmpty = false := by
      cases hx : Z4 l ⟨d, u⟩ with
      | nil => rw [hx] at hil; simp at hil
      | cons _ _ => rfl
     simp only [e0, hfl, List.take_length, hne, Ent.nil]
     exact (Ja (by simp; omega)).trans ((Ja (by simp; omega)).trans (Ja (by simp; omega)))
theorem JAa : Jh tau Try.prog 90 Jz9 := JDu.of fun xs es k res hr => by
 change Jiv xs es k = some res at hr
 unfold Jiv at hr
 split at hr
 · rename_i z f l d u
   obtain ⟨hc, hr⟩ := JI hr
   rw [Bool.and_eq_true, Jbi] at hc
   exact (Ju0 z f l d u hc.1 hc.2 k).trans hr
 · cases hr
def Jiw : List PV -> List Ent -> (Res -> Option Res) -> Option Res
 | [.ro 42 z f l, .st 42 [.sc (.int .i64 d), .sc (.int .i64 u)]], [], k => bif pOk l && zOk z l then k ⟨.tup [.ro 42 (rmZ ⟨l, ⟨d, u⟩⟩ z) (rmF ⟨l, ⟨d, u⟩⟩ z) (rmL ⟨l, ⟨d, u⟩⟩), .sc (.int .i64 (rmE ⟨l, ⟨d, u⟩⟩))], [], []⟩ else none
 | _, _, _ => none
def JAb : Sig := { own := [], run := Jiw }
theorem Ju1 (z f : Bool) (l : List PV) (d u : Int) (h : pOk l = true) (hz : z = true -> l = []) (k : Res -> Option Res) : g91 0 z f l d u k = k ⟨.tup [.ro 42 (rmZ ⟨l, ⟨d, u⟩⟩ z) (rmF ⟨l, ⟨d, u⟩⟩ z) (rmL ⟨l, ⟨d, u⟩⟩), .sc (.int .i64 (rmE ⟨l, ⟨d, u⟩⟩))], [], []⟩ := by
 obtain ⟨h1, h2, h3⟩ := Q1.1 h
 unfold g91
 rw [JeV, JmP, Jad, JmQ, JuM]
 simp only [XU h2]
 unfold JpX
 refine (Ja (Jcp h)).trans ?_
 cases hh : hasL l ⟨d, u⟩ with
 | false => exact (Ja rfl).trans (Jj3 hz (by omega) 2 k)
 | true =>
  refine (Jj rfl).trans ?_
  have hf : VL l ⟨d, u⟩ = true := by rw [XU h2]; exact hh
  have hc := Jbg l ⟨d, u⟩
  have hlt : Q3 l ⟨d, u⟩ < l.length := by
   unfold VL at hf
   rw [Bool.and_eq_true, Nat.blt_eq] at hf
   exact hf.1
  rw [JeU]
  have w1 : IntKind.i64.wrap ((Q3 l ⟨d, u⟩ : Int) + 1) = ((Q3 l ⟨d, u⟩ + 1 : Nat) : Int) := by rw [wrap_i64 (by omega) (by omega)]; omega
  simp only [w1, Int.toNat_natCast]
  have e0 : List.take l.length l = l := List.take_length
  have hfl : ∀ (a b c e : Bool), Jw [.ro 42 a b (List.take (Q3 l ⟨d, u⟩) l), .ro 42 c e (List.drop (Q3 l ⟨d, u⟩ + 1) l)] = rmA l ⟨d, u⟩ := fun _ _ _ _ => by
   simp only [WX, V9, PV.els, List.append_nil]; exact JjZ h2 hf
  have hrl : (rmA l ⟨d, u⟩).length <= 8 := by
   have := List.length_filter_le (fun p => !eqA (av p) ⟨d, u⟩) l
   unfold rmA; omega
  simp only [e0, hfl, List.take_length, Ent.nil]
  exact (Ja (by simp; omega)).trans ((Ja (by simp; omega)).trans (Ja (by simp; omega)))
theorem JAc : Jh tau Try.prog 91 JAb := JDy.of fun xs es k res hr => by
 change Jiw xs es k = some res at hr
 unfold Jiw at hr
 split at hr
 · rename_i z f l d u
   obtain ⟨hc, hr⟩ := JI hr
   rw [Bool.and_eq_true, Jbi] at hc
   exact (Ju1 z f l d u hc.1 hc.2 k).trans hr
 · cases hr
def JAd : Fns := F0
theorem Jqs : Jy tau Try.prog JAd := JE
def Jj4 : An := (.seq .leaf (.seq (.seq .leaf (.cond (.seq .leaf .leaf) .leaf)) (.seq .leaf .leaf)))
def JAe (f : Nat) (y0 c_N : Int) (c_S : ByteArray) (k : Res -> Option Res) : Option Res := bif y0 == 2 then k (Res.mk (.sc (.int .i64 (zi c_S.size))) [] []) else k (Res.mk (.sc (.int .i64 c_N)) [] [])
theorem JDz (f : Nat) (y0 c_N : Int) (c_S : ByteArray) (k : Res -> Option Res) : JM tau JAd Try.f126 (Try.f126.body.get!) Jj4 [.ro] 0 [.st 113 [.sc (.int .i64 y0), .sc (.int .i64 c_N), .sc (.string c_S)]] [] k = JAe f y0 c_N c_S k := by kernel_rfl
theorem JAf (f : Nat) : Je (Try.f126.body.get!) Jj4 = [] := by kernel_rfl
theorem JAg (f : Nat) : ∀ q ∈ Je (Try.f126.body.get!) Jj4, q.Ok tau Try.prog 0 := by
 rw [JAf f]; intro q hq; cases hq
theorem Jsv : Try.prog.funcs[126]? = some Try.f126 := by kernel_rfl
theorem Jsw : Try.f126.body = some (Try.f126.body.get!) := by kernel_rfl
theorem Jsx : Enters Try.prog 126 := enters_of Jsv (by kernel_rfl) Jsw
def Jix : List PV -> List Ent -> (Res -> Option Res) -> Option Res
 | [.st 113 [.sc (.int .i64 y0), .sc (.int .i64 c_N), .sc (.string c_S)]], [], k => JAe 0 y0 c_N c_S k
 | _, _, _ => none
def Ju2 : Sig := { own := [], run := Jix }
theorem Jsy : Jh tau Try.prog 126 Ju2 := JW Jr Jqs Js Jsv Jsw Jj4 [.ro] 0 [] Jix (JAg 0) fun xs es k res hr => by
 unfold Jix at hr
 split at hr
 · exact ⟨rfl, 0, (JDz 0 _ _ _  _).trans hr⟩
 · cases hr
def JcI : Nat := 39
def Jnk : Fns := JG 126 Ju2 (F0)
theorem Jj5 : Jy tau Try.prog Jnk := (JE).add Jsy Jsx
def Jak : Code := Qj (Try.f125.body.get!) [1, 1, 0, 1, 0, 0]
def WS : Nm := [(3, .any), (7, .any), (8, .any), (9, .any)]
def Xy : Nm := [(3, .any)]
def Jcq : An := (.seq .leaf (.seq (.cond .leaf .leaf) (.seq (.block none (.seq .leaf (.seq .leaf (.seq .leaf (.block none (.seq .leaf (.cond .leaf (.seq .leaf (.cond .leaf (.seq .leaf (.cond .leaf .leaf))))))))))) .leaf)))
def Jj6 (r0 : QC) : An := (.seq .leaf (.seq .leaf (.seq (.seq .leaf (.block none (.sum WS JcI r0))) (.seq .leaf .leaf))))
def ZI (f : Nat) (rc : Nat -> Nat -> Bool -> Bool -> List PV -> Int -> Int -> Option Res) (k0 : Nat -> Nat -> Option Res) (v0 v1 : Nat) (v2 v3 : Bool) (v4 : List PV) (v5 v6 : Int) : Option Res := bif decide (v6 < v5) then bif decide (0 <= v6) && decide (v6 < zi v4.length) && (PV.isSt 113 #[Field.mk "Kind" 3 0 false "" "" 0, Field.mk "N" 3 1 false "" "" 8, Field.mk "S" 9 2 false "" "" 16].size (v4.getD v6.toNat PV.top) && (PV.isInt IntKind.i64 (PV.child 0 (v4.getD v6.toNat PV.top)) && (PV.isInt IntKind.i64 (PV.child (0 + 1) (v4.getD v6.toNat PV.top)) && ((PV.child (0 + 1 + 1) (v4.getD v6.toNat PV.top)).isStr && true)))) && true then bif (PV.child 0 (v4.getD v6.toNat PV.top)).int == 2 then bif (PV.child 0 (v4.getD v6.toNat PV.top)).int == 1 then bif (FloatKind.f64.format.add (PV.sc (Value.complex FloatKind.f64 v0 v1)).cre (PV.sc (Value.complex FloatKind.f64 (fOf FloatKind.f64 (zi (PV.child (0 + 1 + 1) (v4.getD v6.toNat PV.top)).str.size)) (fOf FloatKind.f64 (zi (PV.child (0 + 1 + 1) (v4.getD v6.toNat PV.top)).str.size)))).cre).isSome && (FloatKind.f64.format.add (PV.sc (Value.complex FloatKind.f64 v0 v1)).cim (PV.sc (Value.complex FloatKind.f64 (fOf FloatKind.f64 (zi (PV.child (0 + 1 + 1) (v4.getD v6.toNat PV.top)).str.size)) (fOf FloatKind.f64 (zi (PV.child (0 + 1 + 1) (v4.getD v6.toNat PV.top)).str.size)))).cim).isSome && true then rc ((FloatKind.f64.format.add (PV.sc (Value.complex FloatKind.f64 v0 v1)).cre (PV.sc (Value.complex FloatKind.f64 (fOf FloatKind.f64 (zi (PV.child (0 + 1 + 1) (v4.getD v6.toNat PV.top)).str.size)) (fOf FloatKind.f64 (zi (PV.child (0 + 1 + 1) (v4.getD v6.toNat PV.top)).str.size)))).cre).getD 0) ((FloatKind.f64.format.add (PV.sc (Value.complex FloatKind.f64 v0 v1)).cim (PV.sc (Value.complex FloatKind.f64 (fOf FloatKind.f64 (zi (PV.child (0 + 1 + 1) (v4.getD v6.toNat PV.top)).str.size)) (fOf FloatKind.f64 (zi (PV.child (0 + 1 + 1) (v4.getD v6.toNat PV.top)).str.size)))).cim).getD 0) v2 v3 v4 v5 (IntKind.i64.wrap (v6 + 1)) else none else bif (PV.child 0 (v4.getD v6.toNat PV.top)).int == 2 then bif (FloatKind.f64.format.add (PV.sc (Value.complex FloatKind.f64 v0 v1)).cre (PV.sc (Value.complex FloatKind.f64 0 (fOf FloatKind.f64 (zi (PV.child (0 + 1 + 1) (v4.getD v6.toNat PV.top)).str.size)))).cre).isSome && (FloatKind.f64.format.add (PV.sc (Value.complex FloatKind.f64 v0 v1)).cim (PV.sc (Value.complex FloatKind.f64 0 (fOf FloatKind.f64 (zi (PV.child (0 + 1 + 1) (v4.getD v6.toNat PV.top)).str.size)))).cim).isSome && true then rc ((FloatKind.f64.format.add (PV.sc (Value.complex FloatKind.f64 v0 v1)).cre (PV.sc (Value.complex FloatKind.f64 0 (fOf FloatKind.f64 (zi (PV.child (0 + 1 + 1) (v4.getD v6.toNat PV.top)).str.size)))).cre).getD 0) ((FloatKind.f64.format.add (PV.sc (Value.complex FloatKind.f64 v0 v1)).cim (PV.sc (Value.complex FloatKind.f64 0 (fOf FloatKind.f64 (zi (PV.child (0 + 1 + 1) (v4.getD v6.toNat PV.top)).str.size)))).cim).getD 0) v2 v3 v4 v5 (IntKind.i64.wrap (v6 + 1)) else none else bif (PV.child 0 (v4.getD v6.toNat PV.top)).int == 3 then bif (FloatKind.f64.format.add (PV.sc (Value.complex FloatKind.f64 v0 v1)).cre (PV.sc (Value.complex FloatKind.f64 (fOf FloatKind.f64 (zi (PV.child (0 + 1 + 1) (v4.getD v6.toNat PV.top)).str.size)) 0)).cre).isSome && (FloatKind.f64.format.add (PV.sc (Value.complex FloatKind.f64 v0 v1)).cim (PV.sc (Value.complex FloatKind.f64 (fOf FloatKind.f64 (zi (PV.child (0 + 1 + 1) (v4.getD v6.toNat PV.top)).str.size)) 0)).cim).isSome && true then rc ((FloatKind.f64.format.add (PV.sc (Value.complex FloatKind.f64 v0 v1)).cre (PV.sc (Value.complex FloatKind.f64 (fOf FloatKind.f64 (zi (PV.child (0 + 1 + 1) (v4.getD v6.toNat PV.top)).str.size)) 0)).cre).getD 0) ((FloatKind.f64.format.add (PV.sc (Value.complex FloatKind.f64 v0 v1)).cim (PV.sc (Value.complex FloatKind.f64 (fOf FloatKind.f64 (zi (PV.child (0 + 1 + 1) (v4.getD v6.toNat PV.top)).str.size)) 0)).cim).getD 0) v2 v3 v4 v5 (IntKind.i64.wrap (v6 + 1)) else none else rc v0 v1 v2 v3 v4 v5 (IntKind.i64.wrap (v6 + 1)) else bif (PV.child 0 (v4.getD v6.toNat PV.top)).int == 1 then bif (FloatKind.f64.format.add (PV.sc (Value.complex FloatKind.f64 v0 v1)).cre (PV.sc (Value.complex FloatKind.f64 (fOf FloatKind.f64 (PV.child (0 + 1) (v4.getD v6.toNat PV.top)).int) (fOf FloatKind.f64 (PV.child (0 + 1) (v4.getD v6.toNat PV.top)).int))).cre).isSome && (FloatKind.f64.format.add (PV.sc (Value.complex FloatKind.f64 v0 v1)).cim (PV.sc (Value.complex FloatKind.f64 (fOf FloatKind.f64 (PV.child (0 + 1) (v4.getD v6.toNat PV.top)).int) (fOf FloatKind.f64 (PV.child (0 + 1) (v4.getD v6.toNat PV.top)).int))).cim).isSome && true then rc ((FloatKind.f64.format.add (PV.sc (Value.complex FloatKind.f64 v0 v1)).cre (PV.sc (Value.complex FloatKind.f64 (fOf FloatKind.f64 (PV.child (0 + 1) (v4.getD v6.toNat PV.top)).int) (fOf FloatKind.f64 (PV.child (0 + 1) (v4.getD v6.toNat PV.top)).int))).cre).getD 0) ((FloatKind.f64.format.add (PV.sc (Value.complex FloatKind.f64 v0 v1)).cim (PV.sc (Value.complex FloatKind.f64 (fOf FloatKind.f64 (PV.child (0 + 1) (v4.getD v6.toNat PV.top)).int) (fOf FloatKind.f64 (PV.child (0 + 1) (v4.getD v6.toNat PV.top)).int))).cim).getD 0) v2 v3 v4 v5 (IntKind.i64.wrap (v6 + 1)) else none else bif (PV.child 0 (v4.getD v6.toNat PV.top)).int == 2 then bif (FloatKind.f64.format.add (PV.sc (Value.complex FloatKind.f64 v0 v1)).cre (PV.sc (Value.complex FloatKind.f64 0 (fOf FloatKind.f64 (PV.child (0 + 1) (v4.getD v6.toNat PV.top)).int))).cre).isSome && (FloatKind.f64.format.add (PV.sc (Value.complex FloatKind.f64 v0 v1)).cim (PV.sc (Value.complex FloatKind.f64 0 (fOf FloatKind.f64 (PV.child (0 + 1) (v4.getD v6.toNat PV.top)).int))).cim).isSome && true then rc ((FloatKind.f64.format.add (PV.sc (Value.complex FloatKind.f64 v0 v1)).cre (PV.sc (Value.complex FloatKind.f64 0 (fOf FloatKind.f64 (PV.child (0 + 1) (v4.getD v6.toNat PV.top)).int))).cre).getD 0) ((FloatKind.f64.format.add (PV.sc (Value.complex FloatKind.f64 v0 v1)).cim (PV.sc (Value.complex FloatKind.f64 0 (fOf FloatKind.f64 (PV.child (0 + 1) (v4.getD v6.toNat PV.top)).int))).cim).getD 0) v2 v3 v4 v5 (IntKind.i64.wrap (v6 + 1)) else none else bif (PV.child 0 (v4.getD v6.toNat PV.top)).int == 3 then bif (FloatKind.f64.format.add (PV.sc (Value.complex FloatKind.f64 v0 v1)).cre (PV.sc (Value.complex FloatKind.f64 (fOf FloatKind.f64 (PV.child (0 + 1) (v4.getD v6.toNat PV.top)).int) 0)).cre).isSome && (FloatKind.f64.format.add (PV.sc (Value.complex FloatKind.f64 v0 v1)).cim (PV.sc (Value.complex FloatKind.f64 (fOf FloatKind.f64 (PV.child (0 + 1) (v4.getD v6.toNat PV.top)).int) 0)).cim).isSome && true then rc ((FloatKind.f64.format.add (PV.sc (Value.complex FloatKind.f64 v0 v1)).cre (PV.sc (Value.complex FloatKind.f64 (fOf FloatKind.f64 (PV.child (0 + 1) (v4.getD v6.toNat PV.top)).int) 0)).cre).getD 0) ((FloatKind.f64.format.add (PV.sc (Value.complex FloatKind.f64 v0 v1)).cim (PV.sc (Value.complex FloatKind.f64 (fOf FloatKind.f64 (PV.child (0 + 1) (v4.getD v6.toNat PV.top)).int) 0)).cim).getD 0) v2 v3 v4 v5 (IntKind.i64.wrap (v6 + 1)) else none else rc v0 v1 v2 v3 v4 v5 (IntKind.i64.wrap (v6 + 1)) else none else k0 v0 v1
def YH (f : Nat) (k0 : Nat -> Nat -> Option Res) : Nat -> Nat -> Nat -> Bool -> Bool -> List PV -> Int -> Int -> Option Res
 | 0, _, _, _, _, _, _, _ => none
 | n + 1, v0, v1, v2, v3, v4, v5, v6 => ZI f (YH f k0 n) k0 v0 v1 v2 v3 v4 v5 v6
theorem Jnl (f : Nat) (k : Kont) (n v0 v1 : Nat) (v2 v3 : Bool) (v4 : List PV) (v5 v6 : Int) : Jp tau 0 WS (fun s k => ev tau Jnk 0 0 Jak (Jcq ) s k) (n + 1) (Jc WS JcI [.sc (Value.complex FloatKind.f64 v0 v1), .ro 113 v2 v3 v4, .sc (.int .i64 v5), .sc (.int .i64 v6)] []) (Jq tau 0 Xy k) = ZI f (fun v0 v1 v2 v3 v4 v5 v6 => Jp tau 0 WS (fun s k => ev tau Jnk 0 0 Jak (Jcq ) s k) n (Jc WS JcI [.sc (Value.complex FloatKind.f64 v0 v1), .ro 113 v2 v3 v4, .sc (.int .i64 v5), .sc (.int .i64 v6)] []) (Jq tau 0 Xy k)) (fun x0 x1 => k (Ex.exit 0) (Jc Xy JcI [.sc (Value.complex FloatKind.f64 x0 x1)] [])) v0 v1 v2 v3 v4 v5 v6 := by kernel_rfl
theorem JgA (f : Nat) (k : Kont) : ∀ (n v0 v1 : Nat) (v2 v3 : Bool) (v4 : List PV) (v5 v6 : Int), Jp tau 0 WS (fun s k => ev tau Jnk 0 0 Jak (Jcq ) s k) n (Jc WS JcI [.sc (Value.complex FloatKind.f64 v0 v1), .ro 113 v2 v3 v4, .sc (.int .i64 v5), .sc (.int .i64 v6)] []) (Jq tau 0 Xy k) = YH f (fun x0 x1 => k (Ex.exit 0) (Jc Xy JcI [.sc (Value.complex FloatKind.f64 x0 x1)] [])) n v0 v1 v2 v3 v4 v5 v6 | 0, _, _, _, _, _, _, _ => rfl | n + 1, v0, v1, v2, v3, v4, v5, v6 => (Jnl f k n v0 v1 v2 v3 v4 v5 v6).trans (congrArg (fun r => ZI f r (fun x0 x1 => k (Ex.exit 0) (Jc Xy JcI [.sc (Value.complex FloatKind.f64 x0 x1)] [])) v0 v1 v2 v3 v4 v5 v6) (by funext v0 v1 v2 v3 v4 v5 v6; exact JgA f k n v0 v1 v2 v3 v4 v5 v6))
def VO (f : Nat) : List PV -> List (Nat × Ent) -> Kont -> Option Res
 | [.sc (Value.complex FloatKind.f64 v0 v1), .ro 113 v2 v3 v4, .sc (.int .i64 v5),
 .sc (.int .i64 v6)], [], k => YH f (fun x0 x1 => k (Ex.exit 0) (Jc Xy JcI [.sc (Value.complex FloatKind.f64 x0 x1)] [])) f v0 v1 v2 v3 v4 v5 v6
 | _, _, _ => none
theorem Jqt (f : Nat) : Je Jak Jcq = [] := by kernel_rfl
theorem Jqu (f : Nat) : (Item.l Jak WS JcI (VO f)).Ok tau Try.prog 0 := JJ Jr Jj5 Js (x := Jcq) (nm2 := Xy) (Jk _ _ (by rw [Jqt f]; intro q hq; cases hq)) fun vs hp k res hr => by
 unfold VO at hr
 split at hr
 · exact ⟨f, 0, (JgA f _ f _ _ _ _ _ _ _ ).trans hr⟩
 · cases hr
def JAh (f : Nat) (o_z o_f : Bool) (o : List PV) (k : Res -> Option Res) : Option Res := YH f (fun x0_0 x1_0 => k (Res.mk (.sc (Value.complex FloatKind.f64 x0_0 x1_0)) [] [])) f (0) (0) o_z o_f o (zi o.length) (0)
theorem JDA (f : Nat) (o_z o_f : Bool) (o : List PV) (k : Res -> Option Res) : JM tau Jnk Try.f125 (Try.f125.body.get!) (Jj6 (VO f)) [.ro] 0 [.ro 113 o_z o_f o] [] k = JAh f o_z o_f o k := by kernel_rfl
theorem JAi (f : Nat) : Je (Try.f125.body.get!) (Jj6 (VO f)) = [.l Jak WS JcI (VO f)] := by kernel_rfl
theorem JAj (f : Nat) : ∀ q ∈ Je (Try.f125.body.get!) (Jj6 (VO f)), q.Ok tau Try.prog 0 := by
 rw [JAi f]; simp only [List.forall_mem_cons, List.not_mem_nil, false_implies, implies_true, and_true]; exact Jqu f
theorem Jsz : Try.prog.funcs[125]? = some Try.f125 := by kernel_rfl
theorem JsA : Try.f125.body = some (Try.f125.body.get!) := by kernel_rfl
theorem JAk : Enters Try.prog 125 := enters_of Jsz (by kernel_rfl) JsA
end
end Go.Proofs.Ythpmachmnoljeaa.Rx
noncomputable section
namespace Go.Proofs.Ythpmachmnoljeaa.Rx
open Go Ieee
set_option linter.unusedVariables false
set_option linter.unusedSimpArgs false

theorem Jj7 {m : Nat} (h : m ≠ 0) : 2 ^ m.log2 <= m := Nat.log2_self_le h
theorem Jj8 {m : Nat} : m < 2 ^ (m.log2 + 1) := Nat.lt_log2_self
theorem Jqv {m k : Nat} (h0 : 2 ^ k <= m) (h1 : m < 2 ^ (k + 1)) : m.log2 = k := by
 have hm : m ≠ 0 := by have := Nat.two_pow_pos k; omega
 exact (Nat.log2_eq_iff hm).2 ⟨h0, h1⟩
theorem GG {m : Nat} (h : m ≠ 0) (k : Nat) : (m * 2 ^ k).log2 = m.log2 + k := by
 apply Jqv
 · rw [Nat.pow_add]; exact Nat.mul_le_mul_right _ (Jj7 h)
 · have := Jj8 (m := m)
   rw [show m.log2 + k + 1 = (m.log2 + 1) + k from by omega, Nat.pow_add]
   exact Nat.mul_lt_mul_of_pos_right this (Nat.two_pow_pos k)
theorem Jnm (w : Toward) (s : Bool) (n : Nat) : w.cut s n 0 = n := by
 unfold Toward.cut
 simp
 cases w <;> simp <;> omega
theorem Jqw (w : Toward) (s : Bool) (n k : Nat) : w.cut s (n * 2 ^ k) k = n := by
 by_cases hn : n = 0
 · subst hn
   unfold Toward.cut
   have : 0 < 1 <<< min k (Nat.log2 0 + 2) := by rw [Nat.one_shiftLeft]; exact Nat.two_pow_pos _
   cases w <;> simp <;> omega
 · unfold Toward.cut
   have hmin : min k ((n * 2 ^ k).log2 + 2) = k := by rw [GG hn]; omega
   have hp := Nat.two_pow_pos k
   have hg : 1 <<< min k ((n * 2 ^ k).log2 + 2) = 2 ^ k := by rw [hmin, Nat.one_shiftLeft]
   simp only [hg, Nat.mul_div_cancel _ hp, Nat.mul_mod_left]
   cases w <;> simp <;> omega
def fz (x : Int) : Nat := FloatKind.f64.nearest x
def shf (m : Nat) : Nat := 52 - m.log2
theorem JaR {m : Nat} (h0 : m ≠ 0) (h1 : m < 2 ^ 53) : 2 ^ 52 <= m * 2 ^ shf m /\ m * 2 ^ shf m < 2 ^ 53 := by
 have hL : m.log2 < 53 := (Nat.log2_lt h0).2 h1
 have e : m.log2 + shf m = 52 := by unfold shf; omega
 constructor
 · rw [← e, Nat.pow_add]; exact Nat.mul_le_mul_right _ (Jj7 h0)
 · rw [show 53 = (m.log2 + 1) + shf m from by omega, Nat.pow_add]
   exact Nat.mul_lt_mul_of_pos_right Jj8 (Nat.two_pow_pos _)
theorem lp : Ieee.double.leastPlace = -1074 := by decide
theorem GH (neg : Bool) {m : Nat} (h0 : m ≠ 0) (h1 : m < 2 ^ 53) (k : Nat) :
  Ieee.double.nearest neg (m * 2 ^ k) (-(k : Int)) = Ieee.double.word neg ((1074 + 1022 - 1022 - shf m) * 2 ^ 52 + m * 2 ^ shf m) := by
 have hL : m.log2 < 53 := (Nat.log2_lt h0).2 h1
 have hb := JaR h0 h1
 have hmk : m * 2 ^ k ≠ 0 := Nat.mul_ne_zero h0 (Nat.ne_of_gt (Nat.two_pow_pos k))
 have hlast : max (-(k : Int) + ((m * 2 ^ k).log2 : Int) - ((Ieee.double.fractionBits : Nat) : Int)) Ieee.double.leastPlace = -((shf m : Nat) : Int) := by
  rw [GG h0, lp]; unfold shf
  show max (-(k : Int) + ((m.log2 + k : Nat) : Int) - ((52 : Nat) : Int)) (-1074) = _
  omega
 unfold Format.nearest
 rw [if_neg hmk]
 simp only [hlast]
 have hkept : Toward.even.cut neg ((m * 2 ^ k) <<< (-(k : Int) - -((shf m : Nat) : Int)).toNat) (-((shf m : Nat) : Int) - -(k : Int)).toNat = m * 2 ^ shf m := by
  by_cases hk : k <= shf m
  · have e1 : (-((shf m : Nat) : Int) - -(k : Int)).toNat = 0 := by omega
    have e2 : (-(k : Int) - -((shf m : Nat) : Int)).toNat = shf m - k := by omega
    rw [e1, e2, Jnm, Nat.shiftLeft_eq, Nat.mul_assoc, ← Nat.pow_add]
    congr 2; omega
  · have e1 : (-((shf m : Nat) : Int) - -(k : Int)).toNat = k - shf m := by omega
    have e2 : (-(k : Int) - -((shf m : Nat) : Int)).toNat = 0 := by omega
    rw [e1, e2, Nat.shiftLeft_zero, show m * 2 ^ k = (m * 2 ^ shf m) * 2 ^ (k - shf m) from by rw [Nat.mul_assoc, ← Nat.pow_add]; congr 2; omega]
    exact Jqw _ _ _ _
 rw [hkept, lp]
 have e3 : (-((shf m : Nat) : Int) - -1074).toNat = 1074 - shf m := by omega
 have hi : Ieee.double.infRung = 2047 * 2 ^ 52 := by decide
 have hbn : Ieee.double.binade = 2 ^ 52 := by decide
 rw [e3, hi, hbn]
 have h53 : (2 : Nat) ^ 53 = 2 * 2 ^ 52 := by decide
 have hB : 0 < (2 : Nat) ^ 52 := Nat.two_pow_pos _
 generalize m * 2 ^ shf m = kp at *
 generalize shf m = sh at *
 rw [h53] at hb
 generalize (2 : Nat) ^ 52 = B at *
 have e4 : 1074 + 1022 - 1022 - sh = 1074 - sh := by omega
 rw [e4]
 congr 1
 have : (1074 - sh) * B <= 1074 * B := Nat.mul_le_mul_right _ (by omega)
 have : 1074 * B + 2 * B <= 2047 * B := by rw [← Nat.add_mul]; exact Nat.mul_le_mul_right _ (by omega)
 exact Nat.min_eq_left (by omega)
theorem Jj9 {x : Int} (h0 : x ≠ 0) (h1 : x.natAbs < 2 ^ 53) : fz x = Ieee.double.word (decide (x < 0)) ((1074 - shf x.natAbs) * 2 ^ 52 + x.natAbs * 2 ^ shf x.natAbs) := by
 have := GH (decide (x < 0)) (m := x.natAbs) (by omega) h1 0
 simp only [Nat.pow_zero, Nat.mul_one] at this
 exact this
theorem Jqx {x : Int} (h0 : x ≠ 0) (h1 : x.natAbs < 2 ^ 53) : Ieee.double.read (fz x) = .number (decide (x < 0)) (x.natAbs * 2 ^ shf x.natAbs) (-((shf x.natAbs : Nat) : Int)) := by
 have hb := JaR (m := x.natAbs) (by omega) h1
 have hs : shf x.natAbs <= 52 := by unfold shf; omega
 rw [Jj9 h0 h1]
 generalize hm : x.natAbs * 2 ^ shf x.natAbs = kp at *
 generalize shf x.natAbs = s at *
 have hsw : Ieee.double.signWeight = 2 ^ 63 := by decide
 have hi : Ieee.double.infRung = 2047 * 2 ^ 52 := by decide
 have hbn : Ieee.double.binade = 2 ^ 52 := by decide
 have h53 : (2 : Nat) ^ 53 = 2 * 2 ^ 52 := by decide
 have h63 : (2 : Nat) ^ 63 = 2048 * 2 ^ 52 := by decide
 have hpos : 0 < (2 : Nat) ^ 52 := Nat.two_pow_pos _
 generalize (2 : Nat) ^ 52 = B at *
 have hr : (1074 - s) * B + kp < 2047 * B := by
  have : (1074 - s) * B <= 1074 * B := Nat.mul_le_mul_right _ (by omega)
  omega
 have hdiv : ((1074 - s) * B + kp) / B = 1074 - s + 1 := by
  rw [Nat.mul_comm, Nat.mul_add_div hpos]
  congr 1
  apply Nat.div_eq_of_lt_le <;> omega
 have hmod : ((1074 - s) * B + kp) % B = kp - B := by
  rw [Nat.mul_comm, Nat.mul_add_mod]
  rw [Nat.mod_eq_sub_mod (by omega), Nat.mod_eq_of_lt (by omega)]
 have hge : ¬ ((1074 - s) * B + kp < B) := by omega
 unfold Format.read Format.word
 rw [hsw, h63, hi, hbn, lp]
 have key : ∀ neg : Bool, ((if neg = true then 2048 * B + ((1074 - s) * B + kp) else (1074 - s) * B + kp) / (2048 * B) % 2 == 1) = neg /\ (if neg = true then 2048 * B + ((1074 - s) * B + kp) else (1074 - s) * B + kp) % (2048 * B) = (1074 - s) * B + kp := by
  intro neg
  have hlt : (1074 - s) * B + kp < 2048 * B := by omega
  cases neg with
  | true =>
   simp only [if_true]
   have hp : 0 < 2048 * B := by omega
   rw [Nat.add_div_left _ hp, Nat.div_eq_of_lt hlt, Nat.add_mod_left, Nat.mod_eq_of_lt hlt]
   exact ⟨rfl, rfl⟩
  | false =>
   simp only [Bool.false_eq_true, if_false]
   rw [Nat.div_eq_of_lt hlt, Nat.mod_eq_of_lt hlt]
   exact ⟨rfl, rfl⟩
 have k1 := key (decide (x < 0))
 simp only [k1.1, k1.2]
 rw [if_neg hge, if_pos hr, hmod, hdiv]
 congr 1 <;> omega
theorem Jqy : Ieee.double.read (fz 0) = .number false 0 (-1074) := by decide
def Jcr (d : Datum) (x : Int) : Prop := ∃ s m k, d = .number s m (-((k : Nat) : Int)) /\ m = x.natAbs * 2 ^ k /\ s = decide (x < 0)
theorem Jqz (k : Nat) : 0 = (0 : Int).natAbs * 2 ^ k := by rw [Int.natAbs_zero, Nat.zero_mul]
theorem Z1 {x : Int} (h1 : x.natAbs < 2 ^ 53) : Jcr (Ieee.double.read (fz x)) x := by
 by_cases h0 : x = 0
 · subst h0; exact ⟨false, 0, 1074, Jqy, Jqz 1074, by decide⟩
 · exact ⟨_, _, _, Jqx h0 h1, rfl, rfl⟩
theorem Wl {x : Int} {s : Bool} {m k : Nat} (hm : m = x.natAbs * 2 ^ k) (hs : s = decide (x < 0)) (u : Nat) : signed s m u = x * 2 ^ (k + u) := by
 subst hm hs
 unfold signed
 rw [Nat.shiftLeft_eq, Nat.mul_assoc, ← Nat.pow_add]
 have : ((x.natAbs * 2 ^ (k + u) : Nat) : Int) = (x.natAbs : Int) * 2 ^ (k + u) := by
   rw [Int.natCast_mul, Int.natCast_pow]; rfl
 by_cases h : x < 0
 · rw [if_pos (by simpa using h), this, ← Int.neg_mul]
   congr 1; omega
 · rw [if_neg (by simpa using h), this]
   congr 1; omega
theorem Jka (k : Nat) : (0 : Int) < 2 ^ k := by
 have := Nat.two_pow_pos k
 have h : ((2 ^ k : Nat) : Int) = 2 ^ k := by rw [Int.natCast_pow]; rfl
 omega
theorem Jiy {d e : Datum} {x y : Int} (h : Jcr d x) (g : Jcr e y) (hxy : (x + y).natAbs < 2 ^ 53) : (d.sum e).map Ieee.double.write = some (fz (x + y)) := by
 obtain ⟨s, m, k, rfl, rfl, hs⟩ := h
 obtain ⟨t, n, j, rfl, rfl, ht⟩ := g
 unfold Datum.sum
 simp only [Option.map_some]
 have hbase : min (-(k : Int)) (-(j : Int)) = -((max k j : Nat) : Int) := by omega
 have e1 : (-(k : Int) - min (-(k : Int)) (-(j : Int))).toNat = max k j - k := by omega
 have e2 : (-(j : Int) - min (-(k : Int)) (-(j : Int))).toNat = max k j - j := by omega
 have f1 : k + (max k j - k) = max k j := by omega
 have f2 : j + (max k j - j) = max k j := by omega
 rw [hbase] at e1 e2
 simp only [hbase, e1, e2, Wl rfl hs, Wl rfl ht, f1, f2]
 rw [← Int.add_mul]
 have hp := Jka (max k j)
 have hna : ((x + y) * 2 ^ max k j).natAbs = (x + y).natAbs * 2 ^ max k j := by
   rw [Int.natAbs_mul, Int.natAbs_pow]; rfl
 by_cases h0 : x + y = 0
 · rw [h0]
   simp only [Int.zero_mul, if_true]
   have hst : (s && t) = false := by
    subst hs ht
    by_cases hx : x < 0
    · have : ¬ y < 0 := by omega
      simp [this]
    · simp [hx]
   rw [hst]; simp only [Format.write, Format.nearest, Int.natAbs_zero, if_true]
   rfl
 · have hne : (x + y) * 2 ^ max k j ≠ 0 := Int.mul_ne_zero h0 (by omega)
   rw [if_neg hne, hna]
   have hneg : decide ((x + y) * 2 ^ max k j < 0) = decide (x + y < 0) := by
    by_cases hlt : x + y < 0
    · have : (x + y) * 2 ^ max k j < 0 := Int.mul_neg_of_neg_of_pos hlt hp
      simp [hlt, this]
    · have : ¬ (x + y) * 2 ^ max k j < 0 := by
       have := Int.mul_nonneg (show 0 <= x + y by omega) (Int.le_of_lt hp); omega
      simp [hlt, this]
   rw [hneg]
   simp only [Format.write]
   rw [GH _ (by omega) hxy, Jj9 h0 hxy]
theorem Je1 {d e : Datum} {x y : Int} (h : Jcr d x) (g : Jcr e y) : d.order e = some (compare x y) := by
 obtain ⟨s, m, k, rfl, rfl, hs⟩ := h
 obtain ⟨t, n, j, rfl, rfl, ht⟩ := g
 unfold Datum.order
 have e1 : (-(k : Int) - min (-(k : Int)) (-(j : Int))).toNat = max k j - k := by omega
 have e2 : (-(j : Int) - min (-(k : Int)) (-(j : Int))).toNat = max k j - j := by omega
 have f1 : k + (max k j - k) = max k j := by omega
 have f2 : j + (max k j - j) = max k j := by omega
 simp only [e1, e2, Wl rfl hs, Wl rfl ht, f1, f2]
 have hp := Jka (max k j)
 congr 1
 simp only [compare, compareOfLessAndEq]
 have l1 : (x * 2 ^ max k j < y * 2 ^ max k j) ↔ x < y := ⟨fun h => Int.lt_of_mul_lt_mul_right h (Int.le_of_lt hp), fun h => Int.mul_lt_mul_of_pos_right h hp⟩
 have l2 : (x * 2 ^ max k j = y * 2 ^ max k j) ↔ x = y := ⟨fun h => Int.eq_of_mul_eq_mul_right (by omega) h, fun h => by rw [h]⟩
 simp only [l1, l2]
theorem Ju3 {x y : Int} (hx : x.natAbs < 2 ^ 53) (hy : y.natAbs < 2 ^ 53) (hxy : (x + y).natAbs < 2 ^ 53) : FloatKind.f64.format.add (fz x) (fz y) = some (fz (x + y)) :=
 Jiy (Z1 hx) (Z1 hy) hxy
theorem Jcs {x y : Int} (hx : x.natAbs < 2 ^ 53) (hy : y.natAbs < 2 ^ 53) : FloatKind.f64.format.order (fz x) (fz y) = some (compare x y) := Je1 (Z1 hx) (Z1 hy)
theorem Jnn (x : Int) : fOf .f64 x = fz x := JkY .f64 x
end Go.Proofs.Ythpmachmnoljeaa.Rx
end

namespace Go.Proofs.Ythpmachmnoljeaa.Rx
noncomputable section
open Go
set_option linter.unusedVariables false
set_option linter.unusedSimpArgs false
set_option maxRecDepth 100000
set_option maxHeartbeats 0
-- FN op.sizes
theorem JdH : fz 0 = 0 := by decide +kernel
theorem JgB {a b : Int} (h0 : 0 <= a) (h1 : a <= 1000000) (g0 : 0 <= b) (g1 : b <= 1000000) : FloatKind.f64.format.add (fz a) (fz b) = some (fz (a + b)) :=
  Ju3 (by
      have : (2 : Nat) ^ 53 = 9007199254740992 := by decide
      rw [this]; omega) (by have : (2 : Nat) ^ 53 = 9007199254740992 := by decide
                            rw [this]; omega) (by have : (2 : Nat) ^ 53 = 9007199254740992 := by decide
                                                  rw [this]; omega)
theorem JAl {a : Int} (h0 : 0 <= a) (h1 : a <= 1000000) : FloatKind.f64.format.add (fz a) 0 = some (fz a) := by
 have := JgB h0 h1 (Int.le_refl 0) (by decide)
 rwa [JdH, Int.add_zero] at this
theorem Jno (l : List PV) (ha : aOk l = true) (f : Nat) (k0 : Nat -> Nat -> Option Res) (z fl : Bool) : ∀ (d i n : Nat) (a b : Int), i + d = l.length -> d < n -> 0 <= a -> a <= 120 * i -> 0 <= b -> b <= 120 * i ->
  YH f k0 n (fz a) (fz b) z fl l (zi l.length) (i : Int) = k0 (fz (a + inL (l.drop i))) (fz (b + outL (l.drop i)))
 | 0, i, n + 1, a, b, hi, hn, a0, a1, b0, b1 => by
   rw [List.drop_of_length_le (by omega)]
   simp only [YH, ZI, inL, outL, Int.add_zero]
   exact Jj (by simp [zi]; omega)
 | d + 1, i, n + 1, a, b, hi, hn, a0, a1, b0, b1 => by
   obtain ⟨h1, hl, _⟩ := YB.1 ha
   have g1 : ((i : Int)).toNat = i := by omega
   have w1 : IntKind.i64.wrap ((i : Int) + 1) = ((i + 1 : Nat) : Int) := by rw [wrap_i64 (by omega) (by omega)]; omega
   have hc := Jsf h1 (i := i) (by omega)
   unfold JeO at hc
   have hk := (Jch ha (i := i) (by omega)).2
   rw [Wb (by omega)]
   simp only [YH, ZI, g1, w1]
   refine (Ja (by simp [zi]; omega)).trans ((Ja hc).trans ?_)
   generalize l.getD i .top = p at *
   have i1 := JeP hk
   have o1 := Jbf hk
   have e1 : (PV.child 0 p).int = (cv p).kd := rfl
   have e2 : (PV.child (0 + 1) p).int = (cv p).n := rfl
   have e3 : (PV.child (0 + 1 + 1) p).str = (cv p).s := rfl
   have c1 : ∀ x y : Nat, (PV.sc (Value.complex FloatKind.f64 x y)).cre = x := fun _ _ => rfl
   have c2 : ∀ x y : Nat, (PV.sc (Value.complex FloatKind.f64 x y)).cim = y := fun _ _ => rfl
   simp only [e1, e2, e3, c1, c2, Jnn, inL, outL, ← Int.add_assoc]
   have IH := fun a b => Jno l ha f k0 z fl d (i + 1) n a b (by omega) (by omega)
   rcases XS hk with ⟨q1, q2, q3, q4⟩ | ⟨q1, q2, q3, q4⟩
   · rcases q1 with q1 | q1
     · have ei : inC (cv p) = (cv p).n := by unfold inC; rw [q1]; rfl
       have eo : Q2 (cv p) = (cv p).n := by unfold Q2; rw [q1]; rfl
       have r1 := JgB (a := a) (b := (cv p).n) a0 (by omega) (by omega) (by omega)
       have r2 := JgB (a := b) (b := (cv p).n) b0 (by omega) (by omega) (by omega)
       rw [ei, eo]
       simp only [q1, r1, r2, Option.isSome_some, Option.getD_some]
       exact (Jj rfl).trans ((Ja rfl).trans ((Ja rfl).trans (IH _ _ (by omega) (by omega) (by omega) (by omega))))
     · have ei : inC (cv p) = (cv p).n := by unfold inC; rw [q1]; rfl
       have eo : Q2 (cv p) = 0 := by unfold Q2; rw [q1]; show ((cv p).s.size : Int) = 0; omega
       have r1 := JgB (a := a) (b := (cv p).n) a0 (by omega) (by omega) (by omega)
       have r2 := JAl (a := b) b0 (by omega)
       rw [ei, eo]
       simp only [q1, r1, r2, Option.isSome_some, Option.getD_some, Int.add_zero]
       exact (Jj rfl).trans ((Jj rfl).trans ((Jj rfl).trans ((Ja rfl).trans ((Ja rfl).trans (IH _ _ (by omega) (by omega) (by omega) (by omega))))))
   · have ei : inC (cv p) = 0 := by unfold inC; rw [q1]; rfl
     have eo : Q2 (cv p) = (cv p).s.size := by unfold Q2; rw [q1]; rfl
     have r1 := JAl (a := a) a0 (by omega)
     have r2 := JgB (a := b) (b := zi (cv p).s.size) b0 (by omega) (by simp only [zi]; omega) (by simp only [zi]; omega)
     have hz : zi (cv p).s.size = ((cv p).s.size : Int) := rfl
     rw [ei, eo, ← hz]
     simp only [q1, r1, r2, Option.isSome_some, Option.getD_some, Int.add_zero]
     exact (Ja rfl).trans ((Jj rfl).trans ((Ja rfl).trans ((Ja rfl).trans (IH _ _ (by omega) (by omega) (by omega) (by omega)))))
def szI : List PV -> Nat := hid fun l => fz (inL l)
def szO : List PV -> Nat := hid fun l => fz (outL l)
theorem Jnp (l : List PV) : szI l = fz (inL l) := by rw [szI, hid_eq]
theorem Jnq (l : List PV) : szO l = fz (outL l) := by rw [szO, hid_eq]
def Je2 : List PV -> List Ent -> (Res -> Option Res) -> Option Res
 | [.ro 113 z f o], [], k => bif aOk o then k ⟨.sc (.complex .f64 (szI o) (szO o)), [], []⟩ else none
 | _, _, _ => none
def JsB : Sig := { own := [], run := Je2 }
theorem Ju4 : Jh tau Try.prog 125 JsB := Jh.mk' fun xs es k res hl hr => by
 change Je2 xs es k = some res at hr
 unfold Je2 at hr
 split at hr
 · rename_i z f o
   obtain ⟨hc, hr⟩ := JI hr
   have hl2 := (YB.1 hc).2.1
   refine Qk Jr Jj5 Js Jsz JsA (Jj6 (VO 50)) [.ro] 0 0 (JAj 50) hl rfl ((JDA 50 z f o k).trans (Eq.trans ?_ hr))
   unfold JAh
   have h0 := Jno o hc 50 (fun x0_0 x1_0 => k (Res.mk (.sc (Value.complex FloatKind.f64 x0_0 x1_0)) [] [])) z f o.length 0 50 0 0 (by omega) (by omega) (by omega) (by omega) (by omega) (by omega)
   rw [JdH] at h0
   refine h0.trans ?_
   rw [List.drop_zero, Int.zero_add, Int.zero_add, Jnp, Jnq]
 · cases hr
def N89 : Nat := 71
def F89 : Fns := JG 126 Ju2 (JG 125 JsB (F0))
theorem Jnr : Jy tau Try.prog F89 := ((JE).add Ju4 JAk).add Jsy Jsx
def GI : Code := Qj (Try.f89.body.get!) [1, 0]
def YI : Nm := [(0, .any), (1, .any), (7, .own), (8, .any)]
def ZJ : Nm := [(4, .any), (5, .any)]
def JdI : An := (.seq .leaf (.seq (.block none (.seq .leaf (.cond (.seq .leaf .leaf) (.seq .leaf (.cond (.seq .leaf .leaf) .leaf))))) (.seq .leaf (.seq .leaf (.seq .leaf (.seq (.seq .leaf (.cond (.seq .leaf .leaf) .leaf)) (.seq .leaf (.seq (.seq .leaf (.block none (.seq .leaf (.cond .leaf (.seq .leaf (.cond .leaf (.seq .leaf (.cond .leaf .leaf)))))))) (.seq .leaf .leaf)))))))))
def JqA (r0 : Jlo) : An := (.seq .leaf (.ssum YI N89 (JdI) r0))
def WT (f : Nat) (rc : ByteArray -> Bool -> Bool -> List PV -> Nat -> Int -> Bool -> List PV -> Option Res) (k0 : ByteArray -> Int -> Option Res) (v0 : ByteArray) (v1 v2 : Bool) (v3 : List PV) (v4 : Nat) (v5 : Int) (v6 : Bool) (v7 : List PV) : Option Res := bif v5 == zi v3.length then bif Jl IntKind.u8 (List.take v4 v7) && true then k0 (ByteArray.mk (Array.mk (Jn ((Ent.vec false 5 v6 v7).nil, List.take v4 (List.drop 0 v7)).snd))) (0) else none else bif decide (0 <= v5) && decide (v5 < zi v3.length) && (PV.isSt 113 #[Field.mk "Kind" 3 0 false "" "" 0, Field.mk "N" 3 1 false "" "" 8, Field.mk "S" 9 2 false "" "" 16].size (v3.getD v5.toNat PV.top) && (PV.isInt IntKind.i64 (PV.child 0 (v3.getD v5.toNat PV.top)) && (PV.isInt IntKind.i64 (PV.child (0 + 1) (v3.getD v5.toNat PV.top)) && ((PV.child (0 + 1 + 1) (v3.getD v5.toNat PV.top)).isStr && true)))) && true then bif (PV.child 0 (v3.getD v5.toNat PV.top)).int == 2 then bif decide (0 <= v5) && decide (v5 < zi v3.length) && (PV.isSt 113 #[Field.mk "Kind" 3 0 false "" "" 0, Field.mk "N" 3 1 false "" "" 8, Field.mk "S" 9 2 false "" "" 16].size (v3.getD v5.toNat PV.top) && (PV.isInt IntKind.i64 (PV.child 0 (v3.getD v5.toNat PV.top)) && (PV.isInt IntKind.i64 (PV.child (0 + 1) (v3.getD v5.toNat PV.top)) && ((PV.child (0 + 1 + 1) (v3.getD v5.toNat PV.top)).isStr && true)))) && true then bif (PV.child 0 (v3.getD v5.toNat PV.top)).int == 1 then bif decide (0 <= JK (J5 (zi (PV.child (0 + 1 + 1) (v3.getD v5.toNat PV.top)).str.size) 0) (zi v0.size)) && true && decide ((JK (J5 (zi (PV.child (0 + 1 + 1) (v3.getD v5.toNat PV.top)).str.size) 0) (zi v0.size)).toNat <= v0.size) && true then bif Jf (v4 + (Jg (v0.extract 0 (JK (J5 (zi (PV.child (0 + 1 + 1) (v3.getD v5.toNat PV.top)).str.size) 0) (zi v0.size)).toNat)).length) 1 && true then bif decide (0 <= JK (J5 (zi (PV.child (0 + 1 + 1) (v3.getD v5.toNat PV.top)).str.size) 0) (zi v0.size)) && true && decide ((JK (J5 (zi (PV.child (0 + 1 + 1) (v3.getD v5.toNat PV.top)).str.size) 0) (zi v0.size)).toNat <= v0.size) && decide (v0.size <= v0.size) && true then rc (v0.extract (JK (J5 (zi (PV.child (0 + 1 + 1) (v3.getD v5.toNat PV.top)).str.size) 0) (zi v0.size)).toNat v0.size) v1 v2 v3 (v4 + (Jg (v0.extract 0 (JK (J5 (zi (PV.child (0 + 1 + 1) (v3.getD v5.toNat PV.top)).str.size) 0) (zi v0.size)).toNat)).length) (IntKind.i64.wrap (v5 + 1)) (v6 && (Jg (v0.extract 0 (JK (J5 (zi (PV.child (0 + 1 + 1) (v3.getD v5.toNat PV.top)).str.size) 0) (zi v0.size)).toNat)).isEmpty) (List.take v4 v7 ++ Jg (v0.extract 0 (JK (J5 (zi (PV.child (0 + 1 + 1) (v3.getD v5.toNat PV.top)).str.size) 0) (zi v0.size)).toNat)) else none else none else none else bif (PV.child 0 (v3.getD v5.toNat PV.top)).int == 2 then bif decide (0 <= v5) && decide (v5 < zi v3.length) && (PV.isSt 113 #[Field.mk "Kind" 3 0 false "" "" 0, Field.mk "N" 3 1 false "" "" 8, Field.mk "S" 9 2 false "" "" 16].size (v3.getD v5.toNat PV.top) && (PV.isInt IntKind.i64 (PV.child 0 (v3.getD v5.toNat PV.top)) && (PV.isInt IntKind.i64 (PV.child (0 + 1) (v3.getD v5.toNat PV.top)) && ((PV.child (0 + 1 + 1) (v3.getD v5.toNat PV.top)).isStr && true)))) && true then bif Jf (v4 + (Jg (PV.child (0 + 1 + 1) (v3.getD v5.toNat PV.top)).str).length) 1 && true then rc v0 v1 v2 v3 (v4 + (Jg (PV.child (0 + 1 + 1) (v3.getD v5.toNat PV.top)).str).length) (IntKind.i64.wrap (v5 + 1)) (v6 && (Jg (PV.child (0 + 1 + 1) (v3.getD v5.toNat PV.top)).str).isEmpty) (List.take v4 v7 ++ Jg (PV.child (0 + 1 + 1) (v3.getD v5.toNat PV.top)).str) else none else none else bif (PV.child 0 (v3.getD v5.toNat PV.top)).int == 3 then bif decide (0 <= JK (J5 (zi (PV.child (0 + 1 + 1) (v3.getD v5.toNat PV.top)).str.size) 0) (zi v0.size)) && true && decide ((JK (J5 (zi (PV.child (0 + 1 + 1) (v3.getD v5.toNat PV.top)).str.size) 0) (zi v0.size)).toNat <= v0.size) && decide (v0.size <= v0.size) && true then rc (v0.extract (JK (J5 (zi (PV.child (0 + 1 + 1) (v3.getD v5.toNat PV.top)).str.size) 0) (zi v0.size)).toNat v0.size) v1 v2 v3 v4 (IntKind.i64.wrap (v5 + 1)) v6 v7 else none else rc v0 v1 v2 v3 v4 (IntKind.i64.wrap (v5 + 1)) v6 v7 else none else bif decide (0 <= v5) && decide (v5 < zi v3.length) && (PV.isSt 113 #[Field.mk "Kind" 3 0 false "" "" 0, Field.mk "N" 3 1 false "" "" 8, Field.mk "S" 9 2 false "" "" 16].size (v3.getD v5.toNat PV.top) && (PV.isInt IntKind.i64 (PV.child 0 (v3.getD v5.toNat PV.top)) && (PV.isInt IntKind.i64 (PV.child (0 + 1) (v3.getD v5.toNat PV.top)) && ((PV.child (0 + 1 + 1) (v3.getD v5.toNat PV.top)).isStr && true)))) && true then bif (PV.child 0 (v3.getD v5.toNat PV.top)).int == 1 then bif decide (0 <= JK (J5 (PV.child (0 + 1) (v3.getD v5.toNat PV.top)).int 0) (zi v0.size)) && true && decide ((JK (J5 (PV.child (0 + 1) (v3.getD v5.toNat PV.top)).int 0) (zi v0.size)).toNat <= v0.size) && true then bif Jf (v4 + (Jg (v0.extract 0 (JK (J5 (PV.child (0 + 1) (v3.getD v5.toNat PV.top)).int 0) (zi v0.size)).toNat)).length) 1 && true then bif decide (0 <= JK (J5 (PV.child (0 + 1) (v3.getD v5.toNat PV.top)).int 0) (zi v0.size)) && true && decide ((JK (J5 (PV.child (0 + 1) (v3.getD v5.toNat PV.top)).int 0) (zi v0.size)).toNat <= v0.size) && decide (v0.size <= v0.size) && true then rc (v0.extract (JK (J5 (PV.child (0 + 1) (v3.getD v5.toNat PV.top)).int 0) (zi v0.size)).toNat v0.size) v1 v2 v3 (v4 + (Jg (v0.extract 0 (JK (J5 (PV.child (0 + 1) (v3.getD v5.toNat PV.top)).int 0) (zi v0.size)).toNat)).length) (IntKind.i64.wrap (v5 + 1)) (v6 && (Jg (v0.extract 0 (JK (J5 (PV.child (0 + 1) (v3.getD v5.toNat PV.top)).int 0) (zi v0.size)).toNat)).isEmpty) (List.take v4 v7 ++ Jg (v0.extract 0 (JK (J5 (PV.child (0 + 1) (v3.getD v5.toNat PV.top)).int 0) (zi v0.size)).toNat)) else none else none else none else bif (PV.child 0 (v3.getD v5.toNat PV.top)).int == 2 then bif decide (0 <= v5) && decide (v5 < zi v3.length) && (PV.isSt 113 #[Field.mk "Kind" 3 0 false "" "" 0, Field.mk "N" 3 1 false "" "" 8, Field.mk "S" 9 2 false "" "" 16].size (v3.getD v5.toNat PV.top) && (PV.isInt IntKind.i64 (PV.child 0 (v3.getD v5.toNat PV.top)) && (PV.isInt IntKind.i64 (PV.child (0 + 1) (v3.getD v5.toNat PV.top)) && ((PV.child (0 + 1 + 1) (v3.getD v5.toNat PV.top)).isStr && true)))) && true then bif Jf (v4 + (Jg (PV.child (0 + 1 + 1) (v3.getD v5.toNat PV.top)).str).length) 1 && true then rc v0 v1 v2 v3 (v4 + (Jg (PV.child (0 + 1 + 1) (v3.getD v5.toNat PV.top)).str).length) (IntKind.i64.wrap (v5 + 1)) (v6 && (Jg (PV.child (0 + 1 + 1) (v3.getD v5.toNat PV.top)).str).isEmpty) (List.take v4 v7 ++ Jg (PV.child (0 + 1 + 1) (v3.getD v5.toNat PV.top)).str) else none else none else bif (PV.child 0 (v3.getD v5.toNat PV.top)).int == 3 then bif decide (0 <= JK (J5 (PV.child (0 + 1) (v3.getD v5.toNat PV.top)).int 0) (zi v0.size)) && true && decide ((JK (J5 (PV.child (0 + 1) (v3.getD v5.toNat PV.top)).int 0) (zi v0.size)).toNat <= v0.size) && decide (v0.size <= v0.size) && true then rc (v0.extract (JK (J5 (PV.child (0 + 1) (v3.getD v5.toNat PV.top)).int 0) (zi v0.size)).toNat v0.size) v1 v2 v3 v4 (IntKind.i64.wrap (v5 + 1)) v6 v7 else none else rc v0 v1 v2 v3 v4 (IntKind.i64.wrap (v5 + 1)) v6 v7 else none else none
def QD (f : Nat) (k0 : ByteArray -> Int -> Option Res) : Nat -> ByteArray -> Bool -> Bool -> List PV -> Nat -> Int -> Bool -> List PV -> Option Res
 | 0, _, _, _, _, _, _, _, _ => none
 | n + 1, v0, v1, v2, v3, v4, v5, v6, v7 => WT f (QD f k0 n) k0 v0 v1 v2 v3 v4 v5 v6 v7
theorem JqB (f : Nat) (k : Kont) (n : Nat) (v0 : ByteArray) (v1 v2 : Bool) (v3 : List PV) (v4 : Nat) (v5 : Int) (v6 : Bool) (v7 : List PV) : J6 tau 0 YI (hasLabel GI) (fun l s k => JV tau F89 0 0 GI (JdI ) l s k) (n + 1) 0 (Jc YI N89 [.sc (.string v0), .ro 113 v1 v2 v3, .ow 5 1152 [] 0 v4 none, .sc (.int .i64 v5)] [(1152, .vec false 5 v6 v7)]) (Jq tau 0 ZJ k) = WT f (fun v0 v1 v2 v3 v4 v5 v6 v7 => J6 tau 0 YI (hasLabel GI) (fun l s k => JV tau F89 0 0 GI (JdI ) l s k) n 0 (Jc YI N89 [.sc (.string v0), .ro 113 v1 v2 v3, .ow 5 1152 [] 0 v4 none, .sc (.int .i64 v5)] [(1152, .vec false 5 v6 v7)]) (Jq tau 0 ZJ k)) (fun x0 x1 => k Ex.ret (Jc ZJ N89 [.sc (.string x0), .sc (.int .i64 x1)] [])) v0 v1 v2 v3 v4 v5 v6 v7 := by kernel_rfl
theorem Jkb (f : Nat) (k : Kont) : ∀ (n : Nat) (v0 : ByteArray) (v1 v2 : Bool) (v3 : List PV) (v4 : Nat) (v5 : Int) (v6 : Bool) (v7 : List PV), J6 tau 0 YI (hasLabel GI) (fun l s k => JV tau F89 0 0 GI (JdI ) l s k) n 0 (Jc YI N89 [.sc (.string v0), .ro 113 v1 v2 v3, .ow 5 1152 [] 0 v4 none, .sc (.int .i64 v5)] [(1152, .vec false 5 v6 v7)]) (Jq tau 0 ZJ k) = QD f (fun x0 x1 => k Ex.ret (Jc ZJ N89 [.sc (.string x0), .sc (.int .i64 x1)] [])) n v0 v1 v2 v3 v4 v5 v6 v7 | 0, _, _, _, _, _, _, _, _ => rfl | n + 1, v0, v1, v2, v3, v4, v5, v6, v7 => (JqB f k n v0 v1 v2 v3 v4 v5 v6 v7).trans (congrArg (fun r => WT f r (fun x0 x1 => k Ex.ret (Jc ZJ N89 [.sc (.string x0), .sc (.int .i64 x1)] [])) v0 v1 v2 v3 v4 v5 v6 v7) (by funext v0 v1 v2 v3 v4 v5 v6 v7; exact Jkb f k n v0 v1 v2 v3 v4 v5 v6 v7))
def Jct (f : Nat) : Nat -> List PV -> List (Nat × Ent) -> Kont -> Option Res
 | 0, [.sc (.string v0), .ro 113 v1 v2 v3, .ow 5 1152 [] 0 v4 none,
 PV.sc
  (Value.int IntKind.i64
   v5)], [(1152, .vec false 5 v6 v7)], k => QD f (fun x0 x1 => k Ex.ret (Jc ZJ N89 [.sc (.string x0), .sc (.int .i64 x1)] [])) f v0 v1 v2 v3 v4 v5 v6 v7
 | _, _, _, _ => none
theorem Ju5 (f : Nat) : Je GI JdI = [] := by kernel_rfl
theorem Ju6 (f : Nat) : (Item.s GI YI N89 (Jct f)).Ok tau Try.prog 0 := W7 Jr Jnr Js (x := JdI) (nm2 := ZJ) (Jk _ _ (by rw [Ju5 f]; intro q hq; cases hq)) fun l vs hp k res hr => by
 unfold Jct at hr
 split at hr
 · exact ⟨f, 0, (Jkb f _ f _ _ _ _ _ _ _ _ ).trans hr⟩
 · cases hr
def g89 (f : Nat) (doc : ByteArray) (o_z o_f : Bool) (o : List PV) (k : Res -> Option Res) : Option Res := bif aOk o then bif !(FloatKind.f64.format.order (PV.sc (Value.complex FloatKind.f64 (fOf FloatKind.f64 (zi doc.size)) (szO o))).cre (PV.sc (Value.complex FloatKind.f64 (szI o) (szO o))).cre == some Ordering.eq && FloatKind.f64.format.order (PV.sc (Value.complex FloatKind.f64 (fOf FloatKind.f64 (zi doc.size)) (szO o))).cim (PV.sc (Value.complex FloatKind.f64 (szI o) (szO o))).cim == some Ordering.eq) then k (Res.mk (.tup [.sc (.string (ByteArray.mk (Array.mk []))), .sc (.int .i64 7)]) [] []) else bif FloatKind.f64.format.order (PV.sc (Value.float FloatKind.f64 (szO o))).flo (PV.sc (Value.float FloatKind.f64 4638144666238189568)).flo == some Ordering.gt then k (Res.mk (.tup [.sc (.string (ByteArray.mk (Array.mk []))), .sc (.int .i64 5)]) [] []) else bif 0 == zi o.length then k (Res.mk (.tup [.sc (.string (ByteArray.mk (Array.mk (Jn (true, []).snd)))), .sc (.int .i64 0)]) [] []) else bif decide (0 < zi o.length) && (PV.isSt 113 #[Field.mk "Kind" 3 0 false "" "" 0, Field.mk "N" 3 1 false "" "" 8, Field.mk "S" 9 2 false "" "" 16].size (o.getD (Int.toNat 0) PV.top) && (PV.isInt IntKind.i64 (PV.child 0 (o.getD 0 PV.top)) && (PV.isInt IntKind.i64 (PV.child (0 + 1) (o.getD 0 PV.top)) && ((PV.child (0 + 1 + 1) (o.getD 0 PV.top)).isStr && true)))) && true then bif (PV.child 0 (o.getD 0 PV.top)).int == 2 then bif decide (0 < zi o.length) && (PV.isSt 113 #[Field.mk "Kind" 3 0 false "" "" 0, Field.mk "N" 3 1 false "" "" 8, Field.mk "S" 9 2 false "" "" 16].size (o.getD (Int.toNat 0) PV.top) && (PV.isInt IntKind.i64 (PV.child 0 (o.getD 0 PV.top)) && (PV.isInt IntKind.i64 (PV.child (0 + 1) (o.getD 0 PV.top)) && ((PV.child (0 + 1 + 1) (o.getD 0 PV.top)).isStr && true)))) && true then bif (PV.child 0 (o.getD 0 PV.top)).int == 1 then bif decide (0 <= JK (J5 (zi (PV.child (0 + 1 + 1) (o.getD 0 PV.top)).str.size) 0) (zi doc.size)) && true && decide ((JK (J5 (zi (PV.child (0 + 1 + 1) (o.getD 0 PV.top)).str.size) 0) (zi doc.size)).toNat <= doc.size) && true then bif Jf (Jg (doc.extract 0 (JK (J5 (zi (PV.child (0 + 1 + 1) (o.getD 0 PV.top)).str.size) 0) (zi doc.size)).toNat)).length 1 && true then bif decide (0 <= JK (J5 (zi (PV.child (0 + 1 + 1) (o.getD 0 PV.top)).str.size) 0) (zi doc.size)) && true && decide ((JK (J5 (zi (PV.child (0 + 1 + 1) (o.getD 0 PV.top)).str.size) 0) (zi doc.size)).toNat <= doc.size) && decide (doc.size <= doc.size) && true then QD f (fun x0_0 x1_0 => k (Res.mk (.tup [.sc (.string x0_0), .sc (.int .i64 x1_0)]) [] [])) f (doc.extract (JK (J5 (zi (PV.child (0 + 1 + 1) (o.getD 0 PV.top)).str.size) 0) (zi doc.size)).toNat doc.size) o_z o_f o ((Jg (doc.extract 0 (JK (J5 (zi (PV.child (0 + 1 + 1) (o.getD 0 PV.top)).str.size) 0) (zi doc.size)).toNat)).length) (IntKind.i64.wrap (0 + 1)) ((Jg (doc.extract 0 (JK (J5 (zi (PV.child (0 + 1 + 1) (o.getD 0 PV.top)).str.size) 0) (zi doc.size)).toNat)).isEmpty) (Jg (doc.extract 0 (JK (J5 (zi (PV.child (0 + 1 + 1) (o.getD 0 PV.top)).str.size) 0) (zi doc.size)).toNat)) else none else none else none else bif (PV.child 0 (o.getD 0 PV.top)).int == 2 then bif decide (0 < zi o.length) && (PV.isSt 113 #[Field.mk "Kind" 3 0 false "" "" 0, Field.mk "N" 3 1 false "" "" 8, Field.mk "S" 9 2 false "" "" 16].size (o.getD (Int.toNat 0) PV.top) && (PV.isInt IntKind.i64 (PV.child 0 (o.getD 0 PV.top)) && (PV.isInt IntKind.i64 (PV.child (0 + 1) (o.getD 0 PV.top)) && ((PV.child (0 + 1 + 1) (o.getD 0 PV.top)).isStr && true)))) && true then bif Jf (Jg (PV.child (0 + 1 + 1) (o.getD 0 PV.top)).str).length 1 && true then QD f (fun x0_1 x1_1 => k (Res.mk (.tup [.sc (.string x0_1), .sc (.int .i64 x1_1)]) [] [])) f doc o_z o_f o ((Jg (PV.child (0 + 1 + 1) (o.getD 0 PV.top)).str).length) (IntKind.i64.wrap (0 + 1)) ((Jg (PV.child (0 + 1 + 1) (o.getD 0 PV.top)).str).isEmpty) (Jg (PV.child (0 + 1 + 1) (o.getD 0 PV.top)).str) else none else none else bif (PV.child 0 (o.getD 0 PV.top)).int == 3 then bif decide (0 <= JK (J5 (zi (PV.child (0 + 1 + 1) (o.getD 0 PV.top)).str.size) 0) (zi doc.size)) && true && decide ((JK (J5 (zi (PV.child (0 + 1 + 1) (o.getD 0 PV.top)).str.size) 0) (zi doc.size)).toNat <= doc.size) && decide (doc.size <= doc.size) && true then QD f (fun x0_2 x1_2 => k (Res.mk (.tup [.sc (.string x0_2), .sc (.int .i64 x1_2)]) [] [])) f (doc.extract (JK (J5 (zi (PV.child (0 + 1 + 1) (o.getD 0 PV.top)).str.size) 0) (zi doc.size)).toNat doc.size) o_z o_f o (0) (IntKind.i64.wrap (0 + 1)) true ([]) else none else QD f (fun x0_3 x1_3 => k (Res.mk (.tup [.sc (.string x0_3), .sc (.int .i64 x1_3)]) [] [])) f doc o_z o_f o (0) (IntKind.i64.wrap (0 + 1)) true ([]) else none else bif decide (0 < zi o.length) && (PV.isSt 113 #[Field.mk "Kind" 3 0 false "" "" 0, Field.mk "N" 3 1 false "" "" 8, Field.mk "S" 9 2 false "" "" 16].size (o.getD (Int.toNat 0) PV.top) && (PV.isInt IntKind.i64 (PV.child 0 (o.getD 0 PV.top)) && (PV.isInt IntKind.i64 (PV.child (0 + 1) (o.getD 0 PV.top)) && ((PV.child (0 + 1 + 1) (o.getD 0 PV.top)).isStr && true)))) && true then bif (PV.child 0 (o.getD 0 PV.top)).int == 1 then bif decide (0 <= JK (J5 (PV.child (0 + 1) (o.getD 0 PV.top)).int 0) (zi doc.size)) && true && decide ((JK (J5 (PV.child (0 + 1) (o.getD 0 PV.top)).int 0) (zi doc.size)).toNat <= doc.size) && true then bif Jf (Jg (doc.extract 0 (JK (J5 (PV.child (0 + 1) (o.getD 0 PV.top)).int 0) (zi doc.size)).toNat)).length 1 && true then bif decide (0 <= JK (J5 (PV.child (0 + 1) (o.getD 0 PV.top)).int 0) (zi doc.size)) && true && decide ((JK (J5 (PV.child (0 + 1) (o.getD 0 PV.top)).int 0) (zi doc.size)).toNat <= doc.size) && decide (doc.size <= doc.size) && true then QD f (fun x0_4 x1_4 => k (Res.mk (.tup [.sc (.string x0_4), .sc (.int .i64 x1_4)]) [] [])) f (doc.extract (JK (J5 (PV.child (0 + 1) (o.getD 0 PV.top)).int 0) (zi doc.size)).toNat doc.size) o_z o_f o ((Jg (doc.extract 0 (JK (J5 (PV.child (0 + 1) (o.getD 0 PV.top)).int 0) (zi doc.size)).toNat)).length) (IntKind.i64.wrap (0 + 1)) ((Jg (doc.extract 0 (JK (J5 (PV.child (0 + 1) (o.getD 0 PV.top)).int 0) (zi doc.size)).toNat)).isEmpty) (Jg (doc.extract 0 (JK (J5 (PV.child (0 + 1) (o.getD 0 PV.top)).int 0) (zi doc.size)).toNat)) else none else none else none else bif (PV.child 0 (o.getD 0 PV.top)).int == 2 then bif decide (0 < zi o.length) && (PV.isSt 113 #[Field.mk "Kind" 3 0 false "" "" 0, Field.mk "N" 3 1 false "" "" 8, Field.mk "S" 9 2 false "" "" 16].size (o.getD (Int.toNat 0) PV.top) && (PV.isInt IntKind.i64 (PV.child 0 (o.getD 0 PV.top)) && (PV.isInt IntKind.i64 (PV.child (0 + 1) (o.getD 0 PV.top)) && ((PV.child (0 + 1 + 1) (o.getD 0 PV.top)).isStr && true)))) && true then bif Jf (Jg (PV.child (0 + 1 + 1) (o.getD 0 PV.top)).str).length 1 && true then QD f (fun x0_5 x1_5 => k (Res.mk (.tup [.sc (.string x0_5), .sc (.int .i64 x1_5)]) [] [])) f doc o_z o_f o ((Jg (PV.child (0 + 1 + 1) (o.getD 0 PV.top)).str).length) (IntKind.i64.wrap (0 + 1)) ((Jg (PV.child (0 + 1 + 1) (o.getD 0 PV.top)).str).isEmpty) (Jg (PV.child (0 + 1 + 1) (o.getD 0 PV.top)).str) else none else none else bif (PV.child 0 (o.getD 0 PV.top)).int == 3 then bif decide (0 <= JK (J5 (PV.child (0 + 1) (o.getD 0 PV.top)).int 0) (zi doc.size)) && true && decide ((JK (J5 (PV.child (0 + 1) (o.getD 0 PV.top)).int 0) (zi doc.size)).toNat <= doc.size) && decide (doc.size <= doc.size) && true then QD f (fun x0_6 x1_6 => k (Res.mk (.tup [.sc (.string x0_6), .sc (.int .i64 x1_6)]) [] [])) f (doc.extract (JK (J5 (PV.child (0 + 1) (o.getD 0 PV.top)).int 0) (zi doc.size)).toNat doc.size) o_z o_f o (0) (IntKind.i64.wrap (0 + 1)) true ([]) else none else QD f (fun x0_7 x1_7 => k (Res.mk (.tup [.sc (.string x0_7), .sc (.int .i64 x1_7)]) [] [])) f doc o_z o_f o (0) (IntKind.i64.wrap (0 + 1)) true ([]) else none else none else none
theorem e89 (f : Nat) (doc : ByteArray) (o_z o_f : Bool) (o : List PV) (k : Res -> Option Res) : JM tau F89 Try.f89 (Try.f89.body.get!) (JqA (Jct f)) [.ro, .ro] 0 [.sc (.string doc), .ro 113 o_z o_f o] [] k = g89 f doc o_z o_f o k := by kernel_rfl
theorem JDB (f : Nat) : Je (Try.f89.body.get!) (JqA (Jct f)) = [.s GI YI N89 (Jct f)] := by kernel_rfl
theorem JDC (f : Nat) : ∀ q ∈ Je (Try.f89.body.get!) (JqA (Jct f)), q.Ok tau Try.prog 0 := by
 rw [JDB f]; simp only [List.forall_mem_cons, List.not_mem_nil, false_implies, implies_true, and_true]; exact Ju6 f
theorem JAm : Try.prog.funcs[89]? = some Try.f89 := by kernel_rfl
theorem JAn : Try.f89.body = some (Try.f89.body.get!) := by kernel_rfl
theorem JDD : Enters Try.prog 89 := enters_of JAm (by kernel_rfl) JAn
-- FN
def JcJ : List PV -> List UInt8 -> List UInt8
 | [], _ => []
 | p :: ps, t =>
  bif (cv p).kd == 1 then t.take (cv p).n.toNat ++ JcJ ps (t.drop (cv p).n.toNat)
  else bif (cv p).kd == 2 then (cv p).s.data.toList ++ JcJ ps t
  else JcJ ps (t.drop (cv p).n.toNat)
theorem GJ : ∀ (l : List PV) (doc : ByteArray) (at1 : Nat) (out : ByteArray), (apl l doc at1 out).data.toList = out.data.toList ++ JcJ l (doc.data.toList.drop at1)
 | [], doc, at1, out => by simp [apl, JcJ]
 | p :: ps, doc, at1, out => by
  simp only [apl, JcJ]
  cases (cv p).kd == 1 with
  | true =>
   simp only [cond_true]
   rw [GJ, ByteArray.data_append, Array.toList_append, ByteArray.data_extract, Array.toList_extract, List.extract_eq_take_drop, List.append_assoc, List.drop_drop]
   have e : at1 + (cv p).n.toNat - at1 = (cv p).n.toNat := by omega
   rw [e]
  | false =>
   simp only [cond_false]
   cases (cv p).kd == 2 with
   | true => simp only [cond_true]; rw [GJ, ByteArray.data_append, Array.toList_append, List.append_assoc]
   | false => simp only [cond_false]; rw [GJ, List.drop_drop]
-- FN op.Apply
def ob (l : List UInt8) : List PV := l.map fun b => .sc (.int .u8 b.toNat)
theorem JAo (s : ByteArray) : Jg s = ob s.data.toList := rfl
theorem Ju7 (a b : List UInt8) : ob a ++ ob b = ob (a ++ b) := by simp [ob]
theorem Jiz (a : List UInt8) : (ob a).length = a.length := by simp [ob]
theorem JsC : ∀ l : List UInt8, Jn (ob l) = l
 | [] => rfl
 | b :: l => by
  show UInt8.ofNat ((b.toNat : Int)).toNat :: Jn (ob l) = _
  rw [JsC l, Int.toNat_natCast, UInt8.ofNat_toNat]
theorem Jns : ∀ l : List UInt8, Jl .u8 (ob l) = true
 | [] => rfl
 | b :: l => by
  show (PV.isInt .u8 (.sc (.int .u8 b.toNat)) && Jl .u8 (ob l)) = true
  rw [Jns l]; rfl
theorem Ju8 {a b : ByteArray} (h : a.data.toList = b.data.toList) : a = b := by
 cases a with
 | mk x => cases b with
  | mk y => exact congrArg ByteArray.mk (Array.ext' h)
theorem JsD {n m : Int} (h0 : 0 <= n) (h1 : n <= m) : JK (J5 n 0) m = n := by
 unfold JK J5
 by_cases h : n < 0
 · omega
 · rw [if_neg h]
   by_cases g : m < n
   · omega
   · rw [if_neg g]
theorem JqC (f : Nat) (rc : ByteArray -> Bool -> Bool -> List PV -> Nat -> Int -> Bool -> List PV -> Option Res) (k0 : ByteArray -> Int -> Option Res) (r : ByteArray) (z fl : Bool) (l : List PV) (out : List UInt8) (q : Bool) :
  WT f rc k0 r z fl l out.length (l.length : Int) q (ob out) = k0 ⟨⟨out⟩⟩ 0 := by
 have e : List.take out.length (ob out) = ob out := by rw [← Jiz out]; exact List.take_length
 simp only [WT, List.drop_zero, e, JsC, Jns]
 exact Ja (beq_self_eq_true _)
theorem Jnt (f : Nat) (rc : ByteArray -> Bool -> Bool -> List PV -> Nat -> Int -> Bool -> List PV -> Option Res) (k0 : ByteArray -> Int -> Option Res) (r : ByteArray) (z fl : Bool) (l : List PV) (ha : aOk l = true) (out : List UInt8) (q : Bool) (i : Nat) (hi : i < l.length) (X : Option Res)
   (hr : inC (cv (l.getD i .top)) <= r.size) (ho : (out.length : Int) + Q2 (cv (l.getD i .top)) <= 1000)
   (h : ∀ (r2 : ByteArray) (o2 : List UInt8) (q2 : Bool),
     (bif (cv (l.getD i .top)).kd == 1 then r2.data.toList = r.data.toList.drop (cv (l.getD i .top)).n.toNat /\ o2 = out ++ r.data.toList.take (cv (l.getD i .top)).n.toNat
       else bif (cv (l.getD i .top)).kd == 2 then r2.data.toList = r.data.toList /\ o2 = out ++ (cv (l.getD i .top)).s.data.toList
       else r2.data.toList = r.data.toList.drop (cv (l.getD i .top)).n.toNat /\ o2 = out : Prop) ->
     rc r2 z fl l o2.length ((i + 1 : Nat) : Int) q2 (ob o2) = X) :
   WT f rc k0 r z fl l out.length (i : Int) q (ob out) = X := by
 obtain ⟨h1, hl, hck⟩ := YB.1 ha
 have g1 : ((i : Int)).toNat = i := by omega
 have w1 : IntKind.i64.wrap ((i : Int) + 1) = ((i + 1 : Nat) : Int) := by rw [wrap_i64 (by omega) (by omega)]; omega
 have hc := Jsf h1 (i := i) (by omega)
 unfold JeO at hc
 have hk := (Jch ha (i := i) (by omega)).2
 have e : List.take out.length (ob out) = ob out := by rw [← Jiz out]; exact List.take_length
 simp only [WT, g1, w1, e, JAo, Ju7, Jiz, ← List.length_append]
 generalize l.getD i .top = p at *
 have e1 : (PV.child 0 p).int = (cv p).kd := rfl
 have e2 : (PV.child (0 + 1) p).int = (cv p).n := rfl
 have e3 : (PV.child (0 + 1 + 1) p).str = (cv p).s := rfl
 simp only [e1, e2, e3]
 refine (Jj (beq_false_of_ne (by simp only [zi]; omega))).trans ((Ja hc).trans ?_)
 have hn0 : ∀ (n : Nat), n <= r.size -> (r.extract 0 n).data.toList = r.data.toList.take n := fun n hn => by
   rw [ByteArray.data_extract, Array.toList_extract, List.extract_eq_take_drop, List.drop_zero, Nat.sub_zero]
 have hn1 : ∀ (n : Nat), (r.extract n r.size).data.toList = r.data.toList.drop n := fun n => by
   rw [ByteArray.data_extract, Array.toList_extract, List.extract_eq_take_drop]
   exact List.take_of_length_le (by rw [List.length_drop]; exact Nat.le_refl _)
 have hlen : r.data.toList.length = r.size := rfl
 rcases XS hk with ⟨q1, q2, q3, q4⟩ | ⟨q1, q2, q3, q4⟩
 · rcases q1 with q1 | q1
   · have ei : inC (cv p) = (cv p).n := by unfold inC; rw [q1]; rfl
     have eo : Q2 (cv p) = (cv p).n := by unfold Q2; rw [q1]; rfl
     rw [ei] at hr
     rw [eo] at ho
     have mm := JsD (n := (cv p).n) (m := zi r.size) (by omega) (by simp only [zi]; omega)
     have hx := hn0 (cv p).n.toNat (by omega)
     rw [q1] at h ⊢
     simp only [mm, hx]
     refine (Jj rfl).trans ((Ja hc).trans ((Ja rfl).trans ?_))
     refine (Ja (by simp [zi]; omega)).trans ((Ja ?_).trans ((Ja (by simp [zi]; omega)).trans ?_))
     · simp [Jf]; omega
     · exact h _ _ _ ⟨hn1 _, rfl⟩
   · have ei : inC (cv p) = (cv p).n := by unfold inC; rw [q1]; rfl
     rw [ei] at hr
     have mm := JsD (n := (cv p).n) (m := zi r.size) (by omega) (by simp only [zi]; omega)
     rw [q1] at h ⊢
     simp only [mm]
     refine (Jj rfl).trans ((Ja hc).trans ((Jj rfl).trans ((Jj rfl).trans ((Ja rfl).trans ?_))))
     refine (Ja (by simp [zi]; omega)).trans ?_
     exact h _ _ _ ⟨hn1 _, rfl⟩
 · have eo : Q2 (cv p) = (cv p).s.size := by unfold Q2; rw [q1]; rfl
   rw [eo] at ho
   have hs : (cv p).s.data.toList.length = (cv p).s.size := rfl
   rw [q1] at h ⊢
   refine (Ja rfl).trans ((Ja hc).trans ((Jj rfl).trans ((Ja rfl).trans ((Ja hc).trans ?_))))
   refine (Ja ?_).trans ?_
   · simp [Jf]; omega
   · exact h _ _ _ ⟨rfl, rfl⟩
theorem Jkc (l : List PV) (ha : aOk l = true) (f : Nat) (k0 : ByteArray -> Int -> Option Res) (z fl : Bool) : ∀ (d i n : Nat) (r : ByteArray) (out : List UInt8) (q : Bool), i + d = l.length -> d < n -> inL (l.drop i) <= r.size -> (out.length : Int) + outL (l.drop i) <= 1000 ->
  QD f k0 n r z fl l out.length (i : Int) q (ob out) = k0 ⟨⟨out ++ JcJ (l.drop i) r.data.toList⟩⟩ 0
 | 0, i, n + 1, r, out, q, hi, hn, h3, h4 => by
   rw [List.drop_of_length_le (by omega)]
   obtain rfl : i = l.length := by omega
   simp only [QD, JcJ, List.append_nil]
   exact JqC f _ k0 r z fl l out q
 | d + 1, i, n + 1, r, out, q, hi, hn, h3, h4 => by
   obtain ⟨h1, hl, hck⟩ := YB.1 ha
   have hck' : ∀ q ∈ l.drop (i + 1), ckC (cv q) = 0 := fun q hq => hck q (List.mem_of_mem_drop hq)
   have hin := YC hck'
   have hon := ZD hck'
   have hk := (Jch ha (i := i) (by omega)).2
   rw [Wb (by omega)] at h3 h4 ⊢
   simp only [QD, JcJ]
   simp only [inL, outL] at h3 h4
   have i1 := JeP hk
   have o1 := Jbf hk
   refine Jnt f _ k0 r z fl l ha out q i (by omega) _ (by omega) (by omega) fun r2 o2 q2 h => ?_
   generalize l.getD i .top = p at *
   have sz : ∀ x : ByteArray, x.data.toList.length = x.size := fun _ => rfl
   rcases XS hk with ⟨q1, q3, q4, q5⟩ | ⟨q1, q3, q4, q5⟩
   · rcases q1 with q1 | q1
     · have ei : inC (cv p) = (cv p).n := by unfold inC; rw [q1]; rfl
       have eo : Q2 (cv p) = (cv p).n := by unfold Q2; rw [q1]; rfl
       rw [q1] at h ⊢
       obtain ⟨e1, e2⟩ := h
       have l1 := congrArg List.length e1
       have l2 := congrArg List.length e2
       rw [List.length_drop, sz, sz] at l1
       rw [List.length_append, List.length_take, sz] at l2
       rw [Jkc l ha f k0 z fl d (i + 1) n r2 o2 q2 (by omega) (by omega) (by omega) (by omega), e1, e2, List.append_assoc]
       rfl
     · have ei : inC (cv p) = (cv p).n := by unfold inC; rw [q1]; rfl
       rw [q1] at h ⊢
       obtain ⟨e1, e2⟩ := h
       have l1 := congrArg List.length e1
       rw [List.length_drop, sz, sz] at l1
       subst e2
       rw [Jkc l ha f k0 z fl d (i + 1) n r2 _ q2 (by omega) (by omega) (by omega) (by omega), e1]
       rfl
   · have ei : inC (cv p) = 0 := by unfold inC; rw [q1]; rfl
     have eo : Q2 (cv p) = (cv p).s.size := by unfold Q2; rw [q1]; rfl
     rw [q1] at h ⊢
     obtain ⟨e1, e2⟩ := h
     have l1 := congrArg List.length e1
     have l2 := congrArg List.length e2
     rw [sz, sz] at l1
     rw [List.length_append, sz] at l2
     rw [Jkc l ha f k0 z fl d (i + 1) n r2 o2 q2 (by omega) (by omega) (by omega) (by omega), e1, e2, List.append_assoc]
     rfl
theorem Ju9 (f : Nat) (doc : ByteArray) (z fl : Bool) (o : List PV) (k : Res -> Option Res) : g89 f doc z fl o k =
  bif aOk o then
   bif !(FloatKind.f64.format.order (fOf .f64 (zi doc.size)) (szI o) == some Ordering.eq && FloatKind.f64.format.order (szO o) (szO o) == some Ordering.eq) then k ⟨.tup [.sc (.string (ByteArray.mk (Array.mk []))), .sc (.int .i64 7)], [], []⟩
   else bif FloatKind.f64.format.order (szO o) 4638144666238189568 == some Ordering.gt then k ⟨.tup [.sc (.string (ByteArray.mk (Array.mk []))), .sc (.int .i64 5)], [], []⟩
   else WT f (QD f (fun x y => k ⟨.tup [.sc (.string x), .sc (.int .i64 y)], [], []⟩) f) (fun x y => k ⟨.tup [.sc (.string x), .sc (.int .i64 y)], [], []⟩) doc z fl o 0 0 true []
  else none := by
 unfold g89 WT
 simp only [Nat.zero_add]
 rfl
theorem JAp (a b : Int) : compare a b = if a < b then .lt else if a = b then .eq else .gt := rfl
theorem Je3 {a b : Int} : compare a b = .eq ↔ a = b := by
 rw [JAp]
 by_cases h : a < b
 · rw [if_pos h]; exact ⟨fun e => (nomatch e), fun e => by omega⟩
 · rw [if_neg h]
   by_cases g : a = b
   · rw [if_pos g]; exact ⟨fun _ => g, fun _ => rfl⟩
   · rw [if_neg g]; exact ⟨fun e => (nomatch e), fun e => absurd e g⟩
theorem Jkd {a b : Int} : compare a b = .gt ↔ a > b := by
 rw [JAp]
 by_cases h : a < b
 · rw [if_pos h]; exact ⟨fun e => (nomatch e), fun e => by omega⟩
 · rw [if_neg h]
   by_cases g : a = b
   · rw [if_pos g]; exact ⟨fun e => (nomatch e), fun e => by omega⟩
   · rw [if_neg g]; exact ⟨fun _ => by omega, fun _ => rfl⟩
theorem f120 : fz 120 = 4638144666238189568 := by decide +kernel
def JiA : List PV -> List Ent -> (Res -> Option Res) -> Option Res
 | [.sc (.string doc), .ro 113 z f o], [], k => bif aOk o && decide (doc.size <= 10000) then k ⟨.tup [.sc (.string (apD ⟨doc, o⟩)), .sc (.int .i64 (apE ⟨doc, o⟩))], [], []⟩ else none
 | _, _, _ => none
def JAq : Sig := { own := [], run := JiA }
theorem Jva (doc : ByteArray) (z f : Bool) (o : List PV) (h : aOk o = true) (hd : doc.size <= 10000) (k : Res -> Option Res) : g89 50 doc z f o k = k ⟨.tup [.sc (.string (apD ⟨doc, o⟩)), .sc (.int .i64 (apE ⟨doc, o⟩))], [], []⟩ := by
 obtain ⟨h1, h2, h3⟩ := YB.1 h
 have p53 : (2 : Nat) ^ 53 = 9007199254740992 := by decide
 have hle := JmL h3
 have hI := YC h3
 have hO := ZD h3
 have hOle : ∀ {l : List PV}, (∀ p ∈ l, ckC (cv p) = 0) -> outL l <= 120 * l.length := by
   intro l
   induction l with
   | nil => intro _; simp [outL]
   | cons p l ih =>
     intro h
     have h1 := (Jbf (h p List.mem_cons_self)).2
     have h2 := ih fun q hq => h q (List.mem_cons_of_mem _ hq)
     simp only [outL, List.length_cons]; omega
 have hOl := hOle h3
 rw [Ju9, JmK, JmJ, Jgr, Jnn, Jnp, Jnq, ← f120]
 have r1 : FloatKind.f64.format.order (fz (zi doc.size)) (fz (inL o)) = some (compare (zi doc.size) (inL o)) := Jcs (by rw [p53]; simp only [zi]; omega) (by rw [p53]; omega)
 have r2 : FloatKind.f64.format.order (fz (outL o)) (fz (outL o)) = some (compare (outL o) (outL o)) := Jcs (by rw [p53]; omega) (by rw [p53]; omega)
 have r3 : FloatKind.f64.format.order (fz (outL o)) (fz 120) = some (compare (outL o) 120) := Jcs (by rw [p53]; omega) (by rw [p53]; decide)
 have r4 : compare (outL o) (outL o) = .eq := Je3.2 rfl
 rw [r1, r2, r3, r4]
 refine (Ja h).trans ?_
 by_cases hi : inL o = zi doc.size
 · have c1 : compare (zi doc.size) (inL o) = .eq := Je3.2 hi.symm
   have c2 : (inL o != zi doc.size) = false := by rw [hi]; simp
   rw [c1, c2]
   refine (Jj rfl).trans ?_
   by_cases ho : outL o > 120
   · have c3 : compare (outL o) 120 = .gt := Jkd.2 ho
     rw [c3, decide_eq_true ho]
     rfl
   · have c3 : (some (compare (outL o) 120) == some Ordering.gt) = false := beq_false_of_ne fun e => ho (Jkd.1 (Option.some.inj e))
     rw [c3, decide_eq_false ho]
     refine (Jj rfl).trans ?_
     have := Jkc o h 50 (fun x y => k ⟨.tup [.sc (.string x), .sc (.int .i64 y)], [], []⟩) z f o.length 0 51 doc [] true (by omega) (by omega) (by rw [List.drop_zero, hi]; simp [zi]) (by rw [List.drop_zero]; simp; omega)
     simp only [QD, List.drop_zero, List.nil_append] at this
     have e2 : apl o doc 0 (ByteArray.mk (Array.mk [])) = ⟨⟨JcJ o doc.data.toList⟩⟩ := Ju8 (by rw [GJ, List.drop_zero]; rfl)
     refine this.trans ?_
     rw [← e2]; rfl
 · have c1 : (some (compare (zi doc.size) (inL o)) == some Ordering.eq) = false := beq_false_of_ne fun e => hi (Je3.1 (Option.some.inj e)).symm
   have c2 : (inL o != zi doc.size) = true := by simp [bne, hi]
   rw [c1, c2]
   rfl
theorem JAr : Jh tau Try.prog 89 JAq := Jh.mk' fun xs es k res hl hr => by
 change JiA xs es k = some res at hr
 unfold JiA at hr
 split at hr
 · rename_i doc z f o
   obtain ⟨hc, hr⟩ := JI hr
   have hd := (Bool.and_eq_true _ _ ▸ hc).2
   have hc := (Bool.and_eq_true _ _ ▸ hc).1
   exact Qk Jr Jnr Js JAm JAn (JqA (Jct 50)) [.ro, .ro] 0 0 (JDC 50) hl rfl ((e89 50 doc z f o k).trans ((Jva doc z f o hc (of_decide_eq_true hd) k).trans hr))
 · cases hr
def N40 : Nat := 79
def F40 : Fns := JG 91 JAb (JG 90 Jz9 (JG 89 JAq (JG 88 Joj (F0))))
theorem Jnu : Jy tau Try.prog F40 := ((((JE).add Jlu JsR).add JAr JDD).add JAa JDt).add JAc JDx
def GK : Code := Qj (Try.f40.body.get!) [1, 0]
def YJ : Nm := [(0, .any), (1, .any)]
def ZK : Nm := [(4, .any)]
def JdJ : An := (.seq (.seq .leaf (.block none (.seq .leaf (.cond (.seq (.seq .leaf (.seq .leaf (.cond (.seq .leaf .leaf) .leaf))) (.seq .leaf (.seq .leaf .leaf))) (.seq .leaf (.cond (.seq (.seq .leaf (.cond .leaf .leaf)) (.seq .leaf (.seq .leaf .leaf))) .leaf)))))) (.seq (.seq .leaf (.cond .leaf .leaf)) (.seq .leaf (.seq (.seq .leaf .leaf) (.seq .leaf (.seq .leaf .leaf))))))
def JqD (r0 : Jlo) : An := (.seq .leaf (.ssum YJ N40 (JdJ) r0))
def Jbj (f : Nat) (rc : Bool -> Bool -> List PV -> Int -> Int -> ByteArray -> Bool -> Bool -> List PV -> Int -> List PV -> Int -> Int -> Int -> Int -> List PV -> Int -> Bool -> Bool -> List PV -> Int -> Int -> Option Res) (k0 : Int -> Int -> Int -> ByteArray -> Bool -> Bool -> List PV -> Int -> List PV -> Int -> Int -> Int -> Int -> List PV -> Int -> Bool -> Bool -> List PV -> Int -> Int -> Option Res) (v0 v1 : Bool) (v2 : List PV) (v3 v4 : Int) (v5 : ByteArray) (v6 v7 : Bool) (v8 : List PV) (v9 : Int) (v10 : List PV) (v11 v12 v13 v14 : Int) (v15 : List PV) (v16 : Int) (v17 v18 : Bool) (v19 : List PV) (v20 v21 : Int) : Option Res := k0 (1) v3 v4 v5 v6 v7 v8 v9 v10 v11 v12 v13 v14 v15 v16 v17 v18 v19 v20 v21
def Jal (f : Nat) (k0 : Int -> Int -> Int -> ByteArray -> Bool -> Bool -> List
 PV -> Int -> List
 PV -> Int -> Int -> Int -> Int -> List
 PV -> Int -> Bool -> Bool -> List
 PV -> Int -> Int -> Option Res) : Nat -> Bool -> Bool -> List
 PV -> Int -> Int -> ByteArray -> Bool -> Bool -> List PV -> Int -> List PV -> Int -> Int -> Int -> Int -> List PV -> Int -> Bool -> Bool -> List PV -> Int -> Int -> Option Res
 | 0, _, _, _, _, _, _, _, _, _, _, _, _, _, _, _, _, _, _, _, _, _, _ => none
 | n + 1, v0, v1, v2, v3, v4, v5, v6, v7, v8, v9, v10, v11, v12, v13, v14, v15, v16, v17, v18, v19, v20, v21 => Jbj f (Jal f k0 n) k0 v0 v1 v2 v3 v4 v5 v6 v7 v8 v9 v10 v11 v12 v13 v14 v15 v16 v17 v18 v19 v20 v21
theorem JqE (f : Nat) (k : Kont) (n : Nat) (v0 v1 : Bool) (v2 : List PV) (v3 v4 : Int) (v5 : ByteArray) (v6 v7 : Bool) (v8 : List PV) (v9 : Int) (v10 : List PV) (v11 v12 v13 v14 : Int) (v15 : List PV) (v16 : Int) (v17 v18 : Bool) (v19 : List PV) (v20 v21 : Int) : J6 tau 1 YJ (hasLabel GK) (fun l s k => JV tau F40 1 0 GK (JdJ ) l s k) (n + 1) 0 (Jc YJ N40 [.ptr 0 [], .ro 113 v0 v1 v2] [(0, .box false 98 (PV.st 98 [.st 39 [.st 34 [.sc (.int .i64 v3), .sc (.int .i64 v4)], .sc (.string v5), .ro 42 v6 v7 v8, .sc (.int .i64 v9), .ar 37 v10], .st 53 [.st 42 [.sc (.int .i64 v11), .sc (.int .i64 v12)], .sc (.int .i64 v13), .sc (.int .i64 v14), .ar 37 v15, .sc (.int .i64 v16), .ro 113 v17 v18 v19, .st 42 [.sc (.int .i64 v20), .sc (.int .i64 v21)]]]))]) (Jq tau 1 ZK k) = Jbj f (fun v0 v1 v2 v3 v4 v5 v6 v7 v8 v9 v10 v11 v12 v13 v14 v15 v16 v17 v18 v19 v20 v21 => J6 tau 1 YJ (hasLabel GK) (fun l s k => JV tau F40 1 0 GK (JdJ ) l s k) n 0 (Jc YJ N40 [.ptr 0 [], .ro 113 v0 v1 v2] [(0, .box false 98 (PV.st 98 [.st 39 [.st 34 [.sc (.int .i64 v3), .sc (.int .i64 v4)], .sc (.string v5), .ro 42 v6 v7 v8, .sc (.int .i64 v9), .ar 37 v10], .st 53 [.st 42 [.sc (.int .i64 v11), .sc (.int .i64 v12)], .sc (.int .i64 v13), .sc (.int .i64 v14), .ar 37 v15, .sc (.int .i64 v16), .ro 113 v17 v18 v19, .st 42 [.sc (.int .i64 v20), .sc (.int .i64 v21)]]]))]) (Jq tau 1 ZK k)) (fun x0 x1 x2 x3 x4 x5 x6 x7 x8 x9 x10 x11 x12 x13 x14 x15 x16 x17 x18 x19 => k Ex.ret (Jc ZK N40 [.sc (.int .i64 x0)] [(0, .box false 98 (PV.st 98 [.st 39 [.st 34 [.sc (.int .i64 x1), .sc (.int .i64 x2)], .sc (.string x3), .ro 42 x4 x5 x6, .sc (.int .i64 x7), .ar 37 x8], .st 53 [.st 42 [.sc (.int .i64 x9), .sc (.int .i64 x10)], .sc (.int .i64 x11), .sc (.int .i64 x12), .ar 37 x13, .sc (.int .i64 x14), .ro 113 x15 x16 x17, .st 42 [.sc (.int .i64 x18), .sc (.int .i64 x19)]]]))])) v0 v1 v2 v3 v4 v5 v6 v7 v8 v9 v10 v11 v12 v13 v14 v15 v16 v17 v18 v19 v20 v21 := by kernel_rfl
theorem Jke (f : Nat) (k : Kont) : ∀ (n : Nat) (v0 v1 : Bool) (v2 : List PV) (v3 v4 : Int) (v5 : ByteArray) (v6 v7 : Bool) (v8 : List PV) (v9 : Int) (v10 : List PV) (v11 v12 v13 v14 : Int) (v15 : List PV) (v16 : Int) (v17 v18 : Bool) (v19 : List PV) (v20 v21 : Int), J6 tau 1 YJ (hasLabel GK) (fun l s k => JV tau F40 1 0 GK (JdJ ) l s k) n 0 (Jc YJ N40 [.ptr 0 [], .ro 113 v0 v1 v2] [(0, .box false 98 (PV.st 98 [.st 39 [.st 34 [.sc (.int .i64 v3), .sc (.int .i64 v4)], .sc (.string v5), .ro 42 v6 v7 v8, .sc (.int .i64 v9), .ar 37 v10], .st 53 [.st 42 [.sc (.int .i64 v11), .sc (.int .i64 v12)], .sc (.int .i64 v13), .sc (.int .i64 v14), .ar 37 v15, .sc (.int .i64 v16), .ro 113 v17 v18 v19, .st 42 [.sc (.int .i64 v20), .sc (.int .i64 v21)]]]))]) (Jq tau 1 ZK k) = Jal f (fun x0 x1 x2 x3 x4 x5 x6 x7 x8 x9 x10 x11 x12 x13 x14 x15 x16 x17 x18 x19 => k Ex.ret (Jc ZK N40 [.sc (.int .i64 x0)] [(0, .box false 98 (PV.st 98 [.st 39 [.st 34 [.sc (.int .i64 x1), .sc (.int .i64 x2)], .sc (.string x3), .ro 42 x4 x5 x6, .sc (.int .i64 x7), .ar 37 x8], .st 53 [.st 42 [.sc (.int .i64 x9), .sc (.int .i64 x10)], .sc (.int .i64 x11), .sc (.int .i64 x12), .ar 37 x13, .sc (.int .i64 x14), .ro 113 x15 x16 x17, .st 42 [.sc (.int .i64 x18), .sc (.int .i64 x19)]]]))])) n v0 v1 v2 v3 v4 v5 v6 v7 v8 v9 v10 v11 v12 v13 v14 v15 v16 v17 v18 v19 v20 v21 | 0, _, _, _, _, _, _, _, _, _, _, _, _, _, _, _, _, _, _, _, _, _, _ => rfl | n + 1, v0, v1, v2, v3, v4, v5, v6, v7, v8, v9, v10, v11, v12, v13, v14, v15, v16, v17, v18, v19, v20, v21 => (JqE f k n v0 v1 v2 v3 v4 v5 v6 v7 v8 v9 v10 v11 v12 v13 v14 v15 v16 v17 v18 v19 v20 v21).trans (congrArg (fun r => Jbj f r (fun x0 x1 x2 x3 x4 x5 x6 x7 x8 x9 x10 x11 x12 x13 x14 x15 x16 x17 x18 x19 => k Ex.ret (Jc ZK N40 [.sc (.int .i64 x0)] [(0, .box false 98 (PV.st 98 [.st 39 [.st 34 [.sc (.int .i64 x1), .sc (.int .i64 x2)], .sc (.string x3), .ro 42 x4 x5 x6, .sc (.int .i64 x7), .ar 37 x8], .st 53 [.st 42 [.sc (.int .i64 x9), .sc (.int .i64 x10)], .sc (.int .i64 x11), .sc (.int .i64 x12), .ar 37 x13, .sc (.int .i64 x14), .ro 113 x15 x16 x17, .st 42 [.sc (.int .i64 x18), .sc (.int .i64 x19)]]]))])) v0 v1 v2 v3 v4 v5 v6 v7 v8 v9 v10 v11 v12 v13 v14 v15 v16 v17 v18 v19 v20 v21) (by funext v0 v1 v2 v3 v4 v5 v6 v7 v8 v9 v10 v11 v12 v13 v14 v15 v16 v17 v18 v19 v20 v21; exact Jke f k n v0 v1 v2 v3 v4 v5 v6 v7 v8 v9 v10 v11 v12 v13 v14 v15 v16 v17 v18 v19 v20 v21))
def Jcu (f : Nat) : Nat -> List PV -> List (Nat × Ent) -> Kont -> Option Res
 | 0, [.ptr 0 [],
 PV.ro 113 v0 v1
  v2], [(0,
  Ent.box false 98
   (PV.st 98
    [.st 39 [.st 34 [.sc (.int .i64 v3), .sc (.int .i64 v4)], .sc (.string v5), .ro 42 v6 v7 v8, .sc (.int .i64 v9), .ar 37 v10],
     PV.st 53
      [.st 42 [.sc (.int .i64 v11), .sc (.int .i64 v12)], .sc (.int .i64 v13), .sc (.int .i64 v14), .ar 37 v15,
       .sc (.int .i64 v16), .ro 113 v17 v18 v19,
       PV.st 42
        [.sc (.int .i64 v20),
         PV.sc
          (Value.int IntKind.i64
           v21)]]]))], k => Jal f (fun x0 x1 x2 x3 x4 x5 x6 x7 x8 x9 x10 x11 x12 x13 x14 x15 x16 x17 x18 x19 => k Ex.ret (Jc ZK N40 [PV.sc
  (Value.int IntKind.i64
   x0)] [(0,
  Ent.box false 98
   (PV.st 98
    [.st 39 [.st 34 [.sc (.int .i64 x1), .sc (.int .i64 x2)], .sc (.string x3), .ro 42 x4 x5 x6, .sc (.int .i64 x7), .ar 37 x8],
     PV.st 53
      [.st 42 [.sc (.int .i64 x9), .sc (.int .i64 x10)], .sc (.int .i64 x11), .sc (.int .i64 x12), .ar 37 x13,
       .sc (.int .i64 x14), .ro 113 x15 x16 x17,
       PV.st 42 [.sc (.int .i64 x18), .sc (.int .i64 x19)]]]))])) f v0 v1 v2 v3 v4 v5 v6 v7 v8 v9 v10 v11 v12 v13 v14 v15 v16 v17 v18 v19 v20 v21
 | _, _, _, _ => none
theorem Jvb (f : Nat) : Je GK JdJ = [] := by kernel_rfl
theorem Jvc (f : Nat) : (Item.s GK YJ N40 (Jcu f)).Ok tau Try.prog 1 := W7 Jr Jnu Js (x := JdJ) (nm2 := ZK) (Jk _ _ (by rw [Jvb f]; intro q hq; cases hq)) fun l vs hp k res hr => by
 unfold Jcu at hr
 split at hr
 · exact ⟨f, 0, (Jke f _ f _ _ _ _ _ _ _ _ _ _ _ _ _ _ _ _ _ _ _ _ _ _ ).trans hr⟩
 · cases hr
def g40 (f : Nat) (y0 y1 : Int) (y2 : ByteArray) (y3 y4 : Bool) (y5 : List PV) (y6 : Int) (y7 : List PV) (y8 y9 y10 y11 : Int) (y12 : List PV) (y13 : Int) (y14 y15 : Bool) (y16 : List PV) (y17 y18 : Int) (o_z o_f : Bool) (o : List PV) (k : Res -> Option Res) : Option Res := bif y13 == 1 then bif cOk o then bif ckO o != 0 then k (Res.mk (.sc (.int .i64 (ckO o))) [.box false 98 (PV.st 98 [.st 39 [.st 34 [.sc (.int .i64 y0), .sc (.int .i64 y1)], .sc (.string y2), .ro 42 y3 y4 y5, .sc (.int .i64 y6), .ar 37 y7], .st 53 [.st 42 [.sc (.int .i64 y8), .sc (.int .i64 y9)], .sc (.int .i64 y10), .sc (.int .i64 y11), .ar 37 y12, .sc (.int .i64 y13), .ro 113 y14 y15 y16, .st 42 [.sc (.int .i64 y17), .sc (.int .i64 y18)]]])] []) else bif aOk o && decide (y2.size <= 10000) then k (Res.mk (.sc (.int .i64 (apE (AP.mk y2 o)))) [.box false 98 (PV.st 98 [.st 39 [.st 34 [.sc (.int .i64 y0), .sc (.int .i64 y1)], .sc (.string (apD (AP.mk y2 o))), .ro 42 y3 y4 y5, .sc (.int .i64 y6), .ar 37 y7], .st 53 [.st 42 [.sc (.int .i64 y8), .sc (.int .i64 y9)], .sc (.int .i64 y10), .sc (.int .i64 y11), .ar 37 y12, .sc (.int .i64 y13), .ro 113 y14 y15 y16, .st 42 [.sc (.int .i64 y17), .sc (.int .i64 y18)]]])] []) else none else none else bif y13 == 2 then bif decide (zi o.length > 0) then Jal f (fun x0_0 x1_0 x2_0 x3_0 QI x5_0 x6_0 x7_0 x8_0 x9_0 x10_0 Jo x12_0 QV x14_0 x15_0 x16_0 x17_0 x18_0 x19_0 => k (Res.mk (.sc (.int .i64 x0_0)) [.box false 98 (PV.st 98 [.st 39 [.st 34 [.sc (.int .i64 x1_0), .sc (.int .i64 x2_0)], .sc (.string x3_0), .ro 42 QI x5_0 x6_0, .sc (.int .i64 x7_0), .ar 37 x8_0], .st 53 [.st 42 [.sc (.int .i64 x9_0), .sc (.int .i64 x10_0)], .sc (.int .i64 Jo), .sc (.int .i64 x12_0), .ar 37 QV, .sc (.int .i64 x14_0), .ro 113 x15_0 x16_0 x17_0, .st 42 [.sc (.int .i64 x18_0), .sc (.int .i64 x19_0)]]])] [])) f o_z o_f o y0 y1 y2 y3 y4 y5 y6 y7 y8 y9 y10 y11 y12 y13 y14 y15 y16 y17 y18 else bif pOk y5 && zOk y3 y5 then k (Res.mk (.sc (.int .i64 (adE (PH.mk y5 (AV.mk y17 y18))))) [.box false 98 (PV.st 98 [.st 39 [.st 34 [.sc (.int .i64 y0), .sc (.int .i64 y1)], .sc (.string y2), .ro 42 (adF (PH.mk y5 (AV.mk y17 y18)) && y3) (adF (PH.mk y5 (AV.mk y17 y18)) && y3) (adL (PH.mk y5 (AV.mk y17 y18))), .sc (.int .i64 y6), .ar 37 y7], .st 53 [.st 42 [.sc (.int .i64 y8), .sc (.int .i64 y9)], .sc (.int .i64 y10), .sc (.int .i64 y11), .ar 37 y12, .sc (.int .i64 y13), .ro 113 y14 y15 y16, .st 42 [.sc (.int .i64 y17), .sc (.int .i64 y18)]]])] []) else none else bif decide (zi o.length > 0) then Jal f (fun x0_1 x1_1 x2_1 x3_1 Wf x5_1 x6_1 x7_1 x8_1 x9_1 x10_1 x11_1 x12_1 x13_1 x14_1 x15_1 x16_1 x17_1 x18_1 x19_1 => k (Res.mk (.sc (.int .i64 x0_1)) [.box false 98 (PV.st 98 [.st 39 [.st 34 [.sc (.int .i64 x1_1), .sc (.int .i64 x2_1)], .sc (.string x3_1), .ro 42 Wf x5_1 x6_1, .sc (.int .i64 x7_1), .ar 37 x8_1], .st 53 [.st 42 [.sc (.int .i64 x9_1), .sc (.int .i64 x10_1)], .sc (.int .i64 x11_1), .sc (.int .i64 x12_1), .ar 37 x13_1, .sc (.int .i64 x14_1), .ro 113 x15_1 x16_1 x17_1, .st 42 [.sc (.int .i64 x18_1), .sc (.int .i64 x19_1)]]])] [])) f o_z o_f o y0 y1 y2 y3 y4 y5 y6 y7 y8 y9 y10 y11 y12 y13 y14 y15 y16 y17 y18 else bif pOk y5 && zOk y3 y5 then k (Res.mk (.sc (.int .i64 (rmE (PH.mk y5 (AV.mk y17 y18))))) [.box false 98 (PV.st 98 [.st 39 [.st 34 [.sc (.int .i64 y0), .sc (.int .i64 y1)], .sc (.string y2), .ro 42 (rmZ (PH.mk y5 (AV.mk y17 y18)) y3) (rmF (PH.mk y5 (AV.mk y17 y18)) y3) (rmL (PH.mk y5 (AV.mk y17 y18))), .sc (.int .i64 y6), .ar 37 y7], .st 53 [.st 42 [.sc (.int .i64 y8), .sc (.int .i64 y9)], .sc (.int .i64 y10), .sc (.int .i64 y11), .ar 37 y12, .sc (.int .i64 y13), .ro 113 y14 y15 y16, .st 42 [.sc (.int .i64 y17), .sc (.int .i64 y18)]]])] []) else none
theorem e40 (f : Nat) (y0 y1 : Int) (y2 : ByteArray) (y3 y4 : Bool) (y5 : List PV) (y6 : Int) (y7 : List PV) (y8 y9 y10 y11 : Int) (y12 : List PV) (y13 : Int) (y14 y15 : Bool) (y16 : List PV) (y17 y18 : Int) (o_z o_f : Bool) (o : List PV) (k : Res -> Option Res) : JM tau F40 Try.f40 (Try.f40.body.get!) (JqD (Jcu f)) [.ro] 0 [.ptr 0 [], .ro 113 o_z o_f o] [.box false 98 (.st 98 [.st 39 [.st 34 [.sc (.int .i64 y0), .sc (.int .i64 y1)], .sc (.string y2), .ro 42 y3 y4 y5, .sc (.int .i64 y6), .ar 37 y7], .st 53 [.st 42 [.sc (.int .i64 y8), .sc (.int .i64 y9)], .sc (.int .i64 y10), .sc (.int .i64 y11), .ar 37 y12, .sc (.int .i64 y13), .ro 113 y14 y15 y16, .st 42 [.sc (.int .i64 y17), .sc (.int .i64 y18)]]])] k = g40 f y0 y1 y2 y3 y4 y5 y6 y7 y8 y9 y10 y11 y12 y13 y14 y15 y16 y17 y18 o_z o_f o k := by kernel_rfl
theorem JDE (f : Nat) : Je (Try.f40.body.get!) (JqD (Jcu f)) = [.s GK YJ N40 (Jcu f)] := by kernel_rfl
theorem JDF (f : Nat) : ∀ q ∈ Je (Try.f40.body.get!) (JqD (Jcu f)), q.Ok tau Try.prog 1 := by
 rw [JDE f]; simp only [List.forall_mem_cons, List.not_mem_nil, false_implies, implies_true, and_true]; exact Jvc f
theorem JAs : Try.prog.funcs[40]? = some Try.f40 := by kernel_rfl
theorem JAt : Try.f40.body = some (Try.f40.body.get!) := by kernel_rfl
theorem JDG : Enters Try.prog 40 := enters_of JAs (by kernel_rfl) JAt
-- FN (*wavelet.doing).change
structure CX where
 (kd : Int) (w : AV) (doc : ByteArray) (l o : List PV)
def JqF (x : CX) : Int := bif x.kd == 1 then (bif ckO x.o != 0 then ckO x.o else apE ⟨x.doc, x.o⟩) else bif decide (zi x.o.length > 0) then 1 else bif x.kd == 2 then adE ⟨x.l, x.w⟩ else rmE ⟨x.l, x.w⟩
def JqG (x : CX) : ByteArray := bif x.kd == 1 then (bif ckO x.o != 0 then x.doc else apD ⟨x.doc, x.o⟩) else x.doc
def JqH (x : CX) : List PV := bif x.kd == 1 then x.l else bif decide (zi x.o.length > 0) then x.l else bif x.kd == 2 then adL ⟨x.l, x.w⟩ else rmL ⟨x.l, x.w⟩
def JqI (x : CX) (z : Bool) : Bool := bif x.kd == 1 then z else bif decide (zi x.o.length > 0) then z else bif x.kd == 2 then (adF ⟨x.l, x.w⟩ && z) else rmZ ⟨x.l, x.w⟩ z
def Jvd (x : CX) (z f : Bool) : Bool := bif x.kd == 1 then f else bif decide (zi x.o.length > 0) then f else bif x.kd == 2 then (adF ⟨x.l, x.w⟩ && z) else rmF ⟨x.l, x.w⟩ z
def ccE : CX -> Int := hid JqF
def ccD : CX -> ByteArray := hid JqG
def ccL : CX -> List PV := hid JqH
def ccZ : CX -> Bool -> Bool := hid JqI
def ccF : CX -> Bool -> Bool -> Bool := hid Jvd
theorem Jnv (x : CX) : ccE x = JqF x := by rw [ccE, hid_eq]
theorem Jnw (x : CX) : ccD x = JqG x := by rw [ccD, hid_eq]
theorem Jnx (x : CX) : ccL x = JqH x := by rw [ccL, hid_eq]
theorem Jny (x : CX) (z : Bool) : ccZ x z = JqI x z := by rw [ccZ, hid_eq]
theorem Jve (x : CX) (z f : Bool) : ccF x z f = Jvd x z f := by rw [ccF, hid_eq]
def doP (ih iN : Int) (doc : ByteArray) (z f : Bool) (l : List PV) (ver : Int) (hash : List PV) (aD aU dI dV : Int) (dh : List PV) (kd : Int) (pz pf : Bool) (po : List PV) (wD wU : Int) : PV :=
 .st 98 [.st 39 [.st 34 [.sc (.int .i64 ih), .sc (.int .i64 iN)], .sc (.string doc), .ro 42 z f l, .sc (.int .i64 ver), .ar 37 hash],
  .st 53 [.st 42 [.sc (.int .i64 aD), .sc (.int .i64 aU)], .sc (.int .i64 dI), .sc (.int .i64 dV), .ar 37 dh, .sc (.int .i64 kd), .ro 113 pz pf po, .st 42 [.sc (.int .i64 wD), .sc (.int .i64 wU)]]]
theorem Jvf (ih iN : Int) (doc : ByteArray) (z f : Bool) (l : List PV) (ver : Int) (hash : List PV) (aD aU dI dV : Int) (dh : List PV) (kd : Int) (pz pf : Bool) (po : List PV) (wD wU : Int) (oz of : Bool) (o : List PV)
  (ho : cOk o = true) (hd : doc.size <= 10000) (hl : pOk l = true) (hz : zOk z l = true) (k : Res -> Option Res) :
  g40 1 ih iN doc z f l ver hash aD aU dI dV dh kd pz pf po wD wU oz of o k =
   k ⟨.sc (.int .i64 (ccE ⟨kd, ⟨wD, wU⟩, doc, l, o⟩)), [.box false 98 (doP ih iN (ccD ⟨kd, ⟨wD, wU⟩, doc, l, o⟩) (ccZ ⟨kd, ⟨wD, wU⟩, doc, l, o⟩ z) (ccF ⟨kd, ⟨wD, wU⟩, doc, l, o⟩ z f) (ccL ⟨kd, ⟨wD, wU⟩, doc, l, o⟩) ver hash aD aU dI dV dh kd pz pf po wD wU)], []⟩ := by
 have hlz : (pOk l && zOk z l) = true := by rw [hl, hz]; rfl
 unfold g40 doP
 rw [Jnv, Jnw, Jnx, Jny, Jve, JqF, JqG, JqH, JqI, Jvd]
 simp only [Jal, Jbj]
 cases h1 : (kd == 1) with
 | true =>
  simp only [cond_true]
  refine (Ja ho).trans ?_
  cases h2 : (ckO o != 0) with
  | true => rfl
  | false =>
   refine (Jj rfl).trans (Ja ?_)
   rw [JmI ho (by simpa using h2), decide_eq_true hd]; rfl
 | false =>
  simp only [cond_false]
  cases h3 : decide (zi o.length > 0) with
  | true => cases h2 : (kd == 2) <;> rfl
  | false =>
   cases h2 : (kd == 2) <;> exact Ja hlz
def JiB : List PV -> List Ent -> (Res -> Option Res) -> Option Res
 | [.ptr 0 [], .ro 113 oz of o], [.box false 98 (.st 98 [.st 39 [.st 34 [.sc (.int .i64 ih), .sc (.int .i64 iN)], .sc (.string doc), .ro 42 z f l, .sc (.int .i64 ver), .ar 37 hash], .st 53 [.st 42 [.sc (.int .i64 aD), .sc (.int .i64 aU)], .sc (.int .i64 dI), .sc (.int .i64 dV), .ar 37 dh, .sc (.int .i64 kd), .ro 113 pz pf po, .st 42 [.sc (.int .i64 wD), .sc (.int .i64 wU)]]])], k =>
  bif cOk o && (decide (doc.size <= 10000) && (pOk l && zOk z l)) then k ⟨.sc (.int .i64 (ccE ⟨kd, ⟨wD, wU⟩, doc, l, o⟩)), [.box false 98 (.st 98 [.st 39 [.st 34 [.sc (.int .i64 ih), .sc (.int .i64 iN)], .sc (.string (ccD ⟨kd, ⟨wD, wU⟩, doc, l, o⟩)), .ro 42 (ccZ ⟨kd, ⟨wD, wU⟩, doc, l, o⟩ z) (ccF ⟨kd, ⟨wD, wU⟩, doc, l, o⟩ z f) (ccL ⟨kd, ⟨wD, wU⟩, doc, l, o⟩), .sc (.int .i64 ver), .ar 37 hash], .st 53 [.st 42 [.sc (.int .i64 aD), .sc (.int .i64 aU)], .sc (.int .i64 dI), .sc (.int .i64 dV), .ar 37 dh, .sc (.int .i64 kd), .ro 113 pz pf po, .st 42 [.sc (.int .i64 wD), .sc (.int .i64 wU)]]])], []⟩ else none
 | _, _, _ => none
def JAu : Sig := { own := [true], run := JiB }
theorem JAv : Jh tau Try.prog 40 JAu := Jh.mk' fun xs es k res hl hr => by
 change JiB xs es k = some res at hr
 unfold JiB at hr
 split at hr
 · rename_i oz of o ih iN doc z f l ver hash aD aU dI dV dh kd pz pf po wD wU
   obtain ⟨hc, hr⟩ := JI hr
   simp only [Bool.and_eq_true, decide_eq_true_eq] at hc
   obtain ⟨c1, c2, c3, c4⟩ := hc
   exact Qk Jr Jnu Js JAs JAt (JqD (Jcu 1)) [.ro] 1 0 (JDF 1) hl rfl ((e40 1 ih iN doc z f l ver hash aD aU dI dV dh kd pz pf po wD wU oz of o k).trans ((Jvf ih iN doc z f l ver hash aD aU dI dV dh kd pz pf po wD wU oz of o c1 c2 c3 c4 k).trans hr))
 · cases hr
end
end Go.Proofs.Ythpmachmnoljeaa.Rx
