/- What the functions of this law compute, and their plain laws. Conditions: none. -/
import Derived.Test.YthpmachmnoljeaaGreatWaveletTurnedP3
namespace Go.Proofs.YthpmachmnoljeaaGreat.Rx
noncomputable section
open Go
set_option linter.unusedVariables false
set_option linter.unusedSimpArgs false
set_option maxRecDepth 100000
set_option maxHeartbeats 0
def F33 : Fns := Jr 66 JE4 (Jr 47 JEJ (Jr 20 JLK (F0)))
theorem JFz : Jp tau Tryz.prog F33 := (((Js).add JLL JFy).add JBz JKj).add JBN JKJ
def JFA : An := (.seq .leaf (.seq .leaf (.seq .leaf (.seq .leaf (.seq .leaf .leaf)))))
abbrev Ya (y2 : List PV) (y3 : List PV) (at1 : Int) (o : List PV) := (JZ (EV.mk (List.take (0 + y2.length) y2) y3 at1 (List.take (0 + o.length) o)))
abbrev Jac (prev : List PV) (y2 : List PV) (y3 : List PV) (at1 : Int) (o : List PV) := (List.take (0 + (List.take 32 prev).length + (List.take (Ya y2 y3 at1 o).length (pu IntKind.u8 (Ya y2 y3 at1 o))).length) (List.take (0 + (List.take 32 prev).length) (List.take 32 prev) ++ List.take (Ya y2 y3 at1 o).length (pu IntKind.u8 (Ya y2 y3 at1 o))))
abbrev Ji7 (prev : List PV) (y2 : List PV) (y3 : List PV) (at1 : Int) (o : List PV) := (List.take ((Ya y2 y3 at1 o).length + (List.take 32 (pu IntKind.u8 (JX (JC (Jac prev y2 y3 at1 o))))).length) (List.take (Ya y2 y3 at1 o).length (pu IntKind.u8 (Ya y2 y3 at1 o)) ++ List.take 32 (pu IntKind.u8 (JX (JC (Jac prev y2 y3 at1 o))))))
def g33 (f : Nat) (k0_z k0_f : Bool) (k0 : List PV) (k1_z k1_f : Bool) (k1 : List PV) (k2_z k2_f : Bool) (k2 : List PV) (host : Int) (prev : List PV) (y0 y1 : Bool) (y2 y3 : List PV) (at1 : Int) (o_z o_f : Bool) (o : List PV) (k : KR) : OR := bif Je (0 + y2.length) 1 && true then bif Je (0 + o.length) 32 && true then bif Je (0 + (List.take 32 prev).length) 1 && true then bif eOk (EV.mk (List.take (0 + y2.length) y2) y3 at1 (List.take (0 + o.length) o)) then bif Je (0 + (List.take 32 prev).length + (List.take (Ya y2 y3 at1 o).length (pu IntKind.u8 (Ya y2 y3 at1 o))).length) 1 && true then bif Jk IntKind.u8 (Jac prev y2 y3 at1 o) && decide ((Jac prev y2 y3 at1 o).length <= 140737488355000) then bif decide (0 <= host) && decide (host < zi 3) && true then bif PV.isRo 5 (Jq (PV.st 39 [.ro 5 k0_z k0_f k0, .ro 5 k1_z k1_f k1, .ro 5 k2_z k2_f k2]) [host.toNat]) && true then bif eOk (EV.mk (List.take (0 + y2.length) y2) y3 at1 (List.take (0 + o.length) o)) then bif Je ((Ya y2 y3 at1 o).length + (List.take 32 (pu IntKind.u8 (JX (JC (Jac prev y2 y3 at1 o))))).length) 1 && true then bif Jk IntKind.u8 (Jq (PV.st 39 [.ro 5 k0_z k0_f k0, .ro 5 k1_z k1_f k1, .ro 5 k2_z k2_f k2]) [host.toNat]).els && decide ((Jq (PV.st 39 [.ro 5 k0_z k0_f k0, .ro 5 k1_z k1_f k1, .ro 5 k2_z k2_f k2]) [host.toNat]).els.length <= 1000000000) && (Jk IntKind.u8 (Ji7 prev y2 y3 at1 o) && decide ((Ji7 prev y2 y3 at1 o).length <= 1000000000)) then k (Res.mk (.st 34 [.st 30 [.ro 5 false false (List.take (0 + y2.length) y2), .ar 28 y3], .sc (.int .i64 at1), .ro 53 false false (List.take (0 + o.length) o), .ar 28 (pu IntKind.u8 (JX (JC (Jac prev y2 y3 at1 o)))), .ar 28 (pu IntKind.u8 (Jgj (JC (Jq (PV.st 39 [.ro 5 k0_z k0_f k0, .ro 5 k1_z k1_f k1, .ro 5 k2_z k2_f k2]) [host.toNat]).els) (JC (Ji7 prev y2 y3 at1 o))))]) [] []) else none else none else none else none else none else none else none else none else none else none else none
theorem e33 (f : Nat) (k0_z k0_f : Bool) (k0 : List PV) (k1_z k1_f : Bool) (k1 : List PV) (k2_z k2_f : Bool) (k2 : List PV) (host : Int) (prev : List PV) (y0 y1 : Bool) (y2 y3 : List PV) (at1 : Int) (o_z o_f : Bool) (o : List PV) (k : KR) : JI tau F33 Tryz.f33 (Tryz.f33.body.get!) JFA [.ro] 0 [.st 39 [.ro 5 k0_z k0_f k0, .ro 5 k1_z k1_f k1, .ro 5 k2_z k2_f k2], .sc (.int .i64 host), .ar 28 prev, .st 30 [.ro 5 y0 y1 y2, .ar 28 y3], .sc (.int .i64 at1), .ro 53 o_z o_f o] [] k = g33 f k0_z k0_f k0 k1_z k1_f k1 k2_z k2_f k2 host prev y0 y1 y2 y3 at1 o_z o_f o k := by kernel_rfl
theorem JP4 (f : Nat) : ∀ q ∈ Jf (Tryz.f33.body.get!) JFA, q.Ok tau Tryz.prog 0 := Jv (by kernel_rfl)
theorem JLM : Tryz.prog.funcs[33]? = some Tryz.f33 := by kernel_rfl
theorem JLN : Tryz.f33.body = some (Tryz.f33.body.get!) := by kernel_rfl
theorem JP5 : Enters Tryz.prog 33 := enters_of JLM (by kernel_rfl) JLN
def JuU : Jy
 | [.st 39 [.ro 5 k0_z k0_f k0, .ro 5 k1_z k1_f k1, .ro 5 k2_z k2_f k2], .sc (.int .i64 host), .ar 28 prev, .st 30 [.ro 5 y0 y1 y2, .ar 28 y3], .sc (.int .i64 at1), .ro 53 o_z o_f o], [], k => g33 0 k0_z k0_f k0 k1_z k1_f k1 k2_z k2_f k2 host prev y0 y1 y2 y3 at1 o_z o_f o k
 | _, _, _ => none
def s33 : Sig := { own := [], run := JuU }
theorem JP6 : Jc tau Tryz.prog 33 s33 := JN Jn JFz Jo JLM JLN JFA [.ro] 0 [] JuU (JP4 0) fun xs es k res hr => by
 unfold JuU at hr
 split at hr
 · exact ⟨rfl, 0, (e33 0 _ _ _ _ _ _ _ _ _ _ _ _ _ _ _ _ _ _ _  _).trans hr⟩
 · cases hr

structure PA where
 (l : List PV) (b : List PV)
def kOk (l : List PV) : Bool := Jk .u8 l && decide (l.length <= 1000000000)
theorem Jy1 {z0 f0 z1 f1 z2 f2 : Bool} {k0 k1 k2 : List PV} (h0 : kOk k0 = true) (h1 : kOk k1 = true) (h2 : kOk k2 = true) (d : Int) : kOk (Jis ⟨[.ro 5 z0 f0 k0, .ro 5 z1 f1 k1, .ro 5 z2 f2 k2], d⟩) = true := by
 rw [JpQ]
 show kOk (JkG _ d).els = true
 unfold JkG
 cases h : X6 d 2 with
 | false => rfl
 | true =>
  simp only [X6, Bool.and_eq_true, decide_eq_true_eq] at h
  have : d = 0 ∨ d = 1 ∨ d = 2 := by omega
  rcases this with rfl | rfl | rfl
  · exact h0
  · exact h1
  · exact h2
def h32 : List PV -> Bool := hid fun h => Jk .u8 h && decide (h.length = 32)
theorem h32_iff {h : List PV} : h32 h = true ↔ Jk .u8 h = true /\ h.length = 32 := by rw [h32, hid_eq, Bool.and_eq_true, decide_eq_true_eq]
def kO3 : List PV -> Bool := hid fun l => l.all fun p => kOk p.els
theorem Jqm {z0 f0 z1 f1 z2 f2 : Bool} {k0 k1 k2 : List PV} : kO3 [.ro 5 z0 f0 k0, .ro 5 z1 f1 k1, .ro 5 z2 f2 k2] = true ↔ kOk k0 = true /\ kOk k1 = true /\ kOk k2 = true := by
 rw [kO3, hid_eq]; simp [PV.els]
structure MK where
 (l : List PV) (d : Int) (t : List Int)
def mcK : MK -> List Int := hid fun m => Jgj (JC (Jis ⟨m.l, m.d⟩)) m.t
theorem JnQ (m : MK) : mcK m = Jgj (JC (Jis ⟨m.l, m.d⟩)) m.t := by rw [mcK, hid_eq]
theorem JnR (m : MK) : (mcK m).length = 32 := by rw [JnQ]; exact JkP _ _
structure NX where
 (p : List PV) (e : EV)
def nxP : NX -> List Int := hid fun x => JX (JC x.p ++ JZ x.e)
theorem Jfz (x : NX) : nxP x = JX (JC x.p ++ JZ x.e) := by rw [nxP, hid_eq]
theorem Yb (x : NX) : (nxP x).length = 32 := by rw [Jfz]; exact Qw _
structure EM where
 (l : List PV) (d : Int) (e : EV) (h : List PV)
def emP : EM -> List Int := hid fun x => mcK ⟨x.l, x.d, JZ x.e ++ JC x.h⟩
theorem JFB (x : EM) : emP x = mcK ⟨x.l, x.d, JZ x.e ++ JC x.h⟩ := by rw [emP, hid_eq]
structure EC where
 (l : List PV) (d : Int) (e : EV) (h m : List PV)
structure SO where
 (l b m : List PV)
theorem VG {a b : List PV} (h : Jk .u8 a = true) (h' : Jk .u8 b = true) : Jk .u8 (a ++ b) = true := by
 induction a with
 | nil => exact h'
 | cons p ps ih =>
  have e : ∀ l : List PV, Jk .u8 (p :: l) = (p.isInt .u8 && Jk .u8 l) := fun l => rfl
  rw [e, Bool.and_eq_true] at h
  rw [List.cons_append, e, Bool.and_eq_true]; exact ⟨h.1, ih h.2⟩
theorem Jg5 (a b : List PV) : JC (a ++ b) = JC a ++ JC b := by simp [JC]
theorem JuV {z0 f0 z1 f1 z2 f2 : Bool} {k0 k1 k2 : List PV} (h : kO3 [.ro 5 z0 f0 k0, .ro 5 z1 f1 k1, .ro 5 z2 f2 k2] = true) {d : Int} (hd : X6 d 2 = true) :
  PV.isRo 5 (Jq (PV.st 39 [.ro 5 z0 f0 k0, .ro 5 z1 f1 k1, .ro 5 z2 f2 k2]) [d.toNat]) = true /\ (Jq (PV.st 39 [.ro 5 z0 f0 k0, .ro 5 z1 f1 k1, .ro 5 z2 f2 k2]) [d.toNat]).els = Jis ⟨[.ro 5 z0 f0 k0, .ro 5 z1 f1 k1, .ro 5 z2 f2 k2], d⟩ := by
 rw [JpQ, JkG, hd]
 simp only [X6, Bool.and_eq_true, decide_eq_true_eq] at hd
 have : d = 0 ∨ d = 1 ∨ d = 2 := by omega
 rcases this with rfl | rfl | rfl <;> exact ⟨rfl, rfl⟩
theorem JuW {z0 f0 z1 f1 z2 f2 : Bool} {k0 k1 k2 : List PV} (h : kO3 [.ro 5 z0 f0 k0, .ro 5 z1 f1 k1, .ro 5 z2 f2 k2] = true) (d : Int) : Jk .u8 (Jis ⟨[.ro 5 z0 f0 k0, .ro 5 z1 f1 k1, .ro 5 z2 f2 k2], d⟩) = true /\ (Jis ⟨[.ro 5 z0 f0 k0, .ro 5 z1 f1 k1, .ro 5 z2 f2 k2], d⟩).length <= 1000000000 := by
 obtain ⟨a, b, c⟩ := Jqm.1 h
 have := Jy1 (z0 := z0) (f0 := f0) (z1 := z1) (f1 := f1) (z2 := z2) (f2 := f2) a b c d
 rw [kOk, Bool.and_eq_true, decide_eq_true_eq] at this; exact this
theorem JrH {d : DV} (h : dOk d = true) : (dlB d).length <= 65618 := by rw [Zw h]; have := (Zv.1 h).2.2.2; omega
theorem JdA {e : EV} (h : eOk e = true) : (JZ e).length <= 131114 := by rw [XK h]; have := Qx.1 h; omega
/-! sign.Delta, ref9.Delta -/
def JnS : Jy
 | [.st 39 [.ro 5 z0 f0 k0, .ro 5 z1 f1 k1, .ro 5 z2 f2 k2], .st 105 [.st 67 [.sc (.int .i64 ad), .sc (.int .i64 au)], .sc (.int .i64 id1), .sc (.int .i64 ve), .ar 28 h, .sc (.int .i64 kd), .ro 53 oz of o, .st 67 [.sc (.int .i64 wd), .sc (.int .i64 wu)]]], [], k =>
  bif dOk ⟨ad, au, id1, ve, h, kd, o, wd, wu⟩ && (kO3 [.ro 5 z0 f0 k0, .ro 5 z1 f1 k1, .ro 5 z2 f2 k2] && kIn ad) then
   k ⟨.st 30 [.ro 5 false false (pu .u8 (dlB ⟨ad, au, id1, ve, h, kd, o, wd, wu⟩)), .ar 28 (pu .u8 (mcK ⟨[.ro 5 z0 f0 k0, .ro 5 z1 f1 k1, .ro 5 z2 f2 k2], ad, dlB ⟨ad, au, id1, ve, h, kd, o, wd, wu⟩⟩))], [], []⟩ else none
 | _, _, _ => none
def JLO : Sig := { own := [], run := JnS }
theorem JLP : Jc tau Tryz.prog 44 JLO := JPJ.of fun xs es k res hr => by
 change JnS xs es k = some res at hr
 unfold JnS at hr
 split at hr
 · rename_i z0 f0 k0 z1 f1 k1 z2 f2 k2 ad au id1 ve h kd oz of o wd wu
   obtain ⟨hc, hr⟩ := Ju hr
   simp only [Bool.and_eq_true] at hc
   have hK := JuW hc.2.1 ad
   have hs := JrH hc.1
   have hin := hc.2.2
   rw [Jfh] at hin
   obtain ⟨q1, q2⟩ := JuV hc.2.1 hin
   have htp : ∀ l : List Int, List.take l.length (pu .u8 l) = pu .u8 l := fun l => List.take_of_length_le (by simp)
   simp only [X6, Bool.and_eq_true, decide_eq_true_eq] at hin
   refine Eq.trans ?_ hr
   show g44 0 z0 f0 k0 z1 f1 k1 z2 f2 k2 ad au id1 ve h kd oz of o wd wu k = _
   unfold g44 Jfq
   simp only [q2, htp, JO, WL, JD]
   refine (Ja hc.1).trans ((Ja (by simp [zi]; omega)).trans ((Ja (by rw [q1]; rfl)).trans ((Ja (by rw [hK.1]; simp; omega)).trans ?_)))
   rw [JnQ]
 · cases hr
/-! sign.Open, ref9.Open -/
/-! entries -/
def JnT : Jy
 | [.st 39 [.ro 5 z0 f0 k0, .ro 5 z1 f1 k1, .ro 5 z2 f2 k2], .sc (.int .i64 ho), .ar 28 pr, .st 30 [.ro 5 z f b, .ar 28 m], .sc (.int .i64 at1), .ro 53 oz of o], [], k =>
  bif (kIn ho && eOk ⟨b, m, at1, o⟩) && (h32 pr && kO3 [.ro 5 z0 f0 k0, .ro 5 z1 f1 k1, .ro 5 z2 f2 k2]) then
   k ⟨.st 34 [.st 30 [.ro 5 false false b, .ar 28 m], .sc (.int .i64 at1), .ro 53 false false o, .ar 28 (pu .u8 (nxP ⟨pr, ⟨b, m, at1, o⟩⟩)), .ar 28 (pu .u8 (emP ⟨[.ro 5 z0 f0 k0, .ro 5 z1 f1 k1, .ro 5 z2 f2 k2], ho, ⟨b, m, at1, o⟩, pu .u8 (nxP ⟨pr, ⟨b, m, at1, o⟩⟩)⟩))], [], []⟩ else none
 | _, _, _ => none
def JLQ : Sig := { own := [], run := JnT }
theorem JLR : Jc tau Tryz.prog 33 JLQ := JP6.of fun xs es k res hr => by
 change JnT xs es k = some res at hr
 unfold JnT at hr
 split at hr
 · rename_i z0 f0 k0 z1 f1 k1 z2 f2 k2 ho pr z f b m at1 oz of o
   obtain ⟨hc, hr⟩ := Ju hr
   simp only [Bool.and_eq_true] at hc
   have hK := JuW hc.2.2 ho
   have hin := hc.1.1
   rw [Jfh] at hin
   obtain ⟨q1, q2⟩ := JuV hc.2.2 hin
   simp only [X6, Bool.and_eq_true, decide_eq_true_eq] at hin
   obtain ⟨p1, p2⟩ := h32_iff.1 hc.2.1
   have hcl := JdA hc.1.2
   have heo := Qx.1 hc.1.2
   have hbl : b.length <= 65535 := heo.2.1
   have hol : o.length <= 1000 := (JbB.1 heo.2.2.2.2.1).2.2
   have hnl := Yb ⟨pr, ⟨b, m, at1, o⟩⟩
   have htp : List.take 32 pr = pr := List.take_of_length_le (by omega)
   have htc : List.take (JZ ⟨b, m, at1, o⟩).length (pu .u8 (JZ ⟨b, m, at1, o⟩)) = pu .u8 (JZ ⟨b, m, at1, o⟩) := List.take_of_length_le (by simp)
   have htn : List.take (pr.length + (JZ ⟨b, m, at1, o⟩).length) (pr ++ pu .u8 (JZ ⟨b, m, at1, o⟩)) = pr ++ pu .u8 (JZ ⟨b, m, at1, o⟩) := List.take_of_length_le (by simp)
   have hth : List.take 32 (pu .u8 (nxP ⟨pr, ⟨b, m, at1, o⟩⟩)) = pu .u8 (nxP ⟨pr, ⟨b, m, at1, o⟩⟩) := List.take_of_length_le (by rw [JD]; omega)
   have hte : List.take ((JZ ⟨b, m, at1, o⟩).length + (nxP ⟨pr, ⟨b, m, at1, o⟩⟩).length) (pu .u8 (JZ ⟨b, m, at1, o⟩) ++ pu .u8 (nxP ⟨pr, ⟨b, m, at1, o⟩⟩)) = pu .u8 (JZ ⟨b, m, at1, o⟩) ++ pu .u8 (nxP ⟨pr, ⟨b, m, at1, o⟩⟩) := List.take_of_length_le (by simp)
   have hnx : JX (JC pr ++ JZ ⟨b, m, at1, o⟩) = nxP ⟨pr, ⟨b, m, at1, o⟩⟩ := by rw [Jfz]
   have hem : Jgj (JC (Jis ⟨[.ro 5 z0 f0 k0, .ro 5 z1 f1 k1, .ro 5 z2 f2 k2], ho⟩)) (JZ ⟨b, m, at1, o⟩ ++ nxP ⟨pr, ⟨b, m, at1, o⟩⟩) = emP ⟨[.ro 5 z0 f0 k0, .ro 5 z1 f1 k1, .ro 5 z2 f2 k2], ho, ⟨b, m, at1, o⟩, pu .u8 (nxP ⟨pr, ⟨b, m, at1, o⟩⟩)⟩ := by rw [JFB, JnQ, WL]
   refine Eq.trans ?_ hr
   show g33 0 z0 f0 k0 z1 f1 k1 z2 f2 k2 ho pr z f b m at1 oz of o k = _
   unfold g33 Ji7 Jac Ya
   simp only [List.take_length, Nat.zero_add, htp, htc, JD, htn, Jg5, WL, hnx, hth, hte, q2, hem]
   refine (Ja (by simp [Je]; omega)).trans ((Ja (by simp [Je]; omega)).trans ((Ja (by simp [Je]; omega)).trans ((Ja hc.1.2).trans ((Ja (by simp [Je]; omega)).trans ((Ja (by rw [VG p1 (JO _ _)]; simp; omega)).trans ((Ja (by simp [zi]; omega)).trans ((Ja (by rw [q1]; rfl)).trans ((Ja hc.1.2).trans ((Ja (by simp [Je]; omega)).trans ((Ja (by rw [hK.1, VG (JO _ _) (JO _ _)]; simp; omega)).trans ?_))))))))))
   rfl
 · cases hr
def JnU : Jy
 | [.ar 28 pr, .st 34 [.st 30 [.ro 5 z f b, .ar 28 m], .sc (.int .i64 at1), .ro 53 oz of o, .ar 28 h, .ar 28 mc]], [], k =>
  bif h32 pr && eOk ⟨b, m, at1, o⟩ then k ⟨.ar 28 (pu .u8 (nxP ⟨pr, ⟨b, m, at1, o⟩⟩)), [], []⟩ else none
 | _, _, _ => none
def JFC : Sig := { own := [], run := JnU }
theorem JB7 : Jc tau Tryz.prog 20 JFC := JLJ.of fun xs es k res hr => by
 change JnU xs es k = some res at hr
 unfold JnU at hr
 split at hr
 · rename_i pr z f b m at1 oz of o h mc
   obtain ⟨hc, hr⟩ := Ju hr
   rw [Bool.and_eq_true] at hc
   obtain ⟨p1, p2⟩ := h32_iff.1 hc.1
   have hcl := JdA hc.2
   have htp : List.take 32 pr = pr := List.take_of_length_le (by omega)
   have htc : List.take (JZ ⟨b, m, at1, o⟩).length (pu .u8 (JZ ⟨b, m, at1, o⟩)) = pu .u8 (JZ ⟨b, m, at1, o⟩) := List.take_of_length_le (by simp)
   have htn : List.take (pr.length + (JZ ⟨b, m, at1, o⟩).length) (pr ++ pu .u8 (JZ ⟨b, m, at1, o⟩)) = pr ++ pu .u8 (JZ ⟨b, m, at1, o⟩) := List.take_of_length_le (by simp)
   refine Eq.trans ?_ hr
   show g20 0 pr z f b m at1 oz of o h mc k = _
   unfold g20 Ji6
   simp only [List.take_length, Nat.zero_add, htp, htc, JD, htn, Jg5, WL]
   refine (Ja (by simp [Je]; omega)).trans ((Ja hc.2).trans ((Ja (by simp [Je]; omega)).trans ((Ja (by rw [VG p1 (JO _ _)]; simp; omega)).trans ?_)))
   rw [Jfz]
 · cases hr
def JuX : Nat := 25
def JFD : Fns := F0
theorem Jqn : Jp tau Tryz.prog JFD := Js
def Ji8 : Code := Qd (Tryz.f111.body.get!) [1, 1, 0, 1, 0, 0]
def JbU : Nm := [(0, .any), (3, .any), (4, .any)]
def Ji9 : Nm := [(3, .any)]
def JnV : An := (.seq (.seq .leaf (.cond .leaf .leaf)) (.seq (.block none (.seq .leaf (.cond .leaf .leaf))) .leaf))
def Jqo (r0 : Qt) : An := (.seq .leaf (.seq .leaf (.seq (.seq .leaf (.block none (.sum JbU JuX r0))) (.seq .leaf .leaf))))
abbrev Jqp := Bool -> Bool -> List PV -> Int -> Int -> OR
abbrev Yw (v2 : List PV) (v4 : Int) := (PV.isSt 53 #[Field.mk "Kind" 3 0 false "" "" 0, Field.mk "N" 3 1 false "" "" 8, Field.mk "S" 9 2 false "" "" 16].size (v2.getD v4.toNat PV.top) && (PV.isInt IntKind.i64 (PV.child 0 (v2.getD v4.toNat PV.top)) && (PV.isInt IntKind.i64 (PV.child (0 + 1) (v2.getD v4.toNat PV.top)) && ((PV.child (0 + 1 + 1) (v2.getD v4.toNat PV.top)).isStr && true))))
def VH (f : Nat) (rc : Jqp) (k0 : Int -> OR) (v0 v1 : Bool) (v2 : List PV) (v3 v4 : Int) : OR := bif decide (v4 < zi v2.length) then bif decide (0 <= v4) && decide (v4 < zi v2.length) && (Yw v2 v4) && true then bif (PV.child 0 (v2.getD v4.toNat PV.top)).int != 2 then bif decide (0 <= v4) && decide (v4 < zi v2.length) && (Yw v2 v4) && true then rc v0 v1 v2 (IntKind.i64.wrap (v3 + (PV.child (0 + 1) (v2.getD v4.toNat PV.top)).int)) (IntKind.i64.wrap (v4 + 1)) else none else rc v0 v1 v2 v3 (IntKind.i64.wrap (v4 + 1)) else none else k0 v3
def ZJ (f : Nat) (k0 : Int -> OR) : Nat -> Jqp
 | 0 => fun _ _ _ _ _ => none
 | n + 1 => VH f (ZJ f k0 n) k0
def Gc (k : Kont) := fun x0 => k (Ex.exit 0) (Ji Ji9 JuX [.sc (.int .i64 x0)] [])
def Jja (f : Nat) (k : Kont) (n : Nat) (v0 v1 : Bool) (v2 : List PV) (v3 v4 : Int) : OR := Jx tau 0 JbU (fun s k => ev tau JFD 0 0 Ji8 (JnV ) s k) n (Ji JbU JuX [.ro 53 v0 v1 v2, .sc (.int .i64 v3), .sc (.int .i64 v4)] []) (JG tau 0 Ji9 k)
theorem JuY (f : Nat) (k : Kont) (n : Nat) : Jja f k (n + 1) = VH f (Jja f k n) (Gc k) := by kernel_rfl
theorem JkY (f : Nat) (k : Kont) : ∀ n, Jja f k n = ZJ f (Gc k) n
 | 0 => rfl
 | n + 1 => (JuY f k n).trans (congrArg (fun r => VH f r (Gc k)) (JkY f k n))
def Jad (f : Nat) : List PV -> List (Nat × Ent) -> Kont -> OR
 | [.ro 53 v0 v1 v2, .sc (.int .i64 v3),
 .sc (.int .i64 v4)], [], k => ZJ f (Gc k) f v0 v1 v2 v3 v4
 | _, _, _ => none
theorem Jy2 (f : Nat) : Jf Ji8 JnV = [] := by kernel_rfl
theorem Jy3 (f : Nat) : (Item.l Ji8 JbU JuX (Jad f)).Ok tau Tryz.prog 0 := Jt Jn Jqn Jo (x := JnV) (nm2 := Ji9) (Jl _ _ (by rw [Jy2 f]; intro q hq; cases hq)) fun vs hp k res hr => by
 unfold Jad at hr
 split at hr
 · rw [← JkY f] at hr; exact ⟨f, 0, hr⟩
 · cases hr
def JLS (f : Nat) (o_z o_f : Bool) (o : List PV) (k : KR) : OR := ZJ f (fun x0_0 => k (Res.mk (.sc (.int .i64 x0_0)) [] [])) f o_z o_f o (0) (0)
theorem JP7 (f : Nat) (o_z o_f : Bool) (o : List PV) (k : KR) : JI tau JFD Tryz.f111 (Tryz.f111.body.get!) (Jqo (Jad f)) [.ro] 0 [.ro 53 o_z o_f o] [] k = JLS f o_z o_f o k := by kernel_rfl
theorem JLT (f : Nat) : Jf (Tryz.f111.body.get!) (Jqo (Jad f)) = [.l Ji8 JbU JuX (Jad f)] := by kernel_rfl
theorem JLU (f : Nat) : ∀ q ∈ Jf (Tryz.f111.body.get!) (Jqo (Jad f)), q.Ok tau Tryz.prog 0 := by rw [JLT f]; exact JJ (Jy3 f) (fun _ h => nomatch h)
theorem JB8 : Tryz.prog.funcs[111]? = some Tryz.f111 := by kernel_rfl
theorem JB9 : Tryz.f111.body = some (Tryz.f111.body.get!) := by kernel_rfl
theorem JLV : Enters Tryz.prog 111 := enters_of JB8 (by kernel_rfl) JB9
def JuZ : Nat := 33
def JFE : Fns := F0
theorem Jqq : Jp tau Tryz.prog JFE := Js
def Jjb : Code := Qd (Tryz.f112.body.get!) [1, 1, 0, 1, 0, 0]
def JbV : Nm := [(0, .any), (3, .any), (4, .any)]
def Jjc : Nm := [(3, .any)]
def JnW : An := (.seq (.seq .leaf (.cond .leaf .leaf)) (.seq (.block none (.seq (.seq .leaf (.cond .leaf .leaf)) .leaf)) .leaf))
def Jqr (r0 : Qt) : An := (.seq .leaf (.seq .leaf (.seq (.seq .leaf (.block none (.sum JbV JuZ r0))) (.seq .leaf .leaf))))
abbrev Jqs := Bool -> Bool -> List PV -> Int -> Int -> OR
abbrev Wy (v2 : List PV) (v4 : Int) := (PV.isSt 53 #[Field.mk "Kind" 3 0 false "" "" 0, Field.mk "N" 3 1 false "" "" 8, Field.mk "S" 9 2 false "" "" 16].size (v2.getD v4.toNat PV.top) && (PV.isInt IntKind.i64 (PV.child 0 (v2.getD v4.toNat PV.top)) && (PV.isInt IntKind.i64 (PV.child (0 + 1) (v2.getD v4.toNat PV.top)) && ((PV.child (0 + 1 + 1) (v2.getD v4.toNat PV.top)).isStr && true))))
def VI (f : Nat) (rc : Jqs) (k0 : Int -> OR) (v0 v1 : Bool) (v2 : List PV) (v3 v4 : Int) : OR := bif decide (v4 < zi v2.length) then bif decide (0 <= v4) && decide (v4 < zi v2.length) && (Wy v2 v4) && true then bif (PV.child 0 (v2.getD v4.toNat PV.top)).int == 1 then bif decide (0 <= v4) && decide (v4 < zi v2.length) && (Wy v2 v4) && true then bif decide (0 <= v4) && decide (v4 < zi v2.length) && (Wy v2 v4) && true then rc v0 v1 v2 (IntKind.i64.wrap (IntKind.i64.wrap (v3 + (PV.child (0 + 1) (v2.getD v4.toNat PV.top)).int) + zi (PV.child (0 + 1 + 1) (v2.getD v4.toNat PV.top)).str.size)) (IntKind.i64.wrap (v4 + 1)) else none else none else bif decide (0 <= v4) && decide (v4 < zi v2.length) && (Wy v2 v4) && true then rc v0 v1 v2 (IntKind.i64.wrap (v3 + zi (PV.child (0 + 1 + 1) (v2.getD v4.toNat PV.top)).str.size)) (IntKind.i64.wrap (v4 + 1)) else none else none else k0 v3
def ZK (f : Nat) (k0 : Int -> OR) : Nat -> Jqs
 | 0 => fun _ _ _ _ _ => none
 | n + 1 => VI f (ZK f k0 n) k0
def Gd (k : Kont) := fun x0 => k (Ex.exit 0) (Ji Jjc JuZ [.sc (.int .i64 x0)] [])
def Jjd (f : Nat) (k : Kont) (n : Nat) (v0 v1 : Bool) (v2 : List PV) (v3 v4 : Int) : OR := Jx tau 0 JbV (fun s k => ev tau JFE 0 0 Jjb (JnW ) s k) n (Ji JbV JuZ [.ro 53 v0 v1 v2, .sc (.int .i64 v3), .sc (.int .i64 v4)] []) (JG tau 0 Jjc k)
theorem Ju0 (f : Nat) (k : Kont) (n : Nat) : Jjd f k (n + 1) = VI f (Jjd f k n) (Gd k) := by kernel_rfl
theorem JkZ (f : Nat) (k : Kont) : ∀ n, Jjd f k n = ZK f (Gd k) n
 | 0 => rfl
 | n + 1 => (Ju0 f k n).trans (congrArg (fun r => VI f r (Gd k)) (JkZ f k n))
def Jae (f : Nat) : List PV -> List (Nat × Ent) -> Kont -> OR
 | [.ro 53 v0 v1 v2, .sc (.int .i64 v3),
 .sc (.int .i64 v4)], [], k => ZK f (Gd k) f v0 v1 v2 v3 v4
 | _, _, _ => none
theorem Jy4 (f : Nat) : Jf Jjb JnW = [] := by kernel_rfl
theorem Jy5 (f : Nat) : (Item.l Jjb JbV JuZ (Jae f)).Ok tau Tryz.prog 0 := Jt Jn Jqq Jo (x := JnW) (nm2 := Jjc) (Jl _ _ (by rw [Jy4 f]; intro q hq; cases hq)) fun vs hp k res hr => by
 unfold Jae at hr
 split at hr
 · rw [← JkZ f] at hr; exact ⟨f, 0, hr⟩
 · cases hr
def JLW (f : Nat) (o_z o_f : Bool) (o : List PV) (k : KR) : OR := ZK f (fun x0_0 => k (Res.mk (.sc (.int .i64 x0_0)) [] [])) f o_z o_f o (0) (0)
theorem JP8 (f : Nat) (o_z o_f : Bool) (o : List PV) (k : KR) : JI tau JFE Tryz.f112 (Tryz.f112.body.get!) (Jqr (Jae f)) [.ro] 0 [.ro 53 o_z o_f o] [] k = JLW f o_z o_f o k := by kernel_rfl
theorem JLX (f : Nat) : Jf (Tryz.f112.body.get!) (Jqr (Jae f)) = [.l Jjb JbV JuZ (Jae f)] := by kernel_rfl
theorem JLY (f : Nat) : ∀ q ∈ Jf (Tryz.f112.body.get!) (Jqr (Jae f)), q.Ok tau Tryz.prog 0 := by rw [JLX f]; exact JJ (Jy5 f) (fun _ h => nomatch h)
theorem JCa : Tryz.prog.funcs[112]? = some Tryz.f112 := by kernel_rfl
theorem JCb : Tryz.f112.body = some (Tryz.f112.body.get!) := by kernel_rfl
theorem JLZ : Enters Tryz.prog 112 := enters_of JCa (by kernel_rfl) JCb
def okW : Int -> Bool := hid fun n => decide (0 < n) && decide (n < 1000000000000)
theorem Jaf (n : Int) : okW n = (decide (0 < n) && decide (n < 1000000000000)) := by rw [okW, hid_eq]
def kpP (k : Int) : PV := .st 53 [.sc (.int .i64 1), .sc (.int .i64 k), .sc (.string (ByteArray.mk #[]))]
def ctP (k : Int) : PV := .st 53 [.sc (.int .i64 3), .sc (.int .i64 k), .sc (.string (ByteArray.mk #[]))]
def ptP (s : ByteArray) : PV := .st 53 [.sc (.int .i64 2), .sc (.int .i64 0), .sc (.string s)]
def abc : ByteArray := ByteArray.mk (Array.mk [97, 98, 99, 100, 101, 102, 103, 104, 105, 106])
def zed : ByteArray := ByteArray.mk (Array.mk [122])
def Jgk (k : Int) : ByteArray := abc.extract 0 k.toNat
theorem Jg6 {k : Int} (h : 0 <= k) (h2 : k <= 10) : ((Jgk k).size : Int) = k := by
 have : (Jgk k).size = min k.toNat 10 - 0 := by simp [Jgk, abc, ByteArray.size_extract]; rfl
 omega
def mkK (x n : Int) : Int := 1 + IntKind.i64.wrap (x.tdiv 7) % Qg n 9
def mkS (x : Int) : Int := 1 + IntKind.i64.wrap (x.tdiv 7) % 5
theorem Jqt {n : Int} (h : 0 < n) : 0 < Qg n 9 /\ Qg n 9 <= n /\ Qg n 9 <= 9 := by unfold Qg; split <;> omega
def mkE (c : Bool) (n out : Int) : List PV := (bif decide (n > 0) then [kpP n] else []) ++ (bif c && decide (out <= 115) then [ptP zed] else [])
def Y1 (c : Bool) : Nat -> Int -> Int -> List PV -> List PV
 | 0, n, out, _ => mkE c n out
 | _ + 1, n, out, [] => mkE c n out
 | b + 1, n, out, p :: ps =>
  bif decide (n > 0) then
   (bif p.int % 4 == 0 || p.int % 4 == 1 then kpP (mkK p.int n) :: Y1 c b (n - mkK p.int n) out ps
   else bif p.int % 4 == 2 then ctP (mkK p.int n) :: Y1 c b (n - mkK p.int n) (out - mkK p.int n) ps
   else bif decide (out + mkS p.int <= 120) then ptP (Jgk (mkS p.int)) :: Y1 c b n (out + mkS p.int) ps
   else Y1 c b n out ps)
  else mkE c n out
def mkC (ns : List PV) : Bool := decide (ns.length > 0) && IntKind.i64.wrap ((ns.getD 0 .top).int.tdiv 3) % 3 == 0
structure MN where
 (n : Int) (ns : List PV)
def Q1 : MN -> List PV := hid fun x => Y1 (mkC x.ns) 12 x.n x.n x.ns
theorem Jk0 (x : MN) : Q1 x = Y1 (mkC x.ns) 12 x.n x.n x.ns := by rw [Q1, hid_eq]
def Jgl : Int -> List PV -> Bool := hid fun n ns => decide (0 <= n) && (decide (n <= 120) && (Jk .i64 ns && decide (ns.length <= 9223372036854775807)))
theorem JfA {n : Int} {ns : List PV} : Jgl n ns = true ↔ 0 <= n /\ n <= 120 /\ Jk .i64 ns = true /\ ns.length <= 9223372036854775807 := by
 rw [Jgl, hid_eq]; simp only [Bool.and_eq_true, decide_eq_true_eq]
def inC (c : CV) : Int := bif c.kd == 2 then 0 else c.n
def QO (c : CV) : Int := bif c.kd == 1 then c.n else c.s.size
def inL : List PV -> Int
 | [] => 0
 | p :: ps => inC (cv p) + inL ps
def outL : List PV -> Int
 | [] => 0
 | p :: ps => QO (cv p) + outL ps
structure MkOk (n done b : Int) (l : List PV) : Prop where
 cp : ∀ p ∈ l, isCp p = true
 ck : ∀ p ∈ l, ckC (cv p) = 0
 sz : ∀ p ∈ l, (cv p).s.size <= 10
 len : (l.length : Int) <= b
 inn : inL l = n
 out : done + outL l <= 120
 out0 : 0 <= outL l
theorem JbW {n n' done done' b : Int} {p : PV} {l : List PV} (h : MkOk n' done' b l) (h1 : isCp p = true) (h2 : ckC (cv p) = 0) (h3 : (cv p).s.size <= 10) (h4 : inC (cv p) + n' = n) (h5 : done + QO (cv p) = done') (h6 : 0 <= QO (cv p)) : MkOk n done (b + 1) (p :: l) where
 cp := fun q hq => (List.mem_cons.1 hq).elim (fun e => e ▸ h1) (fun m => h.cp q m)
 ck := fun q hq => (List.mem_cons.1 hq).elim (fun e => e ▸ h2) (fun m => h.ck q m)
 sz := fun q hq => (List.mem_cons.1 hq).elim (fun e => e ▸ h3) (fun m => h.sz q m)
 len := by have := h.len; simp only [List.length_cons]; omega
 inn := by have := h.inn; simp only [inL]; omega
 out := by have := h.out; simp only [outL]; omega
 out0 := by have := h.out0; simp only [outL]; omega
theorem ZX {n done b b' : Int} {l : List PV} (h : MkOk n done b l) (hb : b <= b') : MkOk n done b' l := { h with len := by have := h.len; omega }
theorem Jje {done : Int} (h : done <= 120) : MkOk 0 done 0 [] where
 cp := fun q hq => by cases hq
 ck := fun q hq => by cases hq
 sz := fun q hq => by cases hq
 len := by simp
 inn := rfl
 out := by simp only [outL]; omega
 out0 := by simp [outL]
theorem JCc {k : Int} (h : 1 <= k) (h2 : k <= 120) : ckC (cv (kpP k)) = 0 := by
 have e : cv (kpP k) = ⟨1, k, ByteArray.mk #[]⟩ := rfl
 rw [e, JcL]; unfold Jkz
 have hs : (ByteArray.mk #[]).size = 0 := rfl
 simp only [hs]
 rw [show (decide (k < 1)) = false from decide_eq_false (by omega), show (decide (k > 120)) = false from decide_eq_false (by omega)]; rfl
theorem JL0 {k : Int} (h : 1 <= k) (h2 : k <= 120) : ckC (cv (ctP k)) = 0 := by
 have e : cv (ctP k) = ⟨3, k, ByteArray.mk #[]⟩ := rfl
 rw [e, JcL]; unfold Jkz
 have hs : (ByteArray.mk #[]).size = 0 := rfl
 simp only [hs]
 rw [show (decide (k < 1)) = false from decide_eq_false (by omega), show (decide (k > 120)) = false from decide_eq_false (by omega)]; rfl
theorem JCd {s : ByteArray} (h : 1 <= s.size) (h2 : s.size <= 120) : ckC (cv (ptP s)) = 0 := by
 have e : cv (ptP s) = ⟨2, 0, s⟩ := rfl
 rw [e, JcL]; unfold Jkz
 rw [show (s.size == 0) = false from beq_false_of_ne (by omega)]
 refine (Jd rfl).trans ((Ja rfl).trans ((Jd rfl).trans (Jd (decide_eq_false (by show ¬ ((s.size : Int) > 120); omega)))))
theorem JnX (c : Bool) {n out : Int} (h : 0 <= n) (h2 : n <= out) (h3 : out <= 120) : MkOk n (out - n) 2 (mkE c n out) := by
 have hz : ∀ {d : Int}, d + 1 <= 120 -> MkOk 0 d 1 [ptP zed] := fun {d} hd =>
  JbW (n' := 0) (done' := d + 1) (Jje hd) rfl (JCd (by decide) (by decide)) (by show zed.size <= 10; decide) rfl rfl (by decide)
 unfold mkE
 cases hn : decide (n > 0) with
 | true =>
  have hn := of_decide_eq_true hn
  rw [cond_true, List.singleton_append]
  have e : ∀ {b : Int} {l : List PV}, MkOk 0 out b l -> MkOk n (out - n) (b + 1) (kpP n :: l) := fun hl =>
   JbW hl rfl (JCc (by omega) (by omega)) (by show (0 : Nat) <= 10; omega) (by show n + 0 = n; omega) (by show out - n + n = out; omega) (by show 0 <= n; omega)
  cases hc : (c && decide (out <= 115)) with
  | true => simp only [Bool.and_eq_true, decide_eq_true_eq] at hc; rw [cond_true]; exact e (hz (by omega))
  | false => rw [cond_false]; exact ZX (e (Jje h3)) (by omega)
 | false =>
  have hn := of_decide_eq_false hn
  have : n = 0 := by omega
  subst this
  rw [cond_false, List.nil_append, Int.sub_zero]
  cases hc : (c && decide (out <= 115)) with
  | true => simp only [Bool.and_eq_true, decide_eq_true_eq] at hc; rw [cond_true]; exact ZX (hz (by omega)) (by omega)
  | false => rw [cond_false]; exact ZX (Jje h3) (by omega)
theorem Ju1 {x n : Int} (h : 0 < n) : 1 <= mkK x n /\ mkK x n <= n /\ mkK x n <= 9 := by
 obtain ⟨m1, m2, m3⟩ := Jqt h
 have h1 := Int.emod_nonneg (IntKind.i64.wrap (x.tdiv 7)) (show Qg n 9 ≠ 0 by omega)
 have h2 := Int.emod_lt_of_pos (IntKind.i64.wrap (x.tdiv 7)) m1
 unfold mkK; omega
theorem Ju2 (x : Int) : 1 <= mkS x /\ mkS x <= 5 := by
 have h1 := Int.emod_nonneg (IntKind.i64.wrap (x.tdiv 7)) (show (5 : Int) ≠ 0 by omega)
 have h2 := Int.emod_lt_of_pos (IntKind.i64.wrap (x.tdiv 7)) (show (0 : Int) < 5 by omega)
 unfold mkS; omega
theorem JbX (c : Bool) : ∀ (b : Nat) (n out : Int) (ns : List PV), 0 <= n -> n <= out -> out <= 120 -> MkOk n (out - n) (b + 2) (Y1 c b n out ns)
 | 0, n, out, _, h, h2, h3 => ZX (JnX c h h2 h3) (by omega)
 | b + 1, n, out, [], h, h2, h3 => ZX (JnX c h h2 h3) (by omega)
 | b + 1, n, out, p :: ps, h, h2, h3 => by
  simp only [Y1]
  cases hn : decide (n > 0) with
  | false => rw [cond_false]; exact ZX (JnX c h h2 h3) (by omega)
  | true =>
   have hn := of_decide_eq_true hn
   obtain ⟨k1, k2, k3⟩ := Ju1 (x := p.int) hn
   obtain ⟨s1, s2⟩ := Ju2 p.int
   rw [cond_true]
   cases hc : (p.int % 4 == 0 || p.int % 4 == 1) with
   | true =>
    rw [cond_true]
    refine ZX (JbW (JbX c b (n - mkK p.int n) out ps (by omega) (by omega) h3) rfl (JCc k1 (by omega)) (by show (0 : Nat) <= 10; omega) (by show mkK p.int n + _ = _; omega) (by show out - n + mkK p.int n = _; omega) (by show 0 <= mkK p.int n; omega)) (by omega)
   | false =>
    rw [cond_false]
    cases hc2 : (p.int % 4 == 2) with
    | true =>
     rw [cond_true]
     refine ZX (JbW (JbX c b (n - mkK p.int n) (out - mkK p.int n) ps (by omega) (by omega) (by omega)) rfl (JL0 k1 (by omega)) (by show (0 : Nat) <= 10; omega) (by show mkK p.int n + _ = _; omega) (by show out - n + (0 : Int) = _; omega) (by show 0 <= (0 : Int); omega)) (by omega)
    | false =>
     rw [cond_false]
     cases hc3 : decide (out + mkS p.int <= 120) with
     | false => rw [cond_false]; exact ZX (JbX c b n out ps h h2 h3) (by omega)
     | true =>
      have hc3 := of_decide_eq_true hc3
      have hz := Jg6 (k := mkS p.int) (by omega) (by omega)
      rw [cond_true]
      refine ZX (JbW (JbX c b n (out + mkS p.int) ps (by omega) (by omega) hc3) rfl (JCd (by omega) (by omega)) (by show (Jgk (mkS p.int)).size <= 10; omega) (by show (0 : Int) + n = n; omega) (by show out - n + ((Jgk (mkS p.int)).size : Int) = _; omega) (by show 0 <= ((Jgk (mkS p.int)).size : Int); omega)) (by omega)
theorem JfB {n : Int} (ns : List PV) (h : 0 <= n) (h2 : n <= 120) : MkOk n 0 14 (Q1 ⟨n, ns⟩) := by
 rw [Jk0]
 have := JbX (mkC ns) 12 n n ns h (by omega) h2
 rwa [Int.sub_self] at this
theorem Ju3 : ∀ {l : List PV}, (∀ p ∈ l, ckC (cv p) = 0) -> ckL l = 0
 | [], _ => rfl
 | p :: r, h => by
  simp only [ckL]
  rw [h p List.mem_cons_self]
  exact Ju3 fun q hq => h q (List.mem_cons_of_mem _ hq)
theorem Ju4 {n d : Int} {l : List PV} (h : MkOk n d 14 l) : cBy l = true := by
 have := h.len
 exact JbB.2 ⟨List.all_eq_true.2 h.cp, fun p hp => by have := h.sz p hp; omega, by omega⟩
theorem Ju5 {n d : Int} {l : List PV} (h : MkOk n d 14 l) : (opB l).length <= 400 := by
 have h1 := GZ 10 l h.sz
 have h2 := h.len
 rw [JiH, JrF, List.length_append]
 simp only [List.length_cons, List.length_nil]; omega
theorem Xv {c : CV} (h : ckC c = 0) : (c.kd = 1 ∨ c.kd = 3) /\ 1 <= c.n /\ c.n <= 120 /\ c.s.size = 0 ∨ c.kd = 2 /\ c.n = 0 /\ 1 <= c.s.size /\ c.s.size <= 120 := by
 rw [JcL] at h
 unfold Jkz at h
 cases h1 : (c.kd == 1 || c.kd == 3) with
 | true =>
  rw [h1, cond_true] at h
  cases h2 : (decide (c.n < 1) || (decide (c.n > 120) || !(c.s.size == 0))) with
  | true => rw [h2, cond_true] at h; exact absurd h (by decide)
  | false =>
   simp only [Bool.or_eq_false_iff, decide_eq_false_iff_not, Bool.not_eq_false', beq_iff_eq] at h2
   simp only [Bool.or_eq_true, beq_iff_eq] at h1
   exact .inl ⟨h1, by omega, by omega, h2.2.2⟩
 | false =>
  rw [h1, cond_false] at h
  cases h3 : (c.kd == 2) with
  | false => rw [h3, cond_false] at h; exact absurd h (by decide)
  | true =>
   rw [h3, cond_true] at h
   cases h2 : (!(c.n == 0) || c.s.size == 0) with
   | true => rw [h2, cond_true] at h; exact absurd h (by decide)
   | false =>
    rw [h2, cond_false] at h
    cases h4 : decide (zi c.s.size > 120) with
    | true => rw [h4, cond_true] at h; exact absurd h (by decide)
    | false =>
     simp only [Bool.or_eq_false_iff, Bool.not_eq_false', beq_iff_eq, beq_eq_false_iff_ne] at h2
     simp only [zi, decide_eq_false_iff_not] at h4
     simp only [beq_iff_eq] at h3
     exact .inr ⟨h3, h2.1, by omega, by omega⟩
def aOk : List PV -> Bool := hid fun l => cOk l && ckO l == 0
theorem Jg7 : ∀ {l : List PV}, ckL l = 0 -> ∀ p ∈ l, ckC (cv p) = 0
 | [], _, p, hp => by cases hp
 | q :: r, h, p, hp => by
  simp only [ckL] at h
  cases hq : (ckC (cv q) == 0) with
  | false => rw [hq, cond_false] at h; rw [h] at hq; exact absurd hq (by decide)
  | true =>
   rw [hq, cond_true] at h
   rcases List.mem_cons.1 hp with rfl | hp
   · simpa using hq
   · exact Jg7 h p hp
theorem Q8 {l : List PV} : aOk l = true ↔ l.all isCp = true /\ l.length <= 40 /\ ∀ p ∈ l, ckC (cv p) = 0 := by
 rw [aOk, hid_eq, Bool.and_eq_true, beq_iff_eq, Wh]
 constructor
 · rintro ⟨⟨h1, h2⟩, h3⟩
   rw [Jh7] at h3
   unfold JrE at h3
   cases hc : decide (zi l.length > 40) with
   | true => rw [hc, cond_true] at h3; exact absurd h3 (by decide)
   | false =>
    rw [hc, cond_false] at h3
    simp only [zi, decide_eq_false_iff_not] at hc
    exact ⟨h1, by omega, Jg7 h3⟩
 · rintro ⟨h1, h2, h3⟩
   refine ⟨⟨h1, by omega⟩, ?_⟩
   rw [Jh7]; unfold JrE
   exact (Jd (decide_eq_false (by simp only [zi]; omega))).trans (Ju3 h3)
theorem JnY {l : List PV} (h : cOk l = true) (h2 : ckO l = 0) : aOk l = true := by rw [aOk, hid_eq, h, h2]; rfl
theorem Y2 {l : List PV} (h : aOk l = true) {i : Nat} (hi : i < l.length) : isCp (l.getD i .top) = true /\ ckC (cv (l.getD i .top)) = 0 := by
 obtain ⟨h1, _, h3⟩ := Q8.1 h
 refine ⟨Wv h1 hi, ?_⟩
 rw [List.getD_eq_getElem?_getD, List.getElem?_eq_getElem hi]
 exact h3 _ (List.getElem_mem hi)
def Jag (p : PV) : Bool := PV.isSt 53 #[Field.mk "Kind" 3 0 false "" "" 0, Field.mk "N" 3 1 false "" "" 8, Field.mk "S" 9 2 false "" "" 16].size p && (PV.isInt IntKind.i64 (PV.child 0 p) && (PV.isInt IntKind.i64 (PV.child (0 + 1) p) && ((PV.child (0 + 1 + 1) p).isStr && true)))
theorem Jk1 {l : List PV} (h : l.all isCp = true) {i : Nat} (hi : i < l.length) : (decide (0 <= (i : Int)) && decide ((i : Int) < zi l.length) && Jag (l.getD i .top) && true) = true := by
 have hq : Jag (l.getD i .top) = true := W6 (Wv h hi)
 rw [hq]; simp [zi]; omega
def inO : List PV -> Int := hid inL
def Jy6 : List PV -> Int := hid outL
theorem Ju6 (l : List PV) : inO l = inL l := by rw [inO, hid_eq]
theorem Jqu (l : List PV) : Jy6 l = outL l := by rw [Jy6, hid_eq]
theorem JfC {c : CV} (h : ckC c = 0) : 0 <= inC c /\ inC c <= 120 := by
 unfold inC
 rcases Xv h with ⟨h1, h2, h3, h4⟩ | ⟨h1, h2, h3, h4⟩
 · rw [show (c.kd == 2) = false from beq_false_of_ne (by omega), cond_false]; omega
 · rw [h1]; show 0 <= (0 : Int) /\ (0 : Int) <= 120; decide
theorem JbY {c : CV} (h : ckC c = 0) : 0 <= QO c /\ QO c <= 120 := by
 unfold QO
 rcases Xv h with ⟨h1, h2, h3, h4⟩ | ⟨h1, h2, h3, h4⟩
 · cases hc : (c.kd == 1) with
   | true => rw [cond_true]; omega
   | false => rw [cond_false]; omega
 · rw [h1]; show 0 <= (c.s.size : Int) /\ (c.s.size : Int) <= 120; omega
theorem JnZ (l : List PV) (ha : aOk l = true) (f : Nat) (k0 : Int -> OR) (z fl : Bool) : ∀ (d i n : Nat) (s : Int), i + d = l.length -> d < n -> 0 <= s -> s <= 120 * i ->
  ZJ f k0 n z fl l s (i : Int) = k0 (s + inL (l.drop i))
 | 0, i, n + 1, s, hi, hn, h3, h4 => by
   rw [List.drop_of_length_le (by omega)]
   simp only [ZJ, VH, Yw, inL, Int.add_zero]
   exact Jd (by simp [zi]; omega)
 | d + 1, i, n + 1, s, hi, hn, h3, h4 => by
   obtain ⟨h1, hl, _⟩ := Q8.1 ha
   have g1 := tI i
   have w1 := wI (i := i) (by omega)
   have hc := Jk1 h1 (i := i) (by omega)
   unfold Jag at hc
   have hk := (Y2 ha (i := i) (by omega)).2
   rw [JY (by omega)]
   simp only [ZJ, VH, Yw, g1, w1]
   refine (Ja (by simp [zi]; omega)).trans ((Ja hc).trans ?_)
   generalize l.getD i .top = p at *
   have i1 := JfC hk
   have e1 : (PV.child 0 p).int = (cv p).kd := rfl
   have e2 : (PV.child (0 + 1) p).int = (cv p).n := rfl
   rw [e1, e2, inL, ← Int.add_assoc]
   cases hq : ((cv p).kd != 2) with
   | true =>
    have hz : inC (cv p) = (cv p).n := by unfold inC; rw [show ((cv p).kd == 2) = false from by simpa [bne] using hq]; rfl
    refine (Ja rfl).trans ((Ja hc).trans ?_)
    rw [← hz, wrap_i64 (by omega) (by omega)]
    exact JnZ l ha f k0 z fl d (i + 1) n _ (by omega) (by omega) (by omega) (by omega)
   | false =>
    have hz : inC (cv p) = 0 := by unfold inC; rw [show ((cv p).kd == 2) = true from by simpa [bne] using hq]; rfl
    rw [hz, Int.add_zero]
    exact (Jd rfl).trans (JnZ l ha f k0 z fl d (i + 1) n s (by omega) (by omega) h3 (by omega))
theorem Jn0 (l : List PV) (ha : aOk l = true) (f : Nat) (k0 : Int -> OR) (z fl : Bool) : ∀ (d i n : Nat) (s : Int), i + d = l.length -> d < n -> 0 <= s -> s <= 120 * i ->
  ZK f k0 n z fl l s (i : Int) = k0 (s + outL (l.drop i))
 | 0, i, n + 1, s, hi, hn, h3, h4 => by
   rw [List.drop_of_length_le (by omega)]
   simp only [ZK, VI, Wy, outL, Int.add_zero]
   exact Jd (by simp [zi]; omega)
 | d + 1, i, n + 1, s, hi, hn, h3, h4 => by
   obtain ⟨h1, hl, _⟩ := Q8.1 ha
   have g1 := tI i
   have w1 := wI (i := i) (by omega)
   have hc := Jk1 h1 (i := i) (by omega)
   unfold Jag at hc
   have hk := (Y2 ha (i := i) (by omega)).2
   rw [JY (by omega)]
   simp only [ZK, VI, Wy, g1, w1]
   refine (Ja (by simp [zi]; omega)).trans ((Ja hc).trans ?_)
   generalize l.getD i .top = p at *
   have i1 := JbY hk
   have e1 : (PV.child 0 p).int = (cv p).kd := rfl
   have e2 : (PV.child (0 + 1) p).int = (cv p).n := rfl
   have e3 : (PV.child (0 + 1 + 1) p).str = (cv p).s := rfl
   rw [e1, e2, e3, outL, ← Int.add_assoc]
   have hf := Xv hk
   cases hq : ((cv p).kd == 1) with
   | true =>
    have hz : QO (cv p) = (cv p).n := by unfold QO; rw [hq]; rfl
    have hq' : (cv p).kd = 1 := by simpa using hq
    have hs : zi (cv p).s.size = 0 := by show ((cv p).s.size : Int) = 0; omega
    refine (Ja rfl).trans ((Ja hc).trans ((Ja hc).trans ?_))
    rw [hs, ← hz, Int.add_zero, wrap_i64 (x := s + QO (cv p)) (by omega) (by omega), wrap_i64 (by omega) (by omega)]
    exact Jn0 l ha f k0 z fl d (i + 1) n _ (by omega) (by omega) (by omega) (by omega)
   | false =>
    have hz : QO (cv p) = zi (cv p).s.size := by unfold QO; rw [hq]; rfl
    refine (Jd rfl).trans ((Ja hc).trans ?_)
    rw [← hz, wrap_i64 (by omega) (by omega)]
    exact Jn0 l ha f k0 z fl d (i + 1) n _ (by omega) (by omega) (by omega) (by omega)
def Jjf : Jy
 | [.ro 53 z f o], [], k => bif aOk o then k ⟨.sc (.int .i64 (inO o)), [], []⟩ else none
 | _, _, _ => none
def JCe : Sig := { own := [], run := Jjf }
theorem JFF : Jc tau Tryz.prog 111 JCe := Jc.mk' fun xs es k res hl hr => by
 change Jjf xs es k = some res at hr
 unfold Jjf at hr
 split at hr
 · rename_i z f o
   obtain ⟨hc, hr⟩ := Ju hr
   have hl2 := (Q8.1 hc).2.1
   refine J1 Jn Jqn Jo JB8 JB9 (Jqo (Jad 50)) [.ro] 0 0 (JLU 50) hl rfl ((JP7 50 z f o k).trans (Eq.trans ?_ hr))
   unfold JLS
   refine (JnZ o hc 50 _ z f o.length 0 50 0 (by omega) (by omega) (by omega) (by omega)).trans ?_
   rw [List.drop_zero, Int.zero_add, Ju6]
 · cases hr
def Jjg : Jy
 | [.ro 53 z f o], [], k => bif aOk o then k ⟨.sc (.int .i64 (Jy6 o)), [], []⟩ else none
 | _, _, _ => none
def JCf : Sig := { own := [], run := Jjg }
theorem JFG : Jc tau Tryz.prog 112 JCf := Jc.mk' fun xs es k res hl hr => by
 change Jjg xs es k = some res at hr
 unfold Jjg at hr
 split at hr
 · rename_i z f o
   obtain ⟨hc, hr⟩ := Ju hr
   have hl2 := (Q8.1 hc).2.1
   refine J1 Jn Jqq Jo JCa JCb (Jqr (Jae 50)) [.ro] 0 0 (JLY 50) hl rfl ((JP8 50 z f o k).trans (Eq.trans ?_ hr))
   unfold JLW
   refine (Jn0 o hc 50 _ z f o.length 0 50 0 (by omega) (by omega) (by omega) (by omega)).trans ?_
   rw [List.drop_zero, Int.zero_add, Jqu]
 · cases hr
def N57 : Nat := 66
def F57 : Fns := Jr 112 JCf (Jr 111 JCe (F0))
theorem Ju7 : Jp tau Tryz.prog F57 := ((Js).add JFF JLV).add JFG JLZ
def Jqv : Code := Qd (Tryz.f57.body.get!) [1, 1, 1, 1, 1, 0, 1, 0, 0]
def JfD : Nm := [(0, .any), (1, .any), (6, .any), (7, .any), (8, .any)]
def Jn1 : Nm := [(6, .any)]
def Ju8 : An := (.seq (.seq .leaf (.cond .leaf .leaf)) (.seq (.block none (.seq .leaf (.block none (.seq .leaf (.cond (.seq .leaf .leaf) (.seq .leaf (.cond .leaf .leaf))))))) .leaf))
def Jy7 (r0 : Qt) : An := (.seq .leaf (.seq (.seq .leaf (.cond (.seq .leaf .leaf) .leaf)) (.seq (.seq .leaf (.cond (.seq .leaf .leaf) .leaf)) (.seq .leaf (.seq .leaf (.seq (.seq .leaf (.block none (.sum JfD N57 r0))) (.seq .leaf .leaf)))))))
abbrev Ju9 := ByteArray -> Bool -> Bool -> List PV -> ByteArray -> Int -> Int -> OR
abbrev Wl (v3 : List PV) (v6 : Int) := (PV.isSt 53 #[Field.mk "Kind" 3 0 false "" "" 0, Field.mk "N" 3 1 false "" "" 8, Field.mk "S" 9 2 false "" "" 16].size (v3.getD v6.toNat PV.top) && (PV.isInt IntKind.i64 (PV.child 0 (v3.getD v6.toNat PV.top)) && (PV.isInt IntKind.i64 (PV.child (0 + 1) (v3.getD v6.toNat PV.top)) && ((PV.child (0 + 1 + 1) (v3.getD v6.toNat PV.top)).isStr && true))))
abbrev Q2 (v3 : List PV) (v5 : Int) (v6 : Int) := (IntKind.i64.wrap (v5 + (PV.child (0 + 1) (v3.getD v6.toNat PV.top)).int))
def JbZ (f : Nat) (rc : Ju9) (k0 : ByteArray -> OR) (v0 : ByteArray) (v1 v2 : Bool) (v3 : List PV) (v4 : ByteArray) (v5 v6 : Int) : OR := bif decide (v6 < zi v3.length) then bif decide (0 <= v6) && decide (v6 < zi v3.length) && (Wl v3 v6) && true then bif (PV.child 0 (v3.getD v6.toNat PV.top)).int == 1 then bif decide (0 <= v6) && decide (v6 < zi v3.length) && (Wl v3 v6) && true then bif decide (0 <= v5) && decide (0 <= IntKind.i64.wrap (v5 + (PV.child (0 + 1) (v3.getD v6.toNat PV.top)).int)) && decide (v5.toNat <= (Q2 v3 v5 v6).toNat) && decide ((Q2 v3 v5 v6).toNat <= v0.size) && true then bif decide (v4.size + (v0.extract v5.toNat (Q2 v3 v5 v6).toNat).size <= 9223372036854775807) && true then bif decide (0 <= v6) && decide (v6 < zi v3.length) && (Wl v3 v6) && true then rc v0 v1 v2 v3 (v4 ++ v0.extract v5.toNat (Q2 v3 v5 v6).toNat) (Q2 v3 v5 v6) (IntKind.i64.wrap (v6 + 1)) else none else none else none else none else bif (PV.child 0 (v3.getD v6.toNat PV.top)).int == 2 then bif decide (0 <= v6) && decide (v6 < zi v3.length) && (Wl v3 v6) && true then bif decide (v4.size + (PV.child (0 + 1 + 1) (v3.getD v6.toNat PV.top)).str.size <= 9223372036854775807) && true then rc v0 v1 v2 v3 (v4 ++ (PV.child (0 + 1 + 1) (v3.getD v6.toNat PV.top)).str) v5 (IntKind.i64.wrap (v6 + 1)) else none else none else bif decide (0 <= v6) && decide (v6 < zi v3.length) && (Wl v3 v6) && true then rc v0 v1 v2 v3 v4 (Q2 v3 v5 v6) (IntKind.i64.wrap (v6 + 1)) else none else none else k0 v4
def Jah (f : Nat) (k0 : ByteArray -> OR) : Nat -> Ju9
 | 0 => fun _ _ _ _ _ _ _ => none
 | n + 1 => JbZ f (Jah f k0 n) k0
def Jb0 (k : Kont) := fun x0 => k (Ex.exit 0) (Ji Jn1 N57 [.sc (.string x0)] [])
def Jn2 (f : Nat) (k : Kont) (n : Nat) (v0 : ByteArray) (v1 v2 : Bool) (v3 : List PV) (v4 : ByteArray) (v5 v6 : Int) : OR := Jx tau 0 JfD (fun s k => ev tau F57 0 0 Jqv (Ju8 ) s k) n (Ji JfD N57 [.sc (.string v0), .ro 53 v1 v2 v3, .sc (.string v4), .sc (.int .i64 v5), .sc (.int .i64 v6)] []) (JG tau 0 Jn1 k)
theorem Jy8 (f : Nat) (k : Kont) (n : Nat) : Jn2 f k (n + 1) = JbZ f (Jn2 f k n) (Jb0 k) := by kernel_rfl
theorem Jqw (f : Nat) (k : Kont) : ∀ n, Jn2 f k n = Jah f (Jb0 k) n
 | 0 => rfl
 | n + 1 => (Jy8 f k n).trans (congrArg (fun r => JbZ f r (Jb0 k)) (Jqw f k n))
def JfE (f : Nat) : List PV -> List (Nat × Ent) -> Kont -> OR
 | [.sc (.string v0), .ro 53 v1 v2 v3, .sc (.string v4), .sc (.int .i64 v5),
 .sc (.int .i64 v6)], [], k => Jah f (Jb0 k) f v0 v1 v2 v3 v4 v5 v6
 | _, _, _ => none
theorem JFH (f : Nat) : Jf Jqv Ju8 = [] := by kernel_rfl
theorem JFI (f : Nat) : (Item.l Jqv JfD N57 (JfE f)).Ok tau Tryz.prog 0 := Jt Jn Ju7 Jo (x := Ju8) (nm2 := Jn1) (Jl _ _ (by rw [JFH f]; intro q hq; cases hq)) fun vs hp k res hr => by
 unfold JfE at hr
 split at hr
 · rw [← Jqw f] at hr; exact ⟨f, 0, hr⟩
 · cases hr
def g57 (f : Nat) (doc : ByteArray) (o_z o_f : Bool) (o : List PV) (k : KR) : OR := bif aOk o then bif inO o != zi doc.size then k (Res.mk (.tup [.sc (.string (ByteArray.mk (Array.mk []))), .sc (.int .i64 7)]) [] []) else bif aOk o then bif decide (Jy6 o > 120) then k (Res.mk (.tup [.sc (.string (ByteArray.mk (Array.mk []))), .sc (.int .i64 5)]) [] []) else Jah f (fun x0_0 => k (Res.mk (.tup [.sc (.string x0_0), .sc (.int .i64 0)]) [] [])) f doc o_z o_f o (ByteArray.mk (Array.mk [])) (0) (0) else none else none
theorem e57 (f : Nat) (doc : ByteArray) (o_z o_f : Bool) (o : List PV) (k : KR) : JI tau F57 Tryz.f57 (Tryz.f57.body.get!) (Jy7 (JfE f)) [.ro, .ro] 0 [.sc (.string doc), .ro 53 o_z o_f o] [] k = g57 f doc o_z o_f o k := by kernel_rfl
theorem JP9 (f : Nat) : Jf (Tryz.f57.body.get!) (Jy7 (JfE f)) = [.l Jqv JfD N57 (JfE f)] := by kernel_rfl
theorem JQa (f : Nat) : ∀ q ∈ Jf (Tryz.f57.body.get!) (Jy7 (JfE f)), q.Ok tau Tryz.prog 0 := by rw [JP9 f]; exact JJ (JFI f) (fun _ h => nomatch h)
theorem JL1 : Tryz.prog.funcs[57]? = some Tryz.f57 := by kernel_rfl
theorem JL2 : Tryz.f57.body = some (Tryz.f57.body.get!) := by kernel_rfl
theorem JQb : Enters Tryz.prog 57 := enters_of JL1 (by kernel_rfl) JL2
structure AP where
 (doc : ByteArray) (o : List PV)
def apl : List PV -> ByteArray -> Nat -> ByteArray -> ByteArray
 | [], _, _, out => out
 | p :: ps, doc, at1, out =>
  bif (cv p).kd == 1 then apl ps doc (at1 + (cv p).n.toNat) (out ++ doc.extract at1 (at1 + (cv p).n.toNat))
  else bif (cv p).kd == 2 then apl ps doc at1 (out ++ (cv p).s)
  else apl ps doc (at1 + (cv p).n.toNat) out
def Jk2 (x : AP) : Int := bif inL x.o != zi x.doc.size then 7 else bif decide (outL x.o > 120) then 5 else 0
def apE : AP -> Int := hid Jk2
def apD : AP -> ByteArray := hid fun x => bif Jk2 x == 0 then apl x.o x.doc 0 (ByteArray.mk (Array.mk [])) else ByteArray.mk (Array.mk [])
theorem Jva (x : AP) : apE x = Jk2 x := by rw [apE, hid_eq]
theorem Jn3 (x : AP) : apD x = bif Jk2 x == 0 then apl x.o x.doc 0 (ByteArray.mk (Array.mk [])) else ByteArray.mk (Array.mk []) := by rw [apD, hid_eq]
theorem Yx (a b : ByteArray) : (a ++ b).size = a.size + b.size := ByteArray.size_append
theorem JdB (a : ByteArray) (i j : Nat) (h : i <= j) (h2 : j <= a.size) : (a.extract i j).size = j - i := by rw [ByteArray.size_extract]; omega
theorem Yc : ∀ {l : List PV}, (∀ p ∈ l, ckC (cv p) = 0) -> 0 <= inL l
 | [], _ => by simp [inL]
 | p :: l, h => by
  have h1 := (JfC (h p List.mem_cons_self)).1
  have h2 := Yc fun q hq => h q (List.mem_cons_of_mem _ hq)
  simp only [inL]; omega
theorem Yy : ∀ {l : List PV}, (∀ p ∈ l, ckC (cv p) = 0) -> 0 <= outL l
 | [], _ => by simp [outL]
 | p :: l, h => by
  have h1 := (JbY (h p List.mem_cons_self)).1
  have h2 := Yy fun q hq => h q (List.mem_cons_of_mem _ hq)
  simp only [outL]; omega
theorem Jb1 : ∀ {l : List PV} {doc : ByteArray} {at1 : Nat} {out : ByteArray}, (∀ p ∈ l, ckC (cv p) = 0) -> (at1 : Int) + inL l <= doc.size -> ((apl l doc at1 out).size : Int) = out.size + outL l
 | [], _, _, _, _, _ => by simp [apl, outL]
 | p :: l, doc, at1, out, h, hi => by
  have hk := h p List.mem_cons_self
  have h' : ∀ q ∈ l, ckC (cv q) = 0 := fun q hq => h q (List.mem_cons_of_mem _ hq)
  have hn := Yc h'
  simp only [apl, inL, outL] at hi ⊢
  rcases Xv hk with ⟨h1, h2, h3, h4⟩ | ⟨h1, h2, h3, h4⟩
  · rcases h1 with h1 | h1
    · have e1 : inC (cv p) = (cv p).n := by unfold inC; rw [h1]; rfl
      have e2 : QO (cv p) = (cv p).n := by unfold QO; rw [h1]; rfl
      rw [h1]
      refine (congrArg (fun b : ByteArray => (b.size : Int)) (Ja rfl)).trans ?_
      rw [Jb1 h' (by omega), Yx, JdB _ _ _ (by omega) (by omega)]; omega
    · have e1 : inC (cv p) = (cv p).n := by unfold inC; rw [h1]; rfl
      have e2 : QO (cv p) = (cv p).s.size := by unfold QO; rw [h1]; rfl
      rw [h1]
      refine (congrArg (fun b : ByteArray => (b.size : Int)) ((Jd rfl).trans (Jd rfl))).trans ?_
      rw [Jb1 h' (by omega)]; omega
  · have e1 : inC (cv p) = 0 := by unfold inC; rw [h1]; rfl
    have e2 : QO (cv p) = (cv p).s.size := by unfold QO; rw [h1]; rfl
    rw [h1]
    refine (congrArg (fun b : ByteArray => (b.size : Int)) ((Jd rfl).trans (Ja rfl))).trans ?_
    rw [Jb1 h' (by omega), Yx]; omega
theorem Jqx (l : List PV) (ha : aOk l = true) (doc : ByteArray) (hd : doc.size <= 10000) (f : Nat) (k0 : ByteArray -> OR) (z fl : Bool) : ∀ (d i n : Nat) (out : ByteArray) (at1 : Nat), i + d = l.length -> d < n -> (at1 : Int) + inL (l.drop i) <= doc.size -> (out.size : Int) + outL (l.drop i) <= 120 ->
  Jah f k0 n doc z fl l out (at1 : Int) (i : Int) = k0 (apl (l.drop i) doc at1 out)
 | 0, i, n + 1, out, at1, hi, hn, h3, h4 => by
   rw [List.drop_of_length_le (by omega)]
   simp only [Jah, JbZ, Q2, Wl, apl]
   exact Jd (by simp [zi]; omega)
 | d + 1, i, n + 1, out, at1, hi, hn, h3, h4 => by
   obtain ⟨h1, hl, hck⟩ := Q8.1 ha
   have g1 := tI i
   have g2 := tI at1
   have w1 := wI (i := i) (by omega)
   have hc := Jk1 h1 (i := i) (by omega)
   unfold Jag at hc
   have hk := (Y2 ha (i := i) (by omega)).2
   have hck' : ∀ q ∈ l.drop (i + 1), ckC (cv q) = 0 := fun q hq => hck q (List.mem_of_mem_drop hq)
   have hin := Yc hck'
   have hon := Yy hck'
   rw [JY (by omega)] at h3 h4 ⊢
   simp only [Jah, JbZ, Q2, Wl, g1, g2, w1]
   refine (Ja (by simp [zi]; omega)).trans ((Ja hc).trans ?_)
   generalize l.getD i .top = p at *
   have e1 : (PV.child 0 p).int = (cv p).kd := rfl
   have e2 : (PV.child (0 + 1) p).int = (cv p).n := rfl
   have e3 : (PV.child (0 + 1 + 1) p).str = (cv p).s := rfl
   simp only [e1, e2, e3, apl]
   simp only [inL, outL] at h3 h4
   rcases Xv hk with ⟨q1, q2, q3, q4⟩ | ⟨q1, q2, q3, q4⟩
   · rcases q1 with q1 | q1
     · have i1 : inC (cv p) = (cv p).n := by unfold inC; rw [q1]; rfl
       have i2 : QO (cv p) = (cv p).n := by unfold QO; rw [q1]; rfl
       have w2 : IntKind.i64.wrap ((at1 : Int) + (cv p).n) = ((at1 + (cv p).n.toNat : Nat) : Int) := by rw [wrap_i64 (by omega) (by omega)]; omega
       have g3 : (((at1 + (cv p).n.toNat : Nat) : Int)).toNat = at1 + (cv p).n.toNat := Int.toNat_natCast _
       have sz := JdB doc at1 (at1 + (cv p).n.toNat) (by omega) (by omega)
       simp only [q1, w2, g3, Jcr, Jhe, QB, Jcq]
       refine (Ja rfl).trans ((Ja hc).trans ((Ja (by simp; omega)).trans ((Ja (by rw [sz]; simp; omega)).trans ((Ja hc).trans ?_))))
       refine (Jqx l ha doc hd f k0 z fl d (i + 1) n _ _ (by omega) (by omega) (by omega) (by rw [Yx, sz]; omega)).trans ?_
       rfl
     · have i1 : inC (cv p) = (cv p).n := by unfold inC; rw [q1]; rfl
       have i2 : QO (cv p) = (cv p).s.size := by unfold QO; rw [q1]; rfl
       have w2 : IntKind.i64.wrap ((at1 : Int) + (cv p).n) = ((at1 + (cv p).n.toNat : Nat) : Int) := by rw [wrap_i64 (by omega) (by omega)]; omega
       simp only [q1, w2]
       refine (Jd rfl).trans ((Jd rfl).trans ((Ja hc).trans ?_))
       refine (Jqx l ha doc hd f k0 z fl d (i + 1) n _ _ (by omega) (by omega) (by omega) (by omega)).trans ?_
       rfl
   · have i1 : inC (cv p) = 0 := by unfold inC; rw [q1]; rfl
     have i2 : QO (cv p) = (cv p).s.size := by unfold QO; rw [q1]; rfl
     simp only [q1]
     refine (Jd rfl).trans ((Ja rfl).trans ((Ja hc).trans ((Ja (by simp; omega)).trans ?_)))
     refine (Jqx l ha doc hd f k0 z fl d (i + 1) n _ _ (by omega) (by omega) (by omega) (by rw [Yx]; omega)).trans ?_
     rfl
theorem Jn4 : ∀ {l : List PV}, (∀ p ∈ l, ckC (cv p) = 0) -> inL l <= 120 * l.length
 | [], _ => by simp [inL]
 | p :: l, h => by
  have h1 := (JfC (h p List.mem_cons_self)).2
  have h2 := Jn4 fun q hq => h q (List.mem_cons_of_mem _ hq)
  simp only [inL, List.length_cons]; omega
def Jn5 : Jy
 | [.sc (.string doc), .ro 53 z f o], [], k => bif aOk o then k ⟨.tup [.sc (.string (apD ⟨doc, o⟩)), .sc (.int .i64 (apE ⟨doc, o⟩))], [], []⟩ else none
 | _, _, _ => none
def JL3 : Sig := { own := [], run := Jn5 }
theorem JFJ (doc : ByteArray) (z f : Bool) (o : List PV) (h : aOk o = true) (k : KR) : g57 50 doc z f o k = k ⟨.tup [.sc (.string (apD ⟨doc, o⟩)), .sc (.int .i64 (apE ⟨doc, o⟩))], [], []⟩ := by
 obtain ⟨h1, h2, h3⟩ := Q8.1 h
 unfold g57
 rw [Jn3, Jva, Jk2, Ju6, Jqu]
 refine (Ja h).trans ?_
 cases hi : (inL o != zi doc.size) with
 | true => rfl
 | false =>
  refine (Jd rfl).trans ((Ja h).trans ?_)
  have hi : inL o = zi doc.size := by simpa [bne] using hi
  have hle := Jn4 h3
  cases ho : decide (outL o > 120) with
  | true => rfl
  | false =>
   have ho := of_decide_eq_false ho
   refine (Jd rfl).trans ?_
   refine (Jqx o h doc (by simp only [zi] at hi; omega) 50 _ z f o.length 0 50 (ByteArray.mk (Array.mk [])) 0 (by omega) (by omega) (by rw [List.drop_zero, hi]; simp [zi]) (by rw [List.drop_zero]; show (0 : Int) + _ <= _; omega)).trans ?_
   rw [List.drop_zero]; rfl
theorem JL4 : Jc tau Tryz.prog 57 JL3 := Jc.mk' fun xs es k res hl hr => by
 change Jn5 xs es k = some res at hr
 unfold Jn5 at hr
 split at hr
 · rename_i doc z f o
   obtain ⟨hc, hr⟩ := Ju hr
   exact J1 Jn Ju7 Jo JL1 JL2 (Jy7 (JfE 50)) [.ro, .ro] 0 0 (JQa 50) hl rfl ((e57 50 doc z f o k).trans ((JFJ doc z f o hc k).trans hr))
 · cases hr
theorem Jvb {x : AP} (h : aOk x.o = true) : (apD x).size <= 120 := by
 obtain ⟨h1, h2, h3⟩ := Q8.1 h
 rw [Jn3]
 cases he : (Jk2 x == 0) with
 | false => exact Nat.zero_le _
 | true =>
  rw [cond_true]
  unfold Jk2 at he
  cases hi : (inL x.o != zi x.doc.size) with
  | true => rw [hi] at he; exact absurd (show false = true from he) (by decide)
  | false =>
   rw [hi] at he
   cases ho : decide (outL x.o > 120) with
   | true => rw [ho] at he; exact absurd (show false = true from he) (by decide)
   | false =>
    have ho := of_decide_eq_false ho
    have hi : inL x.o = zi x.doc.size := by simpa [bne] using hi
    have := Jb1 (l := x.o) (doc := x.doc) (at1 := 0) (out := ByteArray.mk (Array.mk [])) h3 (by rw [hi]; simp [zi])
    have e : (ByteArray.mk (Array.mk ([] : List UInt8))).size = 0 := rfl
    rw [e] at this; omega
def N58 : Nat := 51
def F58 : Fns := Jr 114 JBC (Jr 113 Jtt (Jr 55 Jyw (F0)))
theorem Jvc : Jp tau Tryz.prog F58 := (((Js).add Juf JDO).add Jtu JAS).add JEP JIJ
def Jqy : Code := Qd (Tryz.f58.body.get!) [1, 1, 1, 0, 0, 0]
def JfF : Nm := [(0, .any), (3, .any), (6, .any)]
def Jn6 : Nm := [(0, .any), (3, .any), (6, .any)]
def Jvd : An := (.seq (.seq .leaf (.cond .leaf .leaf)) (.block none .leaf))
def Jy9 (r0 : Qt) : An := (.seq .leaf (.seq (.block none (.seq .leaf (.cond (.seq .leaf .leaf) (.seq .leaf (.cond (.seq .leaf .leaf) (.seq .leaf (.cond (.seq .leaf .leaf) .leaf))))))) (.seq .leaf (.seq (.block none (.sum JfF N58 r0)) (.seq .leaf (.seq .leaf (.seq .leaf .leaf)))))))
abbrev Jve := Bool -> Bool -> List PV -> Int -> Int -> Int -> OR
def Jb2 (f : Nat) (rc : Jve) (k0 : Bool -> Bool -> List PV -> Int -> Int -> Int -> OR) (v0 v1 : Bool) (v2 : List PV) (v3 v4 v5 : Int) : OR := bif decide (v3 < zi v2.length) then bif decide (0 <= v3) && decide (v3 < zi v2.length) && (PV.isSt 67 #[Field.mk "D" 3 0 false "" "" 0, Field.mk "U" 3 1 false "" "" 8].size (v2.getD v3.toNat PV.top) && (PV.isInt IntKind.i64 (PV.child 0 (v2.getD v3.toNat PV.top)) && (PV.isInt IntKind.i64 (PV.child (0 + 1) (v2.getD v3.toNat PV.top)) && true))) && true then bif Jyv (AV.mk (PV.child 0 (v2.getD v3.toNat PV.top)).int (PV.child (0 + 1) (v2.getD v3.toNat PV.top)).int) (AV.mk v4 v5) then rc v0 v1 v2 (IntKind.i64.wrap (v3 + 1)) v4 v5 else k0 v0 v1 v2 v3 v4 v5 else none else k0 v0 v1 v2 v3 v4 v5
def Jai (f : Nat) (k0 : Bool -> Bool -> List PV -> Int -> Int -> Int -> OR) : Nat -> Jve
 | 0 => fun _ _ _ _ _ _ => none
 | n + 1 => Jb2 f (Jai f k0 n) k0
def Jb3 (k : Kont) := fun x0 x1 x2 x3 x4 x5 => k (Ex.exit 1) (Ji Jn6 N58 [.ro 67 x0 x1 x2, .ptr 832 [], .sc (.int .i64 x3)] [(832, .box false 67 (PV.st 67 [.sc (.int .i64 x4), .sc (.int .i64 x5)]))])
def Jn7 (f : Nat) (k : Kont) (n : Nat) (v0 v1 : Bool) (v2 : List PV) (v3 v4 v5 : Int) : OR := Jx tau 0 JfF (fun s k => ev tau F58 0 0 Jqy (Jvd ) s k) n (Ji JfF N58 [.ro 67 v0 v1 v2, .ptr 832 [], .sc (.int .i64 v3)] [(832, .box false 67 (PV.st 67 [.sc (.int .i64 v4), .sc (.int .i64 v5)]))]) (JG tau 0 Jn6 k)
theorem Jza (f : Nat) (k : Kont) (n : Nat) : Jn7 f k (n + 1) = Jb2 f (Jn7 f k n) (Jb3 k) := by kernel_rfl
theorem Jqz (f : Nat) (k : Kont) : ∀ n, Jn7 f k n = Jai f (Jb3 k) n
 | 0 => rfl
 | n + 1 => (Jza f k n).trans (congrArg (fun r => Jb2 f r (Jb3 k)) (Jqz f k n))
def JfG (f : Nat) : List PV -> List (Nat × Ent) -> Kont -> OR
 | [.ro 67 v0 v1 v2, .ptr 832 [],
 PV.sc
  (Value.int IntKind.i64
   v3)], [(832,
  Ent.box false 67
   (PV.st 67
    [.sc (.int .i64 v4),
     PV.sc
      (Value.int IntKind.i64
       v5)]))], k => Jai f (Jb3 k) f v0 v1 v2 v3 v4 v5
 | _, _, _ => none
theorem JFK (f : Nat) : Jf Jqy Jvd = [] := by kernel_rfl
theorem JFL (f : Nat) : (Item.l Jqy JfF N58 (JfG f)).Ok tau Tryz.prog 0 := Jt Jn Jvc Jo (x := Jvd) (nm2 := Jn6) (Jl _ _ (by rw [JFK f]; intro q hq; cases hq)) fun vs hp k res hr => by
 unfold JfG at hr
 split at hr
 · rw [← Jqz f] at hr; exact ⟨f, 0, hr⟩
 · cases hr
def g58 (f : Nat) (l_z l_f : Bool) (l : List PV) (a_D a_U : Int) (k : KR) : OR := bif !inA [a_D, 2, a_U, 7] then k (Res.mk (.tup [.ro 67 l_z l_f l, .sc (.int .i64 1)]) [] []) else bif pOk l then bif hasP (PH.mk l (AV.mk a_D a_U)) then k (Res.mk (.tup [.ro 67 l_z l_f l, .sc (.int .i64 12)]) [] []) else bif decide (zi l.length >= 8) then k (Res.mk (.tup [.ro 67 l_z l_f l, .sc (.int .i64 4)]) [] []) else Jai f (fun _ _ x2_0 JP x4_0 x5_0 => bif decide (0 <= JP) && true && decide (JP.toNat <= x2_0.length) && true then bif Je (0 + (List.take JP.toNat x2_0).length) 16 && true then bif Je (0 + (List.take JP.toNat x2_0).length + 1) 16 && true then bif decide (0 <= JP) && true && decide (JP.toNat <= x2_0.length) && decide (x2_0.length <= x2_0.length) && true then bif Je (0 + (List.take JP.toNat x2_0).length + 1 + (List.drop JP.toNat (List.take x2_0.length x2_0)).length) 16 && true then k (Res.mk (.tup [.ro 67 false false (List.take (0 + (List.take JP.toNat x2_0).length + 1 + (List.drop JP.toNat (List.take x2_0.length x2_0)).length) (List.take (0 + (List.take JP.toNat x2_0).length + 1) (List.take (0 + (List.take JP.toNat x2_0).length) (List.take JP.toNat x2_0) ++ [.st 67 [.sc (.int .i64 x4_0), .sc (.int .i64 x5_0)]]) ++ List.drop JP.toNat (List.take x2_0.length x2_0))), .sc (.int .i64 0)]) [] []) else none else none else none else none else none) f l_z l_f l (0) a_D a_U else none
theorem e58 (f : Nat) (l_z l_f : Bool) (l : List PV) (a_D a_U : Int) (k : KR) : JI tau F58 Tryz.f58 (Tryz.f58.body.get!) (Jy9 (JfG f)) [.ro, .ro] 0 [.ro 67 l_z l_f l, .st 67 [.sc (.int .i64 a_D), .sc (.int .i64 a_U)]] [] k = g58 f l_z l_f l a_D a_U k := by kernel_rfl
theorem JQc (f : Nat) : Jf (Tryz.f58.body.get!) (Jy9 (JfG f)) = [.l Jqy JfF N58 (JfG f)] := by kernel_rfl
theorem JQd (f : Nat) : ∀ q ∈ Jf (Tryz.f58.body.get!) (Jy9 (JfG f)), q.Ok tau Tryz.prog 0 := by rw [JQc f]; exact JJ (JFL f) (fun _ h => nomatch h)
theorem JL5 : Tryz.prog.funcs[58]? = some Tryz.f58 := by kernel_rfl
theorem JL6 : Tryz.f58.body = some (Tryz.f58.body.get!) := by kernel_rfl
theorem JQe : Enters Tryz.prog 58 := enters_of JL5 (by kernel_rfl) JL6
def N59 : Nat := 33
def F59 : Fns := Jr 55 Jyw (F0)
theorem Jvf : Jp tau Tryz.prog F59 := (Js).add Juf JDO
def JqA : Code := Qd (Tryz.f59.body.get!) [1, 1, 1, 0, 1, 0, 0]
def JfH : Nm := [(0, .any), (3, .any), (6, .own), (7, .any)]
def Jn8 : Nm := [(6, .any)]
def Jvg : An := (.seq (.seq .leaf (.cond .leaf .leaf)) (.seq (.block none (.seq .leaf (.cond .leaf .leaf))) .leaf))
def Jzb (r0 : Qt) : An := (.seq .leaf (.seq (.seq .leaf (.cond (.seq .leaf .leaf) .leaf)) (.seq .leaf (.seq (.seq .leaf (.block none (.sum JfH N59 r0))) (.seq .leaf .leaf)))))
abbrev JFM := Bool -> List PV -> OR) : Nat -> Bool -> Bool -> List PV -> Nat -> Int -> Int -> Int -> Bool -> List PV -> OR
abbrev ZL (v2 : List PV) (v4 : Int) := (PV.isSt 67 #[Field.mk "D" 3 0 false "" "" 0, Field.mk "U" 3 1 false "" "" 8].size (v2.getD v4.toNat PV.top) && (PV.isInt IntKind.i64 (PV.child 0 (v2.getD v4.toNat PV.top)) && (PV.isInt IntKind.i64 (PV.child (0 + 1) (v2.getD v4.toNat PV.top)) && true)))
def Jb4 (f : Nat) (rc : Bool -> Bool -> List PV -> Nat -> Int -> Int -> Int -> Bool -> List PV -> OR) (k0 : Nat -> Bool -> List PV -> OR) (v0 v1 : Bool) (v2 : List PV) (v3 : Nat) (v4 v5 v6 : Int) (v7 : Bool) (v8 : List PV) : OR := bif decide (v4 < zi v2.length) then bif decide (0 <= v4) && decide (v4 < zi v2.length) && (ZL v2 v4) && true then bif !((PV.child 0 (v2.getD v4.toNat PV.top)).int == v5 && ((PV.child (0 + 1) (v2.getD v4.toNat PV.top)).int == v6 && true)) then bif decide (0 <= v4) && decide (v4 < zi v2.length) && (ZL v2 v4) && true then bif Je (v3 + 1) 16 && true then rc v0 v1 v2 (v3 + 1) (IntKind.i64.wrap (v4 + 1)) v5 v6 (v7 && false) (List.take v3 v8 ++ [.st 67 [.sc (.int .i64 (PV.child 0 (v2.getD v4.toNat PV.top)).int), .sc (.int .i64 (PV.child (0 + 1) (v2.getD v4.toNat PV.top)).int)]]) else none else none else rc v0 v1 v2 v3 (IntKind.i64.wrap (v4 + 1)) v5 v6 v7 v8 else none else k0 v3 v7 v8
def Jaj (f : Nat) (k0 : Nat -> JFM
 | 0 => fun _ _ _ _ _ _ _ _ _ => none
 | n + 1 => Jb4 f (Jaj f k0 n) k0
def Jb5 (k : Kont) := fun x0 x1 x2 => k (Ex.exit 0) (Ji Jn8 N59 [.ow 67 544 [] 0 x0 none] [(544, .vec false 67 x1 x2)])
def Jn9 (f : Nat) (k : Kont) (n : Nat) (v0 v1 : Bool) (v2 : List PV) (v3 : Nat) (v4 v5 v6 : Int) (v7 : Bool) (v8 : List PV) : OR := Jx tau 0 JfH (fun s k => ev tau F59 0 0 JqA (Jvg ) s k) n (Ji JfH N59 [.ro 67 v0 v1 v2, .ptr 544 [], .ow 67 545 [] 0 v3 none, .sc (.int .i64 v4)] [(544, .box false 67 (PV.st 67 [.sc (.int .i64 v5), .sc (.int .i64 v6)])), (545, .vec false 67 v7 v8)]) (JG tau 0 Jn8 k)
theorem Jzc (f : Nat) (k : Kont) (n : Nat) : Jn9 f k (n + 1) = Jb4 f (Jn9 f k n) (Jb5 k) := by kernel_rfl
theorem JqB (f : Nat) (k : Kont) : ∀ n, Jn9 f k n = Jaj f (Jb5 k) n
 | 0 => rfl
 | n + 1 => (Jzc f k n).trans (congrArg (fun r => Jb4 f r (Jb5 k)) (JqB f k n))
def JfI (f : Nat) : List PV -> List (Nat × Ent) -> Kont -> OR
 | [.ro 67 v0 v1 v2, .ptr 544 [], .ow 67 545 [] 0 v3 none,
 PV.sc
  (Value.int IntKind.i64
   v4)], [(544, .box false 67 (PV.st 67 [.sc (.int .i64 v5), .sc (.int .i64 v6)])),
 (545, .vec false 67 v7 v8)], k => Jaj f (Jb5 k) f v0 v1 v2 v3 v4 v5 v6 v7 v8
 | _, _, _ => none
theorem JFN (f : Nat) : Jf JqA Jvg = [] := by kernel_rfl
theorem JFO (f : Nat) : (Item.l JqA JfH N59 (JfI f)).Ok tau Tryz.prog 0 := Jt Jn Jvf Jo (x := Jvg) (nm2 := Jn8) (Jl _ _ (by rw [JFN f]; intro q hq; cases hq)) fun vs hp k res hr => by
 unfold JfI at hr
 split at hr
 · rw [← JqB f] at hr; exact ⟨f, 0, hr⟩
 · cases hr
def g59 (f : Nat) (l_z l_f : Bool) (l : List PV) (a_D a_U : Int) (k : KR) : OR := bif pOk l then bif !hasP (PH.mk l (AV.mk a_D a_U)) then k (Res.mk (.tup [.ro 67 l_z l_f l, .sc (.int .i64 2)]) [] []) else Jaj f (fun x0_0 x1_0 x2_0 => k (Res.mk (.tup [.ro 67 (Ent.vec false 67 x1_0 x2_0).nil false (List.take x0_0 x2_0), .sc (.int .i64 0)]) [] [])) f l_z l_f l (0) (0) a_D a_U true ([]) else none
theorem e59 (f : Nat) (l_z l_f : Bool) (l : List PV) (a_D a_U : Int) (k : KR) : JI tau F59 Tryz.f59 (Tryz.f59.body.get!) (Jzb (JfI f)) [.ro, .ro] 0 [.ro 67 l_z l_f l, .st 67 [.sc (.int .i64 a_D), .sc (.int .i64 a_U)]] [] k = g59 f l_z l_f l a_D a_U k := by kernel_rfl
theorem JQf (f : Nat) : Jf (Tryz.f59.body.get!) (Jzb (JfI f)) = [.l JqA JfH N59 (JfI f)] := by kernel_rfl
theorem JQg (f : Nat) : ∀ q ∈ Jf (Tryz.f59.body.get!) (Jzb (JfI f)), q.Ok tau Tryz.prog 0 := by rw [JQf f]; exact JJ (JFO f) (fun _ h => nomatch h)
theorem JL7 : Tryz.prog.funcs[59]? = some Tryz.f59 := by kernel_rfl
theorem JL8 : Tryz.f59.body = some (Tryz.f59.body.get!) := by kernel_rfl
theorem JQh : Enters Tryz.prog 59 := enters_of JL7 (by kernel_rfl) JL8
def Wa : List PV -> AV -> Nat
 | [], _ => 0
 | p :: ps, a => bif ltA (av p) a then Wa ps a + 1 else 0
def Jak (l : List PV) (a : AV) : List PV := l.take (Wa l a) ++ adP a :: l.drop (Wa l a)
theorem Jb6 : ∀ (l : List PV) (a : AV), Wa l a <= l.length
 | [], _ => Nat.zero_le _
 | p :: ps, a => by
  simp only [Wa, List.length_cons]
  have := Jb6 ps a
  cases ltA (av p) a with
  | true => rw [cond_true]; omega
  | false => rw [cond_false]; omega
def Jb7 (x : PH) : Int := bif !inA [x.a.d, 2, x.a.u, 7] then 1 else bif hasL x.l x.a then 12 else bif decide (x.l.length >= 8) then 4 else 0
def adE : PH -> Int := hid Jb7
def adL : PH -> List PV := hid fun x => bif Jb7 x == 0 then Jak x.l x.a else x.l
def adF : PH -> Bool := hid fun x => !(Jb7 x == 0)
theorem Jvh (x : PH) : adE x = Jb7 x := by rw [adE, hid_eq]
theorem JcS (x : PH) : adL x = bif Jb7 x == 0 then Jak x.l x.a else x.l := by rw [adL, hid_eq]
theorem Joa (x : PH) : adF x = !(Jb7 x == 0) := by rw [adF, hid_eq]
def Jzd (x : PH) : Int := bif hasL x.l x.a then 0 else 2
def rmA (l : List PV) (a : AV) : List PV := l.filter fun p => !eqA (av p) a
def rmE : PH -> Int := hid Jzd
def rmL : PH -> List PV := hid fun x => bif hasL x.l x.a then rmA x.l x.a else x.l
def rmZ : PH -> Bool -> Bool := hid fun x z => bif hasL x.l x.a then (rmA x.l x.a).isEmpty else z
def rmF : PH -> Bool -> Bool := hid fun x f => bif hasL x.l x.a then false else f
theorem Jvi (x : PH) : rmE x = Jzd x := by rw [rmE, hid_eq]
theorem JcT (x : PH) : rmL x = bif hasL x.l x.a then rmA x.l x.a else x.l := by rw [rmL, hid_eq]
theorem Job (x : PH) (z : Bool) : rmZ x z = bif hasL x.l x.a then (rmA x.l x.a).isEmpty else z := by rw [rmZ, hid_eq]
theorem Jvj (x : PH) (z : Bool) : rmF x z = bif hasL x.l x.a then false else z := by rw [rmF, hid_eq]
theorem JCg (l : List PV) (d u : Int) (h1 : l.all Zx = true) (h2 : l.length <= 8) (f : Nat) (k0 : Bool -> Bool -> List PV -> Int -> Int -> Int -> OR) (z fl : Bool) : ∀ (e i n : Nat), i + e = l.length -> e < n ->
  Jai f k0 n z fl l (i : Int) d u = k0 z fl l ((i + Wa (l.drop i) ⟨d, u⟩ : Nat) : Int) d u
 | 0, i, n + 1, hi, hn => by
   rw [List.drop_of_length_le (by omega)]
   simp only [Jai, Jb2, Wa, Nat.add_zero]
   exact Jd (by simp [zi]; omega)
 | e + 1, i, n + 1, hi, hn => by
   have g1 := tI i
   have w1 := wI (i := i) (by omega)
   have hd := JY (l := l) (i := i) (by omega)
   have hc := Xa (Xb h1 (i := i) (by omega))
   unfold Vy at hc
   rw [hd]
   simp only [Jai, Jb2, g1, w1, JpW]
   refine (Ja (by simp [zi]; omega)).trans ((Ja (by rw [hc]; simp [zi]; omega)).trans ?_)
   have he : ltA ⟨(PV.child 0 (l.getD i PV.top)).int, (PV.child (0 + 1) (l.getD i PV.top)).int⟩ ⟨d, u⟩ = ltA (av (l.getD i .top)) ⟨d, u⟩ := rfl
   rw [he, Wa]
   cases ltA (av (l.getD i .top)) ⟨d, u⟩ with
   | false => rfl
   | true =>
    refine (Ja rfl).trans ((JCg l d u h1 h2 f k0 z fl e (i + 1) n (by omega) (by omega)).trans ?_)
    rw [cond_true, show i + 1 + Wa (l.drop (i + 1)) ⟨d, u⟩ = i + (Wa (l.drop (i + 1)) ⟨d, u⟩ + 1) from by omega]
def Joc : Jy
 | [.ro 67 z f l, .st 67 [.sc (.int .i64 d), .sc (.int .i64 u)]], [], k => bif pOk l then k ⟨.tup [.ro 67 (adF ⟨l, ⟨d, u⟩⟩ && z) (adF ⟨l, ⟨d, u⟩⟩ && f) (adL ⟨l, ⟨d, u⟩⟩), .sc (.int .i64 (adE ⟨l, ⟨d, u⟩⟩))], [], []⟩ else none
 | _, _, _ => none
def JL9 : Sig := { own := [], run := Joc }
theorem JFP (z f : Bool) (l : List PV) (d u : Int) (h : pOk l = true) (k : KR) : g58 20 z f l d u k = k ⟨.tup [.ro 67 (adF ⟨l, ⟨d, u⟩⟩ && z) (adF ⟨l, ⟨d, u⟩⟩ && f) (adL ⟨l, ⟨d, u⟩⟩), .sc (.int .i64 (adE ⟨l, ⟨d, u⟩⟩))], [], []⟩ := by
 obtain ⟨h1, _, h3⟩ := QJ.1 h
 unfold g58
 rw [hasP_eq, Jvh, JcS, Joa, Jb7]
 cases hu : inA [d, 2, u, 7] with
 | false => rfl
 | true =>
  refine (Jd rfl).trans ((Ja h).trans ?_)
  cases hh : hasL l ⟨d, u⟩ with
  | true => rfl
  | false =>
   refine (Jd rfl).trans ?_
   by_cases h8 : l.length >= 8
   · refine (Ja (by simp [zi]; omega)).trans ?_
     simp only [decide_eq_true h8, Bool.not_true, cond_false, cond_true]; rfl
   · refine (Jd (by simp [zi]; omega)).trans ?_
     simp only [decide_eq_false h8, Bool.not_true, cond_false]
     refine (JCg l d u h1 (by omega) 20 _ z f l.length 0 20 (by omega) (by omega)).trans ?_
     rw [List.drop_zero, Nat.zero_add]
     have hc := Jb6 l ⟨d, u⟩
     unfold Jak
     simp only [Int.toNat_natCast]
     generalize Wa l ⟨d, u⟩ = c at *
     have e0 : List.take l.length l = l := List.take_length
     have e1 : List.take (0 + (List.take c l).length) (List.take c l) = List.take c l := List.take_of_length_le (by omega)
     have e2 : ∀ p : PV, List.take (0 + (List.take c l).length + 1) (List.take c l ++ [p]) = List.take c l ++ [p] := fun p => List.take_of_length_le (by simp)
     have e3 : ∀ p : PV, List.take (0 + (List.take c l).length + 1 + (List.drop c l).length) (List.take c l ++ [p] ++ List.drop c l) = List.take c l ++ [p] ++ List.drop c l := fun p => List.take_of_length_le (by simp; omega)
     simp only [e0, e1, e2, e3]
     refine (Ja (by simp; omega)).trans ((Ja (by simp [Je]; omega)).trans ((Ja (by simp [Je]; omega)).trans ((Ja (by simp; omega)).trans ((Ja (by simp [Je]; omega)).trans ?_))))
     rw [List.append_assoc]; rfl
theorem JMa : Jc tau Tryz.prog 58 JL9 := Jc.mk' fun xs es k res hl hr => by
 change Joc xs es k = some res at hr
 unfold Joc at hr
 split at hr
 · rename_i z f l d u
   obtain ⟨hc, hr⟩ := Ju hr
   exact J1 Jn Jvc Jo JL5 JL6 (Jy9 (JfG 20)) [.ro, .ro] 0 0 (JQd 20) hl rfl ((e58 20 z f l d u k).trans ((JFP z f l d u hc k).trans hr))
 · cases hr
theorem Jvk (l : List PV) (d u : Int) (h1 : l.all Zx = true) (h2 : l.length <= 8) (f : Nat) (k0 : Nat -> Bool -> List PV -> OR) (z fl : Bool) : ∀ (e i n : Nat) (L : List PV), i + e = l.length -> e < n -> L.length <= i ->
  Jaj f k0 n z fl l L.length (i : Int) d u L.isEmpty L = k0 (L ++ rmA (l.drop i) ⟨d, u⟩).length (L ++ rmA (l.drop i) ⟨d, u⟩).isEmpty (L ++ rmA (l.drop i) ⟨d, u⟩)
 | 0, i, n + 1, L, hi, hn, hL => by
   rw [List.drop_of_length_le (by omega)]
   simp only [Jaj, Jb4, ZL, rmA, List.filter_nil, List.append_nil]
   exact Jd (by simp [zi]; omega)
 | e + 1, i, n + 1, L, hi, hn, hL => by
   have g1 := tI i
   have w1 := wI (i := i) (by omega)
   have hd := JY (l := l) (i := i) (by omega)
   have ha := Xb h1 (i := i) (by omega)
   have hc := Xa ha
   unfold Vy at hc
   rw [hd]
   simp only [Jaj, Jb4, ZL, g1, w1]
   have hrd : (decide (0 <= (i : Int)) && decide ((i : Int) < zi l.length) && (PV.isSt 67 #[Field.mk "D" 3 0 false "" "" 0, Field.mk "U" 3 1 false "" "" 8].size (l.getD i PV.top) && (PV.isInt IntKind.i64 (PV.child 0 (l.getD i PV.top)) && (PV.isInt IntKind.i64 (PV.child (0 + 1) (l.getD i PV.top)) && true))) && true) = true := by rw [hc]; simp [zi]; omega
   refine (Ja (by simp [zi]; omega)).trans ((Ja hrd).trans ?_)
   have he : ((PV.child 0 (l.getD i PV.top)).int == d && ((PV.child (0 + 1) (l.getD i PV.top)).int == u && true)) = eqA (av (l.getD i .top)) ⟨d, u⟩ := rfl
   have hp : PV.st 67 [.sc (.int .i64 (PV.child 0 (l.getD i PV.top)).int), .sc (.int .i64 (PV.child (0 + 1) (l.getD i PV.top)).int)] = l.getD i .top := Jyu ha
   rw [he, hp, rmA, List.filter_cons]
   have tk : List.take L.length L = L := List.take_length
   cases eqA (av (l.getD i .top)) ⟨d, u⟩ with
   | true =>
    refine (Jd rfl).trans ((Jvk l d u h1 h2 f k0 z fl e (i + 1) n L (by omega) (by omega) (by omega)).trans ?_)
    rfl
   | false =>
    have e1 : L.length + 1 = (L ++ [l.getD i .top]).length := by simp
    have e2 : (L.isEmpty && false) = (L ++ [l.getD i .top]).isEmpty := by simp
    refine (Ja rfl).trans ((Ja hrd).trans ((Ja (by simp [Je]; omega)).trans ?_))
    rw [tk, e1, e2]
    refine (Jvk l d u h1 h2 f k0 z fl e (i + 1) n _ (by omega) (by omega) (by simp; omega)).trans ?_
    rw [List.append_assoc]; rfl
def Jod : Jy
 | [.ro 67 z f l, .st 67 [.sc (.int .i64 d), .sc (.int .i64 u)]], [], k => bif pOk l then k ⟨.tup [.ro 67 (rmZ ⟨l, ⟨d, u⟩⟩ z) (rmF ⟨l, ⟨d, u⟩⟩ f) (rmL ⟨l, ⟨d, u⟩⟩), .sc (.int .i64 (rmE ⟨l, ⟨d, u⟩⟩))], [], []⟩ else none
 | _, _, _ => none
def JMb : Sig := { own := [], run := Jod }
theorem JFQ (z f : Bool) (l : List PV) (d u : Int) (h : pOk l = true) (k : KR) : g59 20 z f l d u k = k ⟨.tup [.ro 67 (rmZ ⟨l, ⟨d, u⟩⟩ z) (rmF ⟨l, ⟨d, u⟩⟩ f) (rmL ⟨l, ⟨d, u⟩⟩), .sc (.int .i64 (rmE ⟨l, ⟨d, u⟩⟩))], [], []⟩ := by
 obtain ⟨h1, _, h3⟩ := QJ.1 h
 unfold g59
 rw [hasP_eq, Jvi, JcT, Job, Jvj, Jzd]
 refine (Ja h).trans ?_
 cases hh : hasL l ⟨d, u⟩ with
 | false => rfl
 | true =>
  refine (Jd rfl).trans ((Jvk l d u h1 h3 20 _ z f l.length 0 20 [] (by omega) (by omega) (by simp)).trans ?_)
  rw [List.drop_zero, List.nil_append, List.take_length]; rfl
theorem JMc : Jc tau Tryz.prog 59 JMb := Jc.mk' fun xs es k res hl hr => by
 change Jod xs es k = some res at hr
 unfold Jod at hr
 split at hr
 · rename_i z f l d u
   obtain ⟨hc, hr⟩ := Ju hr
   exact J1 Jn Jvf Jo JL7 JL8 (Jzb (JfI 20)) [.ro, .ro] 0 0 (JQg 20) hl rfl ((e59 20 z f l d u k).trans ((JFQ z f l d u hc k).trans hr))
 · cases hr
/-! what stays -/
theorem Yd {p : PV} {l : List PV} : srt (p :: l) = true ↔ (∀ q ∈ l, ltA (av p) (av q) = true) /\ srt l = true := by
 simp only [srt, Bool.and_eq_true, List.all_eq_true]
theorem Jal (P : PV -> Bool) : ∀ {l : List PV}, srt l = true -> srt (l.filter P) = true
 | [], _ => rfl
 | p :: l, h => by
  obtain ⟨h1, h2⟩ := Yd.1 h
  rw [List.filter_cons]
  cases P p with
  | false => exact Jal P h2
  | true => exact Yd.2 ⟨fun q hq => h1 q (List.mem_filter.1 hq).1, Jal P h2⟩
theorem Jg8 {a b c : AV} (h : ltA a b = true) (h2 : ltA b c = true) : ltA a c = true := by
 rw [Yv] at *; omega
theorem Jvl {a b : AV} (h : ltA a b = false) (h2 : eqA a b = false) : ltA b a = true := by
 have h1 : ¬ ltA a b = true := by rw [h]; decide
 have h3 : ¬ eqA a b = true := by rw [h2]; decide
 rw [Yv] at h1
 rw [QI] at h3
 rw [Yv]
 rcases a with ⟨p, q⟩; rcases b with ⟨r, s⟩
 have : ¬ (p = r /\ q = s) := fun ⟨x, y⟩ => h3 (by rw [x, y])
 simp only at h1 ⊢
 omega
theorem Jg9 (p : PV) (l : List PV) (a : AV) : Jak (p :: l) a = bif ltA (av p) a then p :: Jak l a else adP a :: p :: l := by
 unfold Jak
 simp only [Wa]
 cases ltA (av p) a with
 | true => simp
 | false => simp
theorem Jb8 {a : AV} {q : PV} : ∀ {l : List PV}, q ∈ Jak l a -> q = adP a ∨ q ∈ l
 | [], h => by simp [Jak, Wa] at h; exact .inl h
 | p :: l, h => by
  rw [Jg9] at h
  cases hc : ltA (av p) a with
  | true =>
   rw [hc, cond_true] at h
   rcases List.mem_cons.1 h with h | h
   · exact .inr (h ▸ List.mem_cons_self)
   · rcases Jb8 h with h | h
     · exact .inl h
     · exact .inr (List.mem_cons_of_mem _ h)
  | false =>
   rw [hc, cond_false] at h
   exact List.mem_cons.1 h
theorem Jk3 {a : AV} : ∀ {l : List PV}, srt l = true -> hasL l a = false -> srt (Jak l a) = true
 | [], _, _ => rfl
 | p :: l, h, hh => by
  obtain ⟨h1, h2⟩ := Yd.1 h
  have hh2 : eqA (av p) a = false /\ hasL l a = false := by
   have : hasL (p :: l) a = (eqA (av p) a || hasL l a) := rfl
   rw [this, Bool.or_eq_false_iff] at hh; exact hh
  rw [Jg9]
  cases hc : ltA (av p) a with
  | true =>
   rw [cond_true]
   refine Yd.2 ⟨fun q hq => ?_, Jk3 h2 hh2.2⟩
   rcases Jb8 hq with rfl | hq
   · exact hc
   · exact h1 q hq
  | false =>
   rw [cond_false]
   have hl := Jvl hc hh2.1
   refine Yd.2 ⟨fun q hq => ?_, h⟩
   rcases List.mem_cons.1 hq with rfl | hq
   · exact hl
   · exact Jg8 hl (h1 q hq)
theorem VJ (l : List PV) (a : AV) : (Jak l a).length = l.length + 1 := by
 have := Jb6 l a
 simp [Jak]; omega
theorem Jze {x : PH} (h : pOk x.l = true) : pOk (adL x) = true := by
 rw [JcS]
 cases he : (Jb7 x == 0) with
 | false => exact h
 | true =>
  rw [cond_true]
  obtain ⟨h1, h2, h3⟩ := QJ.1 h
  unfold Jb7 at he
  cases hu : inA [x.a.d, 2, x.a.u, 7] with
  | false => rw [hu] at he; exact absurd (show false = true from he) (by decide)
  | true =>
   rw [hu] at he
   cases hh : hasL x.l x.a with
   | true => rw [hh] at he; exact absurd (show false = true from he) (by decide)
   | false =>
    rw [hh] at he
    by_cases h8 : x.l.length >= 8
    · rw [decide_eq_true h8] at he; exact absurd (show false = true from he) (by decide)
    · refine QJ.2 ⟨List.all_eq_true.2 fun q hq => ?_, Jk3 h2 hh, by rw [VJ]; omega⟩
      rcases Jb8 hq with rfl | hq
      · rfl
      · exact List.all_eq_true.1 h1 q hq
theorem Jzf {x : PH} (h : pOk x.l = true) : pOk (rmL x) = true := by
 rw [JcT]
 cases hasL x.l x.a with
 | false => exact h
 | true =>
  obtain ⟨h1, h2, h3⟩ := QJ.1 h
  exact QJ.2 ⟨List.all_eq_true.2 fun q hq => List.all_eq_true.1 h1 q (List.mem_filter.1 hq).1, Jal _ h2, by have := List.length_filter_le (fun p => !eqA (av p) x.a) x.l; show (rmA x.l x.a).length <= 8; unfold rmA; omega⟩
def F23 : Fns := Jr 59 JMb (Jr 58 JL9 (Jr 57 JL3 (Jr 56 JxQ (Jr 55 Jyw (Jr 54 JLF (Jr 20 JFC (F0)))))))
theorem JFR : Jp tau Tryz.prog F23 := (((((((Js).add JB7 JFy).add JLG JP1).add Juf JDO).add Jtr JDW).add JL4 JQb).add JMa JQe).add JMc JQh
def JFS : An := (.seq .leaf (.seq .leaf (.seq (.seq .leaf (.cond (.seq .leaf .leaf) .leaf)) (.seq (.seq .leaf (.cond (.seq .leaf .leaf) .leaf)) (.seq (.seq .leaf (.cond (.seq .leaf .leaf) .leaf)) (.seq .leaf (.seq (.block none (.seq .leaf (.cond (.seq .leaf (.seq .leaf (.cond .leaf .leaf))) (.seq .leaf (.cond .leaf (.seq .leaf (.cond .leaf .leaf))))))) (.seq (.seq .leaf (.cond (.seq .leaf .leaf) .leaf)) (.seq (.seq .leaf (.cond (.seq .leaf .leaf) .leaf)) (.seq .leaf (.seq .leaf (.seq .leaf .leaf))))))))))))
abbrev Wm (y0 : Int) (y1 : Int) := [PV.sc (.int .i64 y0), PV.sc (.int .i64 y1)]
abbrev Xi (y7 : List PV) (y10 : List PV) (y11 : List PV) (e_At : Int) (e_Op : List PV) := (pu IntKind.u8 (nxP (NX.mk y7 (EV.mk y10 y11 e_At e_Op))))
abbrev Ye (y5 : List PV) (y10 : List PV) := (PH.mk y5 (AV.mk (dF 5 y10) (dF 6 y10)))
abbrev JfJ (y0 : Int) (y1 : Int) (y2 : ByteArray) (y3 : Bool) (y4 : Bool) (y5 : List PV) (y6 : Int) (y7 : List PV) := (Res.mk (PV.tup [PV.st 49 [PV.st 46 (Wm y0 y1), PV.sc (.string y2), PV.ro 67 y3 y4 y5, PV.sc (.int .i64 y6), PV.ar 28 y7], PV.sc (.int .i64 16)]) [] [])
def g23 (f : Nat) (y0 y1 : Int) (y2 : ByteArray) (y3 y4 : Bool) (y5 : List PV) (y6 : Int) (y7 : List PV) (y8 y9 : Bool) (y10 y11 : List PV) (e_At : Int) (y12 y13 : Bool) (e_Op y14 y15 : List PV) (k : KR) : OR := bif byB y10 && y10.length.ble 1000000000 then bif dE y10 != 0 then k (Res.mk (.tup [.st 49 [.st 46 (Wm y0 y1), .sc (.string y2), .ro 67 y3 y4 y5, .sc (.int .i64 y6), .ar 28 y7], .sc (.int .i64 (dE y10))]) [] []) else bif e_At != y6 then k (Res.mk (.tup [.st 49 [.st 46 (Wm y0 y1), .sc (.string y2), .ro 67 y3 y4 y5, .sc (.int .i64 y6), .ar 28 y7], .sc (.int .i64 15)]) [] []) else bif decide (dF 3 y10 > y6) then k (Res.mk (.tup [.st 49 [.st 46 (Wm y0 y1), .sc (.string y2), .ro 67 y3 y4 y5, .sc (.int .i64 y6), .ar 28 y7], .sc (.int .i64 15)]) [] []) else bif pOk y5 then bif !hasP (PH.mk y5 (AV.mk (dF 0 y10) (dF 1 y10))) then k (Res.mk (.tup [.st 49 [.st 46 (Wm y0 y1), .sc (.string y2), .ro 67 y3 y4 y5, .sc (.int .i64 y6), .ar 28 y7], .sc (.int .i64 13)]) [] []) else bif dF 4 y10 == 1 then bif cOk e_Op then bif ckO e_Op == 0 then bif aOk e_Op then bif apE (AP.mk y2 e_Op) != 0 then k (Res.mk (.tup [.st 49 [.st 46 (Wm y0 y1), .sc (.string y2), .ro 67 y3 y4 y5, .sc (.int .i64 y6), .ar 28 y7], .sc (.int .i64 (apE (AP.mk y2 e_Op)))]) [] []) else bif h32 y7 && eOk (EV.mk y10 y11 e_At e_Op) then bif decide (y14.length = 32) && decide ((Xi y7 y10 y11 e_At e_Op).length = 32) && Jk IntKind.u8 y14 && Jk IntKind.u8 (Xi y7 y10 y11 e_At e_Op) && true then bif !J6 y14 (Xi y7 y10 y11 e_At e_Op) then k (JfJ y0 y1 y2 y3 y4 y5 y6 y7) else k (Res.mk (.tup [.st 49 [.st 46 (Wm y0 y1), .sc (.string (apD (AP.mk y2 e_Op))), .ro 67 y3 y4 y5, .sc (.int .i64 (IntKind.i64.wrap (y6 + 1))), .ar 28 y14], .sc (.int .i64 0)]) [] []) else none else none else none else bif ckO e_Op != 0 then k (Res.mk (.tup [.st 49 [.st 46 (Wm y0 y1), .sc (.string y2), .ro 67 y3 y4 y5, .sc (.int .i64 y6), .ar 28 y7], .sc (.int .i64 (ckO e_Op))]) [] []) else bif h32 y7 && eOk (EV.mk y10 y11 e_At e_Op) then bif decide (y14.length = 32) && decide ((Xi y7 y10 y11 e_At e_Op).length = 32) && Jk IntKind.u8 y14 && Jk IntKind.u8 (Xi y7 y10 y11 e_At e_Op) && true then bif !J6 y14 (Xi y7 y10 y11 e_At e_Op) then k (JfJ y0 y1 y2 y3 y4 y5 y6 y7) else k (Res.mk (.tup [.st 49 [.st 46 (Wm y0 y1), .sc (.string y2), .ro 67 y3 y4 y5, .sc (.int .i64 (IntKind.i64.wrap (y6 + 1))), .ar 28 y14], .sc (.int .i64 0)]) [] []) else none else none else none else bif decide (zi e_Op.length > 0) then k (Res.mk (.tup [.st 49 [.st 46 (Wm y0 y1), .sc (.string y2), .ro 67 y3 y4 y5, .sc (.int .i64 y6), .ar 28 y7], .sc (.int .i64 1)]) [] []) else bif dF 4 y10 == 2 then bif pOk y5 then bif adE (Ye y5 y10) != 0 then k (Res.mk (.tup [.st 49 [.st 46 (Wm y0 y1), .sc (.string y2), .ro 67 y3 y4 y5, .sc (.int .i64 y6), .ar 28 y7], .sc (.int .i64 (adE (Ye y5 y10)))]) [] []) else bif h32 y7 && eOk (EV.mk y10 y11 e_At e_Op) then bif decide (y14.length = 32) && decide ((Xi y7 y10 y11 e_At e_Op).length = 32) && Jk IntKind.u8 y14 && Jk IntKind.u8 (Xi y7 y10 y11 e_At e_Op) && true then bif !J6 y14 (Xi y7 y10 y11 e_At e_Op) then k (JfJ y0 y1 y2 y3 y4 y5 y6 y7) else k (Res.mk (.tup [.st 49 [.st 46 (Wm y0 y1), .sc (.string y2), .ro 67 (adF (Ye y5 y10) && y3) (adF (Ye y5 y10) && y4) (adL (Ye y5 y10)), .sc (.int .i64 (IntKind.i64.wrap (y6 + 1))), .ar 28 y14], .sc (.int .i64 0)]) [] []) else none else none else none else bif pOk y5 then bif rmE (Ye y5 y10) != 0 then k (Res.mk (.tup [.st 49 [.st 46 (Wm y0 y1), .sc (.string y2), .ro 67 y3 y4 y5, .sc (.int .i64 y6), .ar 28 y7], .sc (.int .i64 (rmE (Ye y5 y10)))]) [] []) else bif h32 y7 && eOk (EV.mk y10 y11 e_At e_Op) then bif decide (y14.length = 32) && decide ((Xi y7 y10 y11 e_At e_Op).length = 32) && Jk IntKind.u8 y14 && Jk IntKind.u8 (Xi y7 y10 y11 e_At e_Op) && true then bif !J6 y14 (Xi y7 y10 y11 e_At e_Op) then k (JfJ y0 y1 y2 y3 y4 y5 y6 y7) else k (Res.mk (.tup [.st 49 [.st 46 (Wm y0 y1), .sc (.string y2), .ro 67 (rmZ (Ye y5 y10) y3) (rmF (Ye y5 y10) y4) (rmL (Ye y5 y10)), .sc (.int .i64 (IntKind.i64.wrap (y6 + 1))), .ar 28 y14], .sc (.int .i64 0)]) [] []) else none else none else none else none else none
theorem e23 (f : Nat) (y0 y1 : Int) (y2 : ByteArray) (y3 y4 : Bool) (y5 : List PV) (y6 : Int) (y7 : List PV) (y8 y9 : Bool) (y10 y11 : List PV) (e_At : Int) (y12 y13 : Bool) (e_Op y14 y15 : List PV) (k : KR) : JI tau F23 Tryz.f23 (Tryz.f23.body.get!) JFS [.ro, .ro] 0 [.st 49 [.st 46 [.sc (.int .i64 y0), .sc (.int .i64 y1)], .sc (.string y2), .ro 67 y3 y4 y5, .sc (.int .i64 y6), .ar 28 y7], .st 34 [.st 30 [.ro 5 y8 y9 y10, .ar 28 y11], .sc (.int .i64 e_At), .ro 53 y12 y13 e_Op, .ar 28 y14, .ar 28 y15]] [] k = g23 f y0 y1 y2 y3 y4 y5 y6 y7 y8 y9 y10 y11 e_At y12 y13 e_Op y14 y15 k := by kernel_rfl
theorem JQi (f : Nat) : ∀ q ∈ Jf (Tryz.f23.body.get!) JFS, q.Ok tau Tryz.prog 0 := Jv (by kernel_rfl)
theorem JMd : Tryz.prog.funcs[23]? = some Tryz.f23 := by kernel_rfl
theorem JMe : Tryz.f23.body = some (Tryz.f23.body.get!) := by kernel_rfl
theorem JMf : Enters Tryz.prog 23 := enters_of JMd (by kernel_rfl) JMe
def Jvm : Jy
 | [.st 49 [.st 46 [.sc (.int .i64 y0), .sc (.int .i64 y1)], .sc (.string y2), .ro 67 y3 y4 y5, .sc (.int .i64 y6), .ar 28 y7], .st 34 [.st 30 [.ro 5 y8 y9 y10, .ar 28 y11], .sc (.int .i64 e_At), .ro 53 y12 y13 e_Op, .ar 28 y14, .ar 28 y15]], [], k => g23 0 y0 y1 y2 y3 y4 y5 y6 y7 y8 y9 y10 y11 e_At y12 y13 e_Op y14 y15 k
 | _, _, _ => none
def s23 : Sig := { own := [], run := Jvm }
theorem JQj : Jc tau Tryz.prog 23 s23 := JN Jn JFR Jo JMd JMe JFS [.ro, .ro] 0 [] Jvm (JQi 0) fun xs es k res hr => by
 unfold Jvm at hr
 split at hr
 · exact ⟨rfl, 0, (e23 0 _ _ _ _ _ _ _ _ _ _ _ _ _ _ _ _ _ _  _).trans hr⟩
 · cases hr
theorem JQk {τ : Tab} {m : Nat} {a b : TypeId} {pvs : List PV} (h : TyL τ m [a, b] pvs) : ∃ p q, pvs = [p, q] /\ Ty τ m a p /\ Ty τ m b q := by
 match pvs, h with
 | [p, q], h => exact ⟨p, q, rfl, h.1, h.2.1⟩
theorem Jzg {τ : Tab} {m : Nat} {a b c : TypeId} {pvs : List PV} (h : TyL τ m [a, b, c] pvs) : ∃ p q r, pvs = [p, q, r] /\ Ty τ m a p /\ Ty τ m b q /\ Ty τ m c r := by
 match pvs, h with
 | [p, q, r], h => exact ⟨p, q, r, rfl, h.1, h.2.1, h.2.2.1⟩
def F15 : Fns := F0
theorem JFT : Jp tau Tryz.prog F15 := Js
def JFU : An := (.seq .leaf (.seq .leaf (.seq .leaf .leaf)))
abbrev YH (b : List PV) := (List.take (Qg (zi b.length) 60).toNat b)
def g15 (f : Nat) (b_z b_f : Bool) (b : List PV) (k : KR) : OR := bif decide (0 <= Qg (zi b.length) 60) && true && decide ((Qg (zi b.length) 60).toNat <= b.length) && true then bif Je (2 + (YH b).length) 1 && true then bif Je (2 + (YH b).length) 1 && true then bif Je (2 + (YH b).length) 1 && true then k (Res.mk (.st 39 [.ro 5 false false (List.take (2 + (YH b).length) (.sc (.int .u8 107) :: .sc (.int .u8 48) :: id (YH b))), .ro 5 false false (List.take (2 + (YH b).length) (.sc (.int .u8 107) :: .sc (.int .u8 49) :: id (YH b))), .ro 5 false false (List.take (2 + (YH b).length) (.sc (.int .u8 107) :: .sc (.int .u8 50) :: id (YH b)))]) [] []) else none else none else none else none
theorem e15 (f : Nat) (b_z b_f : Bool) (b : List PV) (k : KR) : JI tau F15 Tryz.f15 (Tryz.f15.body.get!) JFU [.ro] 0 [.ro 5 b_z b_f b] [] k = g15 f b_z b_f b k := by kernel_rfl
theorem JQl (f : Nat) : ∀ q ∈ Jf (Tryz.f15.body.get!) JFU, q.Ok tau Tryz.prog 0 := Jv (by kernel_rfl)
theorem JMg : Tryz.prog.funcs[15]? = some Tryz.f15 := by kernel_rfl
theorem JMh : Tryz.f15.body = some (Tryz.f15.body.get!) := by kernel_rfl
theorem JQm : Enters Tryz.prog 15 := enters_of JMg (by kernel_rfl) JMh
def Jvn : Jy
 | [.ro 5 b_z b_f b], [], k => g15 0 b_z b_f b k
 | _, _, _ => none
def s15 : Sig := { own := [], run := Jvn }
theorem JQn : Jc tau Tryz.prog 15 s15 := JN Jn JFT Jo JMg JMh JFU [.ro] 0 [] Jvn (JQl 0) fun xs es k res hr => by
 unfold Jvn at hr
 split at hr
 · exact ⟨rfl, 0, (e15 0 _ _ _  _).trans hr⟩
 · cases hr
def i64B (n : Int) : Bool := decide (-9223372036854775808 <= n) && decide (n < 9223372036854775808)
structure MsgOk (ns : List Int) (ts : List ByteArray) (h : List Int) : Prop where
 len : ns.length = 12
 num : ∀ n, n < 12 -> i64B (ns.getD n 0) = true
 cnt : ts.length <= 4
 txt : ∀ t ∈ ts, t.size <= 65535
 sum : h.length = 32
 sumB : ∀ x ∈ h, 0 <= x /\ x < 256
def kb : Nat -> List PV -> List PV := hid fun i b => pu .u8 [107, 48 + i] ++ b.take 60
theorem JCh (i : Nat) (b : List PV) : kb i b = pu .u8 [107, 48 + i] ++ b.take 60 := by rw [kb, hid_eq]
theorem JMi (i : Nat) {b : List PV} (h : Jk .u8 b = true) : kOk (kb i b) = true := by
 rw [JCh]; unfold kOk
 have h2 : Jk .u8 (b.take 60) = true := by
  rw [QC h, Yk]; simp
 rw [Wd, h2, JO]
 simp; omega
def Joe : Jy
 | [.ro 5 z f b], [], k => k ⟨.st 39 [.ro 5 false false (kb 0 b), .ro 5 false false (kb 1 b), .ro 5 false false (kb 2 b)], [], []⟩
 | _, _, _ => none
def JMj : Sig := { own := [], run := Joe }
theorem JMk (n m : Nat) : (Qg (zi n) m).toNat = min n m := by unfold Qg; simp only [zi]; split <;> omega
theorem JMl : Jc tau Tryz.prog 15 JMj := JQn.of fun xs es k res hr => by
 change Joe xs es k = some res at hr
 unfold Joe at hr
 split at hr
 · rename_i z f b
   show g15 0 z f b k = some res
   have hm : (Qg (zi b.length) 60).toNat = min b.length 60 := JMk b.length 60
   have ht : List.take (min b.length 60) b = b.take 60 := by rw [Nat.min_comm, List.take_eq_take_iff]; omega
   have hl : (b.take 60).length <= 60 := by simp; omega
   have e : ∀ x y : Int, List.take (2 + (b.take 60).length) (.sc (.int .u8 x) :: .sc (.int .u8 y) :: id (b.take 60)) = .sc (.int .u8 x) :: .sc (.int .u8 y) :: b.take 60 := fun x y => List.take_of_length_le (by simp; omega)
   have hk : ∀ i, kb i b = .sc (.int .u8 107) :: .sc (.int .u8 (48 + i)) :: b.take 60 := fun i => by rw [JCh]; simp
   unfold g15 YH
   simp only [hm, ht, e]
   have hr4 : Je (2 + (b.take 60).length) 1 = true := by simp only [Je, Nat.mul_one, decide_eq_true_eq]; omega
   rw [Ja (by simp; unfold Qg; simp only [zi]; split <;> omega), hr4]
   simp only [hk] at hr
   exact hr
 · cases hr
def JFV : Nat -> C13 -> Int
 | 0, c => 1 + c.kd % 5
 | 1, c => c.fr % 3
 | 2, c => (c.fr % 3 + 1 + c.to % 2) % 3
 | 3, c => c.wh % 3
 | 4, c => c.wn % 100
 | 5, c => c.cd % 3
 | 6, c => c.cu % 8
 | 7, c => c.ve % 1073741824
 | 8, c => c.co % 1073741824
 | 9, c => c.ad % 3
 | 10, c => c.au % 8
 | 11, c => c.su % 1073741824
 | _, c => c.er % 256
def Y3 : Nat -> C13 -> Int := hid JFV
abbrev JRx (c : C13) : C13 := ⟨Y3 0 c, Y3 1 c, Y3 2 c, Y3 3 c, Y3 4 c, Y3 5 c, Y3 6 c, Y3 7 c, Y3 8 c, Y3 9 c, Y3 10 c, Y3 11 c, Y3 12 c⟩
def Jvo (T : TypeId) : List TypeId := match tau.und T with | some (.struct fds) => fds.toList.map (·.type) | _ => []
theorem Jvp {τ : Tab} {n : Nat} : ∀ (ts : List TypeId) (ps : List PV), ts.length = ps.length -> (∀ (i : Nat) (t : TypeId) (q : PV), ts[i]? = some t -> ps[i]? = some q -> Ty τ n t q) -> TyL τ n ts ps
 | [], [], _, _ => trivial
 | t :: ts, p :: ps, hl, h => ⟨h 0 t p rfl rfl, Jvp ts ps (by simpa using hl) fun i t q h1 h2 => h (i + 1) t q (by simpa using h1) (by simpa using h2)⟩
 | [], _ :: _, hl, _ => by simp at hl
 | _ :: _, [], hl, _ => by simp at hl
theorem VK {τ : Tab} {n : Nat} {t : TypeId} {ts : List TypeId} {ps : List PV} (h : TyL τ n (t :: ts) ps) : ∃ p r, ps = p :: r /\ Ty τ n t p /\ TyL τ n ts r := by
 cases ps with
 | nil => exact h.elim
 | cons p r => exact ⟨p, r, rfl, h.1, h.2⟩
theorem Ge {n : Nat} {T : TypeId} {tys : List TypeId} {p : PV} (hc : Jvo T = tys) (hne : tys ≠ []) (h : Ty tau (n + 1) T p) : ∃ fs, p = .st T fs /\ TyL tau n tys fs := by
 unfold Jvo at hc
 split at hc
 · rename_i fds hu
   obtain ⟨fs, rfl, hl, hf⟩ := Jrz hu h
   refine ⟨fs, rfl, Jvp tys fs (by rw [← hc]; simpa using hl.symm) fun i t q h1 h2 => ?_⟩
   rw [← hc, List.getElem?_map] at h1
   rw [Array.getElem?_toList] at h1
   cases hfi : fds[i]? with
   | none => rw [hfi] at h1; cases h1
   | some f =>
    rw [hfi] at h1
    obtain rfl := Option.some.inj h1
    exact hf i f q hfi h2
 · exact absurd hc.symm hne
theorem VL {n : Nat} {p : PV} (h : Ty tau (n + 1) 3 p) : ∃ x, p = .sc (.int .i64 x) /\ i64B x = true := by
 have u : tau.und 3 = some (.int .i64) := by kernel_rfl
 obtain ⟨x, rfl, hx⟩ := JlZ u h
 refine ⟨x, rfl, ?_⟩
 have e1 : IntKind.i64.min = -9223372036854775808 := rfl
 have e2 : IntKind.i64.max = 9223372036854775807 := rfl
 simp only [Lit.wf, e1, e2, Bool.and_eq_true, decide_eq_true_eq] at hx
 simp only [i64B, Bool.and_eq_true, decide_eq_true_eq]
 omega
theorem Jvq {n : Nat} : ∀ (l : List PV), (∀ q ∈ l, Ty tau (n + 1) 5 q) -> byB l = true
 | [], _ => rfl
 | p :: ps, h => by
  have u : tau.und 5 = some (.int .u8) := by kernel_rfl
  obtain ⟨x, rfl, hx⟩ := JlZ u (h p List.mem_cons_self)
  have ih := Jvq ps fun q hq => h q (List.mem_cons_of_mem _ hq)
  have e1 : IntKind.u8.min = 0 := rfl
  have e2 : IntKind.u8.max = 255 := rfl
  simp only [Lit.wf, e1, e2, Bool.and_eq_true, decide_eq_true_eq] at hx
  have e : byB (PV.sc (.int .u8 x) :: ps) = (((PV.sc (.int .u8 x)).isInt .u8 && (decide (0 <= (PV.sc (.int .u8 x)).int) && decide ((PV.sc (.int .u8 x)).int < 256))) && byB ps) := rfl
  rw [e, ih, Bool.and_true, Bool.and_eq_true, Bool.and_eq_true]
  exact ⟨rfl, decide_eq_true (by show 0 <= x; omega), decide_eq_true (by show x < 256; omega)⟩
theorem Jvr {n : Nat} {p : PV} (h : Ty tau (n + 2) 26 p) : ∃ z b, p = .ro 5 z false b /\ (z = true -> b = []) /\ b.length <= maxLen /\ byB b = true := by
 have u : tau.und 26 = some (.slice 5) := by kernel_rfl
 obtain ⟨z, b, rfl, h1, h2, h3⟩ := JaM u h
 exact ⟨z, b, rfl, h1, h2, Jvq b h3⟩
theorem Jjh {n : Nat} {p : PV} (h : Ty tau (n + 2) 28 p) : ∃ l, p = .ar 28 l /\ l.length = 32 /\ byB l = true := by
 have u : tau.und 28 = some (.array 32 5) := by kernel_rfl
 obtain ⟨l, rfl, h1, h2⟩ := Jso u h
 exact ⟨l, rfl, h1, Jvq l h2⟩
theorem JrI {n : Nat} {p : PV} (h : Ty tau (n + 3) 30 p) : ∃ z b m, p = .st 30 [.ro 5 z false b, .ar 28 m] /\ (z = true -> b = []) /\ b.length <= maxLen /\ byB b = true /\ m.length = 32 /\ byB m = true := by
 obtain ⟨fs, rfl, hf⟩ := Ge (n := n + 2) (T := 30) (tys := [26, 28]) (by kernel_rfl) (List.cons_ne_nil _ _) h
 obtain ⟨p, q, rfl, h1, h2⟩ := JQk hf
 obtain ⟨z, b, rfl, r1, r2, r3⟩ := Jvr h1
 obtain ⟨m, rfl, r4, r5⟩ := Jjh h2
 exact ⟨z, b, m, rfl, r1, r2, r3, r4, r5⟩
theorem Jzh {n : Nat} {p : PV} (h : Ty tau (n + 2) 53 p) : isCp p = true := by
 obtain ⟨fs, rfl, hf⟩ := Ge (n := n + 1) (T := 53) (tys := [3, 3, 9]) (by kernel_rfl) (List.cons_ne_nil _ _) h
 obtain ⟨p, q, r, rfl, h1, h2, h3⟩ := Jzg hf
 obtain ⟨a, rfl, _⟩ := VL h1
 obtain ⟨b, rfl, _⟩ := VL h2
 have u : tau.und 9 = some .string := by kernel_rfl
 obtain ⟨s, rfl, _⟩ := Jry u h3
 exact Je9.2 ⟨a, b, s, rfl⟩
theorem JMm {n : Nat} {p : PV} (h : Ty tau (n + 3) 32 p) : ∃ z l, p = .ro 53 z false l /\ (z = true -> l = []) /\ l.length <= maxLen /\ l.all isCp = true := by
 have u : tau.und 32 = some (.slice 53) := by kernel_rfl
 obtain ⟨z, b, rfl, h1, h2, h3⟩ := JaM u h
 exact ⟨z, b, rfl, h1, h2, List.all_eq_true.2 fun q hq => Jzh (h3 q hq)⟩
theorem Jzi {n : Nat} {p : PV} (h : Ty tau (n + 2) 23 p) : ∃ z l, p = .ro 3 z false l /\ (z = true -> l = []) /\ l.length <= maxLen /\ Jk .i64 l = true := by
 have u : tau.und 23 = some (.slice 3) := by kernel_rfl
 have u2 : tau.und 3 = some (.int .i64) := by kernel_rfl
 obtain ⟨z, b, rfl, h1, h2, h3⟩ := JaM u h
 exact ⟨z, b, rfl, h1, h2, Jo7 u2 b h3⟩
theorem JCi {n : Int} (h : 0 < n) (h2 : n < 1000000000000) : okW n = true := by rw [Jaf, Bool.and_eq_true, decide_eq_true_eq, decide_eq_true_eq]; exact ⟨h, h2⟩
theorem JrJ (s : ByteArray) : YB s s = true := by rw [Jpq]; exact decide_eq_true rfl
theorem Jk4 {l : List PV} (h : Jk .u8 l = true) : J6 l l = true := by
 rw [QC h, JcF]; exact beq_self_eq_true _
structure EW where
 (b m : List PV) (at1 : Int) (o h mc : List PV)
theorem ZM (x : Int) {m : Int} (h : 0 < m) : 0 <= x % m /\ x % m < m := ⟨Int.emod_nonneg _ (by omega), Int.emod_lt_of_pos _ h⟩
structure SV where
 (ih iN : Int) (doc : ByteArray) (l : List PV) (ver : Int) (hash : List PV)
structure DX where
 (s : SV) (e : EW)
def YI (e : EW) : EV := ⟨e.b, e.m, e.at1, e.o⟩
def auA (b : List PV) : AV := ⟨dF 0 b, dF 1 b⟩
def whA (b : List PV) : AV := ⟨dF 5 b, dF 6 b⟩
def chE (x : DX) : Int := bif dF 4 x.e.b == 1 then (bif ckO x.e.o == 0 then apE ⟨x.s.doc, x.e.o⟩ else ckO x.e.o) else bif decide (zi x.e.o.length > 0) then 1 else bif dF 4 x.e.b == 2 then adE ⟨x.s.l, whA x.e.b⟩ else rmE ⟨x.s.l, whA x.e.b⟩
def chD (x : DX) : ByteArray := bif dF 4 x.e.b == 1 then apD ⟨x.s.doc, x.e.o⟩ else x.s.doc
def chL (x : DX) : List PV := bif dF 4 x.e.b == 1 then x.s.l else bif dF 4 x.e.b == 2 then adL ⟨x.s.l, whA x.e.b⟩ else rmL ⟨x.s.l, whA x.e.b⟩
def chZ (x : DX) (z : Bool) : Bool := bif dF 4 x.e.b == 1 then z else bif dF 4 x.e.b == 2 then (adF ⟨x.s.l, whA x.e.b⟩ && z) else rmZ ⟨x.s.l, whA x.e.b⟩ z
def chF (x : DX) (f : Bool) : Bool := bif dF 4 x.e.b == 1 then f else bif dF 4 x.e.b == 2 then (adF ⟨x.s.l, whA x.e.b⟩ && f) else rmF ⟨x.s.l, whA x.e.b⟩ f
def dsE0 (x : DX) : Int := bif dE x.e.b != 0 then dE x.e.b else bif x.e.at1 != x.s.ver then 15 else bif decide (dF 3 x.e.b > x.s.ver) then 15 else bif !hasP ⟨x.s.l, auA x.e.b⟩ then 13 else bif chE x != 0 then chE x else bif !J6 x.e.h (pu .u8 (nxP ⟨x.s.hash, YI x.e⟩)) then 16 else 0
def dsE : DX -> Int := hid dsE0
def dsD : DX -> ByteArray := hid fun x => bif dsE0 x == 0 then chD x else x.s.doc
def dsL : DX -> List PV := hid fun x => bif dsE0 x == 0 then chL x else x.s.l
def dsZ : DX -> Bool -> Bool := hid fun x z => bif dsE0 x == 0 then chZ x z else z
def dsF : DX -> Bool -> Bool := hid fun x z => bif dsE0 x == 0 then chF x z else z
def dsV : DX -> Int := hid fun x => bif dsE0 x == 0 then x.s.ver + 1 else x.s.ver
def dsH : DX -> List PV := hid fun x => bif dsE0 x == 0 then x.e.h else x.s.hash
theorem JfK (x : DX) : dsE x = dsE0 x := by rw [dsE, hid_eq]
theorem Jji (x : DX) : dsD x = bif dsE0 x == 0 then chD x else x.s.doc := by rw [dsD, hid_eq]
theorem JfL (x : DX) : dsL x = bif dsE0 x == 0 then chL x else x.s.l := by rw [dsL, hid_eq]
theorem JfM (x : DX) (z : Bool) : dsZ x z = bif dsE0 x == 0 then chZ x z else z := by rw [dsZ, hid_eq]
theorem Jvs (x : DX) (z : Bool) : dsF x z = bif dsE0 x == 0 then chF x z else z := by rw [dsF, hid_eq]
theorem Jam (x : DX) : dsV x = bif dsE0 x == 0 then x.s.ver + 1 else x.s.ver := by rw [dsV, hid_eq]
theorem JcU (x : DX) : dsH x = bif dsE0 x == 0 then x.e.h else x.s.hash := by rw [dsH, hid_eq]
def uOk (l : List PV) : Bool := l.all fun p => inA [(av p).d, 2, (av p).u, 7]
def sOk : SV -> Bool := hid fun s => pOk s.l && (h32 s.hash && (decide (0 <= s.ver) && (decide (s.ver <= 1000000) && (decide (s.doc.size <= 120) && uOk s.l))))
theorem Xm {s : SV} : sOk s = true ↔ pOk s.l = true /\ h32 s.hash = true /\ 0 <= s.ver /\ s.ver <= 1000000 /\ s.doc.size <= 120 /\ uOk s.l = true := by
 rw [sOk, hid_eq]; simp only [Bool.and_eq_true, decide_eq_true_eq]
def eD : EW -> Bool := hid fun e => byB e.b && (eOk (YI e) && (cOk e.o && h32 e.h))
theorem Wn {e : EW} : eD e = true ↔ byB e.b = true /\ eOk (YI e) = true /\ cOk e.o = true /\ h32 e.h = true := by
 rw [eD, hid_eq]; simp only [Bool.and_eq_true]
def stP (s : SV) (z f : Bool) : PV := .st 49 [.st 46 [.sc (.int .i64 s.ih), .sc (.int .i64 s.iN)], .sc (.string s.doc), .ro 67 z f s.l, .sc (.int .i64 s.ver), .ar 28 s.hash]
def dsS (x : DX) : SV := ⟨x.s.ih, x.s.iN, dsD x, dsL x, dsV x, dsH x⟩
def dsP (x : DX) (z f : Bool) : PV := .tup [stP (dsS x) (dsZ x z) (dsF x f), .sc (.int .i64 (dsE x))]
theorem Jjj {x : DX} (h0 : (dsE0 x == 0) = false) : dsS x = x.s := by
 unfold dsS; rw [Jji, JfL, Jam, JcU, h0]; rfl
theorem Gf {x : DX} {e : Int} (h : dsE0 x = e) (h0 : (e == 0) = false) (z f : Bool) : dsP x z f = .tup [stP x.s z f, .sc (.int .i64 e)] := by
 have h1 : (dsE0 x == 0) = false := by rw [h]; exact h0
 unfold dsP; rw [Jjj h1, JfM, Jvs, JfK, h, h0]; rfl
theorem JFW {x : DX} (h : dsE0 x = 0) (z f : Bool) : dsP x z f = .tup [stP ⟨x.s.ih, x.s.iN, chD x, chL x, x.s.ver + 1, x.e.h⟩ (chZ x z) (chF x f), .sc (.int .i64 0)] := by
 unfold dsP dsS; rw [Jji, JfL, Jam, JcU, JfM, Jvs, JfK, h]; rfl
def Jof : Jy
 | [.st 49 [.st 46 [.sc (.int .i64 ih), .sc (.int .i64 iN)], .sc (.string doc), .ro 67 z f l, .sc (.int .i64 ver), .ar 28 hash], .st 34 [.st 30 [.ro 5 bz bf b, .ar 28 m], .sc (.int .i64 at1), .ro 53 oz of o, .ar 28 h, .ar 28 mc]], [], k =>
  bif sOk ⟨ih, iN, doc, l, ver, hash⟩ && eD ⟨b, m, at1, o, h, mc⟩ then k ⟨.tup [.st 49 [.st 46 [.sc (.int .i64 ih), .sc (.int .i64 iN)], .sc (.string (dsD ⟨⟨ih, iN, doc, l, ver, hash⟩, ⟨b, m, at1, o, h, mc⟩⟩)), .ro 67 (dsZ ⟨⟨ih, iN, doc, l, ver, hash⟩, ⟨b, m, at1, o, h, mc⟩⟩ z) (dsF ⟨⟨ih, iN, doc, l, ver, hash⟩, ⟨b, m, at1, o, h, mc⟩⟩ f) (dsL ⟨⟨ih, iN, doc, l, ver, hash⟩, ⟨b, m, at1, o, h, mc⟩⟩), .sc (.int .i64 (dsV ⟨⟨ih, iN, doc, l, ver, hash⟩, ⟨b, m, at1, o, h, mc⟩⟩)), .ar 28 (dsH ⟨⟨ih, iN, doc, l, ver, hash⟩, ⟨b, m, at1, o, h, mc⟩⟩)], .sc (.int .i64 (dsE ⟨⟨ih, iN, doc, l, ver, hash⟩, ⟨b, m, at1, o, h, mc⟩⟩))], [], []⟩ else none
 | _, _, _ => none
def JFX : Sig := { own := [], run := Jof }
theorem JFY (x : DX) (z f bz bf oz of : Bool) (hs : sOk x.s = true) (he : eD x.e = true) (k : KR) :
  g23 0 x.s.ih x.s.iN x.s.doc z f x.s.l x.s.ver x.s.hash bz bf x.e.b x.e.m x.e.at1 oz of x.e.o x.e.h x.e.mc k = k ⟨dsP x z f, [], []⟩ := by
 obtain ⟨s1, s2, s3, s4, s5, s6⟩ := Xm.1 hs
 obtain ⟨e1, e2, e3, e4⟩ := Wn.1 he
 have hbl : Nat.ble x.e.b.length 1000000000 = true := by have := (Qx.1 e2).2.1; rw [Nat.ble_eq]; show x.e.b.length <= _; have : x.e.b.length <= 65535 := this; omega
 have hev : EV.mk x.e.b x.e.m x.e.at1 x.e.o = YI x.e := rfl
 have hau : AV.mk (dF 0 x.e.b) (dF 1 x.e.b) = auA x.e.b := rfl
 have hwh : AV.mk (dF 5 x.e.b) (dF 6 x.e.b) = whA x.e.b := rfl
 have w1 : IntKind.i64.wrap (x.s.ver + 1) = x.s.ver + 1 := wrap_i64 (by omega) (by omega)
 unfold g23 JfJ Ye Xi Wm
 simp only [hev, hau, hwh, w1]
 have hnl : (pu .u8 (nxP ⟨x.s.hash, YI x.e⟩)).length = 32 := by rw [JD]; exact Yb _
 have HP : ∀ (A B : OR), (bif h32 x.s.hash && eOk (YI x.e) then bif decide (x.e.h.length = 32) && decide ((pu .u8 (nxP ⟨x.s.hash, YI x.e⟩)).length = 32) && Jk .u8 x.e.h && Jk .u8 (pu .u8 (nxP ⟨x.s.hash, YI x.e⟩)) && true then bif !J6 x.e.h (pu .u8 (nxP ⟨x.s.hash, YI x.e⟩)) then A else B else none else none) = bif !J6 x.e.h (pu .u8 (nxP ⟨x.s.hash, YI x.e⟩)) then A else B := fun A B =>
  (Ja (by rw [s2, e2]; rfl)).trans (Ja (by rw [(h32_iff.1 e4).1, (h32_iff.1 e4).2, hnl, JO]; rfl))
 refine (Ja (by rw [e1, hbl]; rfl)).trans ?_
 cases h1 : (dE x.e.b != 0) with
 | true => exact (Ja rfl).trans (by rw [Gf (e := dE x.e.b) (Ja h1) (by simpa [bne] using h1)]; rfl)
 | false =>
 refine (Jd rfl).trans ?_
 cases h2 : (x.e.at1 != x.s.ver) with
 | true => exact (Ja rfl).trans (by rw [Gf (e := 15) ((Jd h1).trans (Ja h2)) rfl]; rfl)
 | false =>
 refine (Jd rfl).trans ?_
 cases h3 : decide (dF 3 x.e.b > x.s.ver) with
 | true => exact (Ja rfl).trans (by rw [Gf (e := 15) ((Jd h1).trans ((Jd h2).trans (Ja h3))) rfl]; rfl)
 | false =>
 refine (Jd rfl).trans ((Ja s1).trans ?_)
 cases h4 : (!hasP ⟨x.s.l, auA x.e.b⟩) with
 | true => exact (Ja rfl).trans (by rw [Gf (e := 13) ((Jd h1).trans ((Jd h2).trans ((Jd h3).trans (Ja h4)))) rfl]; rfl)
 | false =>
 refine (Jd rfl).trans ?_
 have pre : ∀ {r : Int}, (bif chE x != 0 then chE x else bif !J6 x.e.h (pu .u8 (nxP ⟨x.s.hash, YI x.e⟩)) then 16 else 0) = r -> dsE0 x = r := fun h => (Jd h1).trans ((Jd h2).trans ((Jd h3).trans ((Jd h4).trans h)))
 have bad : ∀ {r : Int}, chE x = r -> (r != 0) = true -> dsP x z f = .tup [stP x.s z f, .sc (.int .i64 r)] := fun {r} h h0 => Gf (pre ((Ja (by rw [h]; exact h0)).trans h)) (by simpa [bne] using h0) z f
 have fin : chE x = 0 -> (bif !J6 x.e.h (pu .u8 (nxP ⟨x.s.hash, YI x.e⟩)) then k ⟨.tup [stP x.s z f, .sc (.int .i64 16)], [], []⟩ else k ⟨.tup [stP ⟨x.s.ih, x.s.iN, chD x, chL x, x.s.ver + 1, x.e.h⟩ (chZ x z) (chF x f), .sc (.int .i64 0)], [], []⟩) = k ⟨dsP x z f, [], []⟩ := fun h => by
  cases h6 : (!J6 x.e.h (pu .u8 (nxP ⟨x.s.hash, YI x.e⟩))) with
  | true => rw [Gf (pre ((Jd (by rw [h]; rfl)).trans (Ja h6))) rfl]; rfl
  | false => rw [JFW (pre ((Jd (by rw [h]; rfl)).trans (Jd h6)))]; rfl
 cases h5 : (dF 4 x.e.b == 1) with
 | true =>
  refine (Ja rfl).trans ((Ja e3).trans ?_)
  cases hc : (ckO x.e.o == 0) with
  | false =>
   have hE : chE x = ckO x.e.o := (Ja h5).trans (Jd hc)
   have hn : (ckO x.e.o != 0) = true := by simpa [bne] using hc
   refine (Jd rfl).trans ((Ja hn).trans ?_)
   rw [bad hE hn]; rfl
  | true =>
   refine (Ja rfl).trans ((Ja (JnY e3 (by simpa using hc))).trans ?_)
   have hE : chE x = apE ⟨x.s.doc, x.e.o⟩ := (Ja h5).trans (Ja hc)
   cases ha : (apE ⟨x.s.doc, x.e.o⟩ != 0) with
   | true => refine (Ja rfl).trans ?_; rw [bad hE ha]; rfl
   | false =>
    have cd : chD x = apD ⟨x.s.doc, x.e.o⟩ := Ja h5
    have cl : chL x = x.s.l := Ja h5
    have cz : chZ x z = z := Ja h5
    have cf : chF x f = f := Ja h5
    refine (Jd rfl).trans ((HP _ _).trans (Eq.trans ?_ (fin (hE.trans (by simpa [bne] using ha)))))
    rw [cd, cl, cz, cf]; rfl
 | false =>
  refine (Jd rfl).trans ?_
  have cd : chD x = x.s.doc := Jd h5
  cases h6 : decide (zi x.e.o.length > 0) with
  | true =>
   have hE : chE x = 1 := (Jd h5).trans (Ja h6)
   refine (Ja rfl).trans ?_; rw [bad hE rfl]; rfl
  | false =>
   refine (Jd rfl).trans ?_
   cases h7 : (dF 4 x.e.b == 2) with
   | true =>
    have hE : chE x = adE ⟨x.s.l, whA x.e.b⟩ := (Jd h5).trans ((Jd h6).trans (Ja h7))
    refine (Ja rfl).trans ((Ja s1).trans ?_)
    cases ha : (adE ⟨x.s.l, whA x.e.b⟩ != 0) with
    | true => refine (Ja rfl).trans ?_; rw [bad hE ha]; rfl
    | false =>
     have cl : chL x = adL ⟨x.s.l, whA x.e.b⟩ := (Jd h5).trans (Ja h7)
     have cz : chZ x z = (adF ⟨x.s.l, whA x.e.b⟩ && z) := (Jd h5).trans (Ja h7)
     have cf : chF x f = (adF ⟨x.s.l, whA x.e.b⟩ && f) := (Jd h5).trans (Ja h7)
     refine (Jd rfl).trans ((HP _ _).trans (Eq.trans ?_ (fin (hE.trans (by simpa [bne] using ha)))))
     rw [cd, cl, cz, cf]; rfl
   | false =>
    have hE : chE x = rmE ⟨x.s.l, whA x.e.b⟩ := (Jd h5).trans ((Jd h6).trans (Jd h7))
    refine (Jd rfl).trans ((Ja s1).trans ?_)
    cases ha : (rmE ⟨x.s.l, whA x.e.b⟩ != 0) with
    | true => refine (Ja rfl).trans ?_; rw [bad hE ha]; rfl
    | false =>
     have cl : chL x = rmL ⟨x.s.l, whA x.e.b⟩ := (Jd h5).trans (Jd h7)
     have cz : chZ x z = rmZ ⟨x.s.l, whA x.e.b⟩ z := (Jd h5).trans (Jd h7)
     have cf : chF x f = rmF ⟨x.s.l, whA x.e.b⟩ f := (Jd h5).trans (Jd h7)
     refine (Jd rfl).trans ((HP _ _).trans (Eq.trans ?_ (fin (hE.trans (by simpa [bne] using ha)))))
     rw [cd, cl, cz, cf]; rfl
theorem JCj : Jc tau Tryz.prog 23 JFX := JQj.of fun xs es k res hr => by
 change Jof xs es k = some res at hr
 unfold Jof at hr
 split at hr
 · rename_i ih iN doc z f l ver hash bz bf b m at1 oz of o h mc
   obtain ⟨hc, hr⟩ := Ju hr
   rw [Bool.and_eq_true] at hc
   exact (JFY ⟨⟨ih, iN, doc, l, ver, hash⟩, ⟨b, m, at1, o, h, mc⟩⟩ z f bz bf oz of hc.1 hc.2 k).trans hr
 · cases hr
theorem Jzj {x : PH} (h : uOk x.l = true) : uOk (adL x) = true := by
 rw [JcS]
 cases he : (Jb7 x == 0) with
 | false => exact h
 | true =>
  rw [cond_true]
  refine List.all_eq_true.2 fun q hq => ?_
  rcases Jb8 hq with rfl | hq
  · unfold Jb7 at he
    cases hu : inA [x.a.d, 2, x.a.u, 7] with
    | false => rw [hu] at he; exact absurd (show false = true from he) (by decide)
    | true => exact hu
  · exact List.all_eq_true.1 h q hq
theorem Jzk {x : PH} (h : uOk x.l = true) : uOk (rmL x) = true := by
 rw [JcT]
 cases hasL x.l x.a with
 | false => exact h
 | true => exact List.all_eq_true.2 fun q hq => List.all_eq_true.1 h q (List.mem_filter.1 hq).1
theorem JqC {x : DX} (hs : sOk x.s = true) (he : eD x.e = true) (hv : x.s.ver < 1000000) : sOk (dsS x) = true := by
 cases h : (dsE0 x == 0) with
 | false => rw [Jjj h]; exact hs
 | true =>
  obtain ⟨s1, s2, s3, s4, s5, s6⟩ := Xm.1 hs
  obtain ⟨e1, e2, e3, e4⟩ := Wn.1 he
  have hE : dsE0 x = 0 := by simpa using h
  unfold dsS
  rw [Jji, JfL, Jam, JcU, h]
  refine Xm.2 ⟨?_, e4, by show 0 <= x.s.ver + 1; omega, by show x.s.ver + 1 <= 1000000; omega, ?_, ?_⟩
  rotate_left 2
  · show uOk (chL x) = true
    unfold chL
    cases dF 4 x.e.b == 1 with
    | true => exact s6
    | false =>
     cases dF 4 x.e.b == 2 with
     | true => exact Jzj (x := ⟨x.s.l, whA x.e.b⟩) s6
     | false => exact Jzk (x := ⟨x.s.l, whA x.e.b⟩) s6
  · show pOk (chL x) = true
    unfold chL
    cases dF 4 x.e.b == 1 with
    | true => exact s1
    | false =>
     cases dF 4 x.e.b == 2 with
     | true => exact Jze (x := ⟨x.s.l, whA x.e.b⟩) s1
     | false => exact Jzf (x := ⟨x.s.l, whA x.e.b⟩) s1
  · show (chD x).size <= 120
    unfold chD
    cases h5 : (dF 4 x.e.b == 1) with
    | false => exact s5
    | true =>
     show (apD ⟨x.s.doc, x.e.o⟩).size <= 120
     cases hc : (ckO x.e.o == 0) with
     | true => exact Jvb (x := ⟨x.s.doc, x.e.o⟩) (JnY e3 (by simpa using hc))
     | false =>
      have hn : ckO x.e.o ≠ 0 := by simpa using hc
      have hE2 : chE x = ckO x.e.o := (Ja h5).trans (Jd hc)
      exfalso
      unfold dsE0 at hE
      rw [hE2] at hE
      cases h1 : (dE x.e.b != 0) with
      | true => rw [h1] at hE; rw [show dE x.e.b = 0 from hE] at h1; exact absurd h1 (by decide)
      | false =>
       rw [h1] at hE
       cases h2 : (x.e.at1 != x.s.ver) with
       | true => rw [h2] at hE; exact absurd (show (15 : Int) = 0 from hE) (by decide)
       | false =>
        rw [h2] at hE
        cases h3 : decide (dF 3 x.e.b > x.s.ver) with
        | true => rw [h3] at hE; exact absurd (show (15 : Int) = 0 from hE) (by decide)
        | false =>
         rw [h3] at hE
         cases h4 : (!hasP ⟨x.s.l, auA x.e.b⟩) with
         | true => rw [h4] at hE; exact absurd (show (13 : Int) = 0 from hE) (by decide)
         | false =>
          rw [h4] at hE
          have hE : (bif ckO x.e.o != 0 then ckO x.e.o else bif !J6 x.e.h (pu .u8 (nxP ⟨x.s.hash, YI x.e⟩)) then 16 else 0) = 0 := hE
          rw [show (ckO x.e.o != 0) = true from by simpa [bne] using hn] at hE
          exact hn hE
structure SW where
 (a b : SV)
def Jha : SW -> Bool := hid fun x => (x.a.ih == x.b.ih && (x.a.iN == x.b.iN && true)) && (YB x.a.doc x.b.doc && (Jug ⟨x.a.l, x.b.l⟩ && (x.a.ver == x.b.ver && J6 x.a.hash x.b.hash)))
theorem Jk5 (x : SW) : Jha x = ((x.a.ih == x.b.ih && (x.a.iN == x.b.iN && true)) && (YB x.a.doc x.b.doc && (Jug ⟨x.a.l, x.b.l⟩ && (x.a.ver == x.b.ver && J6 x.a.hash x.b.hash)))) := by rw [Jha, hid_eq]
def wOk : SV -> Bool := hid fun s => JcP s.l && h32 s.hash
theorem Jd2 {s : SV} : wOk s = true ↔ JcP s.l = true /\ h32 s.hash = true := by rw [wOk, hid_eq, Bool.and_eq_true]
def Jog : Jy
 | [], [], k => k ⟨.sc (.bool true), [], []⟩
 | _, _, _ => none
def JMn : Sig := { own := [], run := Jog }
theorem JMo : Jc tau Tryz.prog 12 JMn := JOH.of fun xs es k res hr => by
 change Jog xs es k = some res at hr
 unfold Jog at hr
 split at hr
 · refine Eq.trans ?_ hr
   show g12 0 _ = _
   unfold g12
   exact Ja (by rw [Je0, hid_eq]; rfl)
 · cases hr
def F13 : Fns := F0
theorem JFZ : Jp tau Tryz.prog F13 := Js
def JF0 : An := (.seq .leaf (.seq .leaf .leaf))
def g13 (f : Nat) (l_z l_f : Bool) (l : List PV) (k : KR) : OR := k (Res.mk (.sc (.bool (decide (zi l.length <= 25)))) [] [])
theorem e13 (f : Nat) (l_z l_f : Bool) (l : List PV) (k : KR) : JI tau F13 Tryz.f13 (Tryz.f13.body.get!) JF0 [.ro] 0 [.ro 25 l_z l_f l] [] k = g13 f l_z l_f l k := by kernel_rfl
theorem JQo (f : Nat) : ∀ q ∈ Jf (Tryz.f13.body.get!) JF0, q.Ok tau Tryz.prog 0 := Jv (by kernel_rfl)
theorem JMp : Tryz.prog.funcs[13]? = some Tryz.f13 := by kernel_rfl
theorem JMq : Tryz.f13.body = some (Tryz.f13.body.get!) := by kernel_rfl
theorem JQp : Enters Tryz.prog 13 := enters_of JMp (by kernel_rfl) JMq
def Jvt : Jy
 | [.ro 25 l_z l_f l], [], k => g13 0 l_z l_f l k
 | _, _, _ => none
def s13 : Sig := { own := [], run := Jvt }
theorem JQq : Jc tau Tryz.prog 13 s13 := JN Jn JFZ Jo JMp JMq JF0 [.ro] 0 [] Jvt (JQo 0) fun xs es k res hr => by
 unfold Jvt at hr
 split at hr
 · exact ⟨rfl, 0, (e13 0 _ _ _  _).trans hr⟩
 · cases hr
def F14 : Fns := Jr 41 JI1 (F0)
theorem JF1 : Jp tau Tryz.prog F14 := (Js).add JI2 JOW
def JF2 : An := (.seq .leaf (.seq .leaf .leaf))
def g14 (f : Nat) (y0 y1 : Bool) (y2 y3 : List PV) (e_At : Int) (y4 y5 : Bool) (e_Op y6 y7 : List PV) (k : KR) : OR := bif decide (zi y2.length <= 300) then bif cOk e_Op then k (Res.mk (.sc (.bool (JmP e_Op))) [] []) else none else k (Res.mk (.sc (.bool false)) [] [])
theorem e14 (f : Nat) (y0 y1 : Bool) (y2 y3 : List PV) (e_At : Int) (y4 y5 : Bool) (e_Op y6 y7 : List PV) (k : KR) : JI tau F14 Tryz.f14 (Tryz.f14.body.get!) JF2 [.ro] 0 [.st 34 [.st 30 [.ro 5 y0 y1 y2, .ar 28 y3], .sc (.int .i64 e_At), .ro 53 y4 y5 e_Op, .ar 28 y6, .ar 28 y7]] [] k = g14 f y0 y1 y2 y3 e_At y4 y5 e_Op y6 y7 k := by kernel_rfl
theorem JQr (f : Nat) : ∀ q ∈ Jf (Tryz.f14.body.get!) JF2, q.Ok tau Tryz.prog 0 := Jv (by kernel_rfl)
theorem JMr : Tryz.prog.funcs[14]? = some Tryz.f14 := by kernel_rfl
theorem JMs : Tryz.f14.body = some (Tryz.f14.body.get!) := by kernel_rfl
theorem JQs : Enters Tryz.prog 14 := enters_of JMr (by kernel_rfl) JMs
def Jvu : Jy
 | [.st 34 [.st 30 [.ro 5 y0 y1 y2, .ar 28 y3], .sc (.int .i64 e_At), .ro 53 y4 y5 e_Op, .ar 28 y6, .ar 28 y7]], [], k => g14 0 y0 y1 y2 y3 e_At y4 y5 e_Op y6 y7 k
 | _, _, _ => none
def s14 : Sig := { own := [], run := Jvu }
theorem JQt : Jc tau Tryz.prog 14 s14 := JN Jn JF1 Jo JMr JMs JF2 [.ro] 0 [] Jvu (JQr 0) fun xs es k res hr => by
 unfold Jvu at hr
 split at hr
 · exact ⟨rfl, 0, (e14 0 _ _ _ _ _ _ _ _ _ _  _).trans hr⟩
 · cases hr
def F18 : Fns := F0
theorem JF3 : Jp tau Tryz.prog F18 := Js
def JF4 : An := (.seq .leaf (.seq .leaf (.seq (.seq .leaf (.cond .leaf .leaf)) (.seq .leaf .leaf))))
def g18 (f : Nat) (at1 n : Int) (k : KR) : OR := bif !decide (n = 0) && true then bif decide (at1.tmod n < 0) then k (Res.mk (.sc (.int .i64 (IntKind.i64.wrap (at1.tmod n + n)))) [] []) else k (Res.mk (.sc (.int .i64 (at1.tmod n))) [] []) else none
theorem e18 (f : Nat) (at1 n : Int) (k : KR) : JI tau F18 Tryz.f18 (Tryz.f18.body.get!) JF4 [.ro] 0 [.sc (.int .i64 at1), .sc (.int .i64 n)] [] k = g18 f at1 n k := by kernel_rfl
theorem JQu (f : Nat) : ∀ q ∈ Jf (Tryz.f18.body.get!) JF4, q.Ok tau Tryz.prog 0 := Jv (by kernel_rfl)
theorem JMt : Tryz.prog.funcs[18]? = some Tryz.f18 := by kernel_rfl
theorem JMu : Tryz.f18.body = some (Tryz.f18.body.get!) := by kernel_rfl
theorem JF5 : Enters Tryz.prog 18 := enters_of JMt (by kernel_rfl) JMu
def Jvv : Jy
 | [.sc (.int .i64 at1), .sc (.int .i64 n)], [], k => g18 0 at1 n k
 | _, _, _ => none
def s18 : Sig := { own := [], run := Jvv }
theorem JQv : Jc tau Tryz.prog 18 s18 := JN Jn JF3 Jo JMt JMu JF4 [.ro] 0 [] Jvv (JQu 0) fun xs es k res hr => by
 unfold Jvv at hr
 split at hr
 · exact ⟨rfl, 0, (e18 0 _ _  _).trans hr⟩
 · cases hr
def Joh : Jy
 | [.sc (.int .i64 a), .sc (.int .i64 n)], [], k => bif okW n then k ⟨.sc (.int .i64 (a % n)), [], []⟩ else none
 | _, _, _ => none
def Jzl : Sig := { own := [], run := Joh }
theorem JF6 (a n : Int) (h : 0 < n) (h2 : n < 1000000000000) (k : KR) : g18 0 a n k = k ⟨.sc (.int .i64 (a % n)), [], []⟩ := by
 have hn : (n == 0) = false := by simp; omega
 have e := Int.tmod_eq_emod (a := a) (b := n)
 have e0 := Int.emod_nonneg a (show n ≠ 0 by omega)
 have e1 := Int.emod_lt_of_pos a h
 have hna : (n.natAbs : Int) = n := by omega
 unfold g18
 refine (Ja (by simp; omega)).trans ?_
 by_cases hc : a.tmod n < 0
 · refine (Ja (by simpa using hc)).trans ?_
   have : IntKind.i64.wrap (a.tmod n + n) = a % n := by
    split at e <;> (rw [wrap_i64 (by omega) (by omega)]; omega)
   rw [this]
 · refine (Jd (by simpa using hc)).trans ?_
   have : a.tmod n = a % n := by split at e <;> omega
   rw [this]
theorem Jvw : Jc tau Tryz.prog 18 Jzl := JQv.of fun xs es k res hr => by
 change Joh xs es k = some res at hr
 unfold Joh at hr
 split at hr
 · obtain ⟨hc, hr⟩ := Ju hr
   simp only [Jaf, Bool.and_eq_true, decide_eq_true_eq] at hc
   exact (JF6 _ _ hc.1 hc.2 _).trans hr
 · cases hr
def F45 : Fns := F0
theorem JF7 : Jp tau Tryz.prog F45 := Js
def JF8 : An := (.seq .leaf (.seq .leaf (.seq (.seq .leaf (.cond .leaf .leaf)) (.seq .leaf .leaf))))
def g45 (f : Nat) (at1 n : Int) (k : KR) : OR := bif !decide (n = 0) && true then bif decide (at1.tmod n < 0) then k (Res.mk (.sc (.int .i64 (IntKind.i64.wrap (at1.tmod n + n)))) [] []) else k (Res.mk (.sc (.int .i64 (at1.tmod n))) [] []) else none
theorem e45 (f : Nat) (at1 n : Int) (k : KR) : JI tau F45 Tryz.f45 (Tryz.f45.body.get!) JF8 [.ro] 0 [.sc (.int .i64 at1), .sc (.int .i64 n)] [] k = g45 f at1 n k := by kernel_rfl
theorem JQw (f : Nat) : ∀ q ∈ Jf (Tryz.f45.body.get!) JF8, q.Ok tau Tryz.prog 0 := Jv (by kernel_rfl)
theorem JMv : Tryz.prog.funcs[45]? = some Tryz.f45 := by kernel_rfl
theorem JMw : Tryz.f45.body = some (Tryz.f45.body.get!) := by kernel_rfl
theorem JQx : Enters Tryz.prog 45 := enters_of JMv (by kernel_rfl) JMw
def Jvx : Jy
 | [.sc (.int .i64 at1), .sc (.int .i64 n)], [], k => g45 0 at1 n k
 | _, _, _ => none
def s45 : Sig := { own := [], run := Jvx }
theorem JQy : Jc tau Tryz.prog 45 s45 := JN Jn JF7 Jo JMv JMw JF8 [.ro] 0 [] Jvx (JQw 0) fun xs es k res hr => by
 unfold Jvx at hr
 split at hr
 · exact ⟨rfl, 0, (e45 0 _ _  _).trans hr⟩
 · cases hr
def Joi : Jy
 | [.sc (.int .i64 a), .sc (.int .i64 n)], [], k => bif okW n then k ⟨.sc (.int .i64 (a % n)), [], []⟩ else none
 | _, _, _ => none
def JMx : Sig := { own := [], run := Joi }
theorem JF9 (a n : Int) (h : 0 < n) (h2 : n < 1000000000000) (k : KR) : g45 0 a n k = k ⟨.sc (.int .i64 (a % n)), [], []⟩ := by
 have hn : (n == 0) = false := by simp; omega
 have e := Int.tmod_eq_emod (a := a) (b := n)
 have e0 := Int.emod_nonneg a (show n ≠ 0 by omega)
 have e1 := Int.emod_lt_of_pos a h
 have hna : (n.natAbs : Int) = n := by omega
 unfold g45
 refine (Ja (by simp; omega)).trans ?_
 by_cases hc : a.tmod n < 0
 · refine (Ja (by simpa using hc)).trans ?_
   have : IntKind.i64.wrap (a.tmod n + n) = a % n := by
    split at e <;> (rw [wrap_i64 (by omega) (by omega)]; omega)
   rw [this]
 · refine (Jd (by simpa using hc)).trans ?_
   have : a.tmod n = a % n := by split at e <;> omega
   rw [this]
theorem JMy : Jc tau Tryz.prog 45 JMx := JQy.of fun xs es k res hr => by
 change Joi xs es k = some res at hr
 unfold Joi at hr
 split at hr
 · obtain ⟨hc, hr⟩ := Ju hr
   simp only [Jaf, Bool.and_eq_true, decide_eq_true_eq] at hc
   exact (JF9 _ _ hc.1 hc.2 _).trans hr
 · cases hr
def N19 : Nat := 114
def F19 : Fns := Jr 45 JMx (F0)
theorem Jvy : Jp tau Tryz.prog F19 := (Js).add JMy JQx
def JqD : Code := Qd (Tryz.f19.body.get!) [1, 1, 1, 0, 1, 0, 0]
def JfN : Nm := [(0, .any), (1, .any), (5, .own), (6, .any), (7, .any)]
def Joj : Nm := [(0, .any), (1, .any), (5, .any), (6, .any)]
def XA : An := (.seq (.seq .leaf (.cond .leaf .leaf)) (.seq (.block none (.seq .leaf (.seq .leaf (.block none (.seq (.seq .leaf (.cond .leaf .leaf)) (.cond (.seq .leaf .leaf) (.seq .leaf (.cond (.seq .leaf .leaf) (.seq .leaf (.cond (.seq .leaf (.seq .leaf (.cond (.seq .leaf .leaf) .leaf))) .leaf)))))))))) .leaf))
def Jzm (r0 : Qt) : An := (.seq .leaf (.seq .leaf (.seq .leaf (.seq (.seq .leaf (.block none (.sum JfN N19 r0))) (.seq (.seq .leaf (.cond .leaf .leaf)) (.seq (.seq .leaf (.cond .leaf .leaf)) (.seq .leaf .leaf)))))))
abbrev Jvz := Int -> Bool -> Bool -> List PV -> Nat -> Int -> Int -> Bool -> List PV -> OR
abbrev Q3 (v3 : List PV) (v6 : Int) := (1 + IntKind.i64.wrap ((v3.getD v6.toNat PV.top).int.tdiv 7) % 5)
abbrev QK (v3 : List PV) (v6 : Int) := ((ByteArray.mk (Array.mk (u8l [97, 98, 99, 100, 101, 102, 103, 104, 105, 106]))).extract 0 (IntKind.i64.wrap (Q3 v3 v6)).toNat)
abbrev Qz (v0 : Int) (v3 : List PV) (v6 : Int) := (1 + IntKind.i64.wrap ((v3.getD v6.toNat PV.top).int.tdiv 7) % Qg v0 9)
abbrev Wo (v0 : Int) (v3 : List PV) (v6 : Int) := (IntKind.i64.wrap (v0 - IntKind.i64.wrap (Qz v0 v3 v6)))
def Gg (f : Nat) (rc : Jvz) (k0 : Int -> Bool -> Bool -> List PV -> Nat -> Int -> Bool -> List PV -> OR) (v0 : Int) (v1 v2 : Bool) (v3 : List PV) (v4 : Nat) (v5 v6 : Int) (v7 : Bool) (v8 : List PV) : OR := bif decide (v6 < zi v3.length) then bif decide (v6 < 12) then bif decide (v0 > 0) then bif decide (0 <= v6) && decide (v6 < zi v3.length) && PV.isInt IntKind.i64 (v3.getD v6.toNat PV.top) && true then bif okW (Qg v0 9) then bif decide (0 <= v6) && decide (v6 < zi v3.length) && PV.isInt IntKind.i64 (v3.getD v6.toNat PV.top) && true then bif okW 4 then bif (v3.getD v6.toNat PV.top).int % 4 == 0 then bif (v3.getD v6.toNat PV.top).int % 4 == 0 then bif Je (v4 + 1) 32 && true then rc (Wo v0 v3 v6) v1 v2 v3 (v4 + 1) v5 (IntKind.i64.wrap (v6 + 1)) (v7 && false) (List.take v4 v8 ++ [.st 53 [.sc (.int .i64 1), .sc (.int .i64 (IntKind.i64.wrap (Qz v0 v3 v6))), .sc (.string (ByteArray.mk #[]))]]) else none else bif (v3.getD v6.toNat PV.top).int % 4 == 2 then bif Je (v4 + 1) 32 && true then rc (Wo v0 v3 v6) v1 v2 v3 (v4 + 1) (IntKind.i64.wrap (v5 - IntKind.i64.wrap (Qz v0 v3 v6))) (IntKind.i64.wrap (v6 + 1)) (v7 && false) (List.take v4 v8 ++ [.st 53 [.sc (.int .i64 3), .sc (.int .i64 (IntKind.i64.wrap (Qz v0 v3 v6))), .sc (.string (ByteArray.mk #[]))]]) else none else bif (v3.getD v6.toNat PV.top).int % 4 == 3 then bif decide (0 <= v6) && decide (v6 < zi v3.length) && PV.isInt IntKind.i64 (v3.getD v6.toNat PV.top) && true then bif okW 5 then bif decide (0 <= IntKind.i64.wrap (Q3 v3 v6)) && true && decide ((IntKind.i64.wrap (Q3 v3 v6)).toNat <= 10) && true then bif decide (IntKind.i64.wrap (v5 + zi (QK v3 v6).size) <= 120) then bif Je (v4 + 1) 32 && true then rc v0 v1 v2 v3 (v4 + 1) (IntKind.i64.wrap (v5 + zi (QK v3 v6).size)) (IntKind.i64.wrap (v6 + 1)) (v7 && false) (List.take v4 v8 ++ [.st 53 [.sc (.int .i64 2), .sc (.int .i64 0), .sc (.string (QK v3 v6))]]) else none else rc v0 v1 v2 v3 v4 v5 (IntKind.i64.wrap (v6 + 1)) v7 v8 else none else none else none else rc v0 v1 v2 v3 v4 v5 (IntKind.i64.wrap (v6 + 1)) v7 v8 else bif (v3.getD v6.toNat PV.top).int % 4 == 1 then bif Je (v4 + 1) 32 && true then rc (Wo v0 v3 v6) v1 v2 v3 (v4 + 1) v5 (IntKind.i64.wrap (v6 + 1)) (v7 && false) (List.take v4 v8 ++ [.st 53 [.sc (.int .i64 1), .sc (.int .i64 (IntKind.i64.wrap (Qz v0 v3 v6))), .sc (.string (ByteArray.mk #[]))]]) else none else bif (v3.getD v6.toNat PV.top).int % 4 == 2 then bif Je (v4 + 1) 32 && true then rc (Wo v0 v3 v6) v1 v2 v3 (v4 + 1) (IntKind.i64.wrap (v5 - IntKind.i64.wrap (Qz v0 v3 v6))) (IntKind.i64.wrap (v6 + 1)) (v7 && false) (List.take v4 v8 ++ [.st 53 [.sc (.int .i64 3), .sc (.int .i64 (IntKind.i64.wrap (Qz v0 v3 v6))), .sc (.string (ByteArray.mk #[]))]]) else none else bif (v3.getD v6.toNat PV.top).int % 4 == 3 then bif decide (0 <= v6) && decide (v6 < zi v3.length) && PV.isInt IntKind.i64 (v3.getD v6.toNat PV.top) && true then bif okW 5 then bif decide (0 <= IntKind.i64.wrap (Q3 v3 v6)) && true && decide ((IntKind.i64.wrap (Q3 v3 v6)).toNat <= 10) && true then bif decide (IntKind.i64.wrap (v5 + zi (QK v3 v6).size) <= 120) then bif Je (v4 + 1) 32 && true then rc v0 v1 v2 v3 (v4 + 1) (IntKind.i64.wrap (v5 + zi (QK v3 v6).size)) (IntKind.i64.wrap (v6 + 1)) (v7 && false) (List.take v4 v8 ++ [.st 53 [.sc (.int .i64 2), .sc (.int .i64 0), .sc (.string (QK v3 v6))]]) else none else rc v0 v1 v2 v3 v4 v5 (IntKind.i64.wrap (v6 + 1)) v7 v8 else none else none else none else rc v0 v1 v2 v3 v4 v5 (IntKind.i64.wrap (v6 + 1)) v7 v8 else none else none else none else none else k0 v0 v1 v2 v3 v4 v5 v7 v8 else k0 v0 v1 v2 v3 v4 v5 v7 v8 else k0 v0 v1 v2 v3 v4 v5 v7 v8
def YJ (f : Nat) (k0 : Int -> Bool -> Bool -> List PV -> Nat -> Int -> Bool -> List PV -> OR) : Nat -> Jvz
 | 0 => fun _ _ _ _ _ _ _ _ _ => none
 | n + 1 => Gg f (YJ f k0 n) k0
def Jb9 (k : Kont) := fun x0 x1 x2 x3 x4 x5 x6 x7 => k (Ex.exit 0) (Ji Joj N19 [.sc (.int .i64 x0), .ro 3 x1 x2 x3, .ow 53 1840 [] 0 x4 none, .sc (.int .i64 x5)] [(1840, .vec false 53 x6 x7)])
def Jok (f : Nat) (k : Kont) (n : Nat) (v0 : Int) (v1 v2 : Bool) (v3 : List PV) (v4 : Nat) (v5 v6 : Int) (v7 : Bool) (v8 : List PV) : OR := Jx tau 0 JfN (fun s k => ev tau F19 0 0 JqD (XA ) s k) n (Ji JfN N19 [.sc (.int .i64 v0), .ro 3 v1 v2 v3, .ow 53 1840 [] 0 v4 none, .sc (.int .i64 v5), .sc (.int .i64 v6)] [(1840, .vec false 53 v7 v8)]) (JG tau 0 Joj k)
theorem Jzn (f : Nat) (k : Kont) (n : Nat) : Jok f k (n + 1) = Gg f (Jok f k n) (Jb9 k) := by kernel_rfl
theorem JqE (f : Nat) (k : Kont) : ∀ n, Jok f k n = YJ f (Jb9 k) n
 | 0 => rfl
 | n + 1 => (Jzn f k n).trans (congrArg (fun r => Gg f r (Jb9 k)) (JqE f k n))
def JfO (f : Nat) : List PV -> List (Nat × Ent) -> Kont -> OR
 | [.sc (.int .i64 v0), .ro 3 v1 v2 v3, .ow 53 1840 [] 0 v4 none, .sc (.int .i64 v5),
 PV.sc
  (Value.int IntKind.i64
   v6)], [(1840,
  Ent.vec false 53 v7
   v8)], k => YJ f (Jb9 k) f v0 v1 v2 v3 v4 v5 v6 v7 v8
 | _, _, _ => none
theorem JGa (f : Nat) : Jf JqD XA = [] := by kernel_rfl
theorem JGb (f : Nat) : (Item.l JqD JfN N19 (JfO f)).Ok tau Tryz.prog 0 := Jt Jn Jvy Jo (x := XA) (nm2 := Joj) (Jl _ _ (by rw [JGa f]; intro q hq; cases hq)) fun vs hp k res hr => by
 unfold JfO at hr
 split at hr
 · rw [← JqE f] at hr; exact ⟨f, 0, hr⟩
 · cases hr
abbrev JfP := [PV.sc (.int .i64 2), PV.sc (.int .i64 0), PV.sc (.string (ByteArray.mk (Array.mk (u8l [122]))))]
def g19 (f : Nat) (n : Int) (ns_z ns_f : Bool) (ns : List PV) (k : KR) : OR := YJ f (fun x0_0 _ _ JP x4_0 x5_0 x6_0 x7_0 => bif decide (x0_0 > 0) then bif Je (x4_0 + 1) 32 && true then bif decide (zi JP.length > 0) then bif decide (0 < zi JP.length) && PV.isInt IntKind.i64 (JP.getD 0 PV.top) && true then bif okW 3 then bif IntKind.i64.wrap ((JP.getD 0 PV.top).int.tdiv 3) % 3 == 0 then bif decide (x5_0 <= 115) then bif Je (x4_0 + 1 + 1) 32 && true then k (Res.mk (.ro 53 (Ent.vec false 53 (x6_0 && false && false) (List.take (x4_0 + 1) (List.take x4_0 x7_0 ++ [.st 53 [.sc (.int .i64 1), .sc (.int .i64 x0_0), .sc (.string (ByteArray.mk #[]))]]) ++ [.st 53 JfP])).nil false (List.take (x4_0 + 1 + 1) (List.take (x4_0 + 1) (List.take x4_0 x7_0 ++ [.st 53 [.sc (.int .i64 1), .sc (.int .i64 x0_0), .sc (.string (ByteArray.mk #[]))]]) ++ [.st 53 JfP]))) [] []) else none else k (Res.mk (.ro 53 (Ent.vec false 53 (x6_0 && false) (List.take x4_0 x7_0 ++ [.st 53 [.sc (.int .i64 1), .sc (.int .i64 x0_0), .sc (.string (ByteArray.mk #[]))]])).nil false (List.take (x4_0 + 1) (List.take x4_0 x7_0 ++ [.st 53 [.sc (.int .i64 1), .sc (.int .i64 x0_0), .sc (.string (ByteArray.mk #[]))]]))) [] []) else k (Res.mk (.ro 53 (Ent.vec false 53 (x6_0 && false) (List.take x4_0 x7_0 ++ [.st 53 [.sc (.int .i64 1), .sc (.int .i64 x0_0), .sc (.string (ByteArray.mk #[]))]])).nil false (List.take (x4_0 + 1) (List.take x4_0 x7_0 ++ [.st 53 [.sc (.int .i64 1), .sc (.int .i64 x0_0), .sc (.string (ByteArray.mk #[]))]]))) [] []) else none else none else k (Res.mk (.ro 53 (Ent.vec false 53 (x6_0 && false) (List.take x4_0 x7_0 ++ [.st 53 [.sc (.int .i64 1), .sc (.int .i64 x0_0), .sc (.string (ByteArray.mk #[]))]])).nil false (List.take (x4_0 + 1) (List.take x4_0 x7_0 ++ [.st 53 [.sc (.int .i64 1), .sc (.int .i64 x0_0), .sc (.string (ByteArray.mk #[]))]]))) [] []) else none else bif decide (zi JP.length > 0) then bif decide (0 < zi JP.length) && PV.isInt IntKind.i64 (JP.getD 0 PV.top) && true then bif okW 3 then bif IntKind.i64.wrap ((JP.getD 0 PV.top).int.tdiv 3) % 3 == 0 then bif decide (x5_0 <= 115) then bif Je (x4_0 + 1) 32 && true then k (Res.mk (.ro 53 (Ent.vec false 53 (x6_0 && false) (List.take x4_0 x7_0 ++ [.st 53 JfP])).nil false (List.take (x4_0 + 1) (List.take x4_0 x7_0 ++ [.st 53 JfP]))) [] []) else none else k (Res.mk (.ro 53 (Ent.vec false 53 x6_0 x7_0).nil false (List.take x4_0 x7_0)) [] []) else k (Res.mk (.ro 53 (Ent.vec false 53 x6_0 x7_0).nil false (List.take x4_0 x7_0)) [] []) else none else none else k (Res.mk (.ro 53 (Ent.vec false 53 x6_0 x7_0).nil false (List.take x4_0 x7_0)) [] [])) f n ns_z ns_f ns (0) n (0) true ([])
theorem e19 (f : Nat) (n : Int) (ns_z ns_f : Bool) (ns : List PV) (k : KR) : JI tau F19 Tryz.f19 (Tryz.f19.body.get!) (Jzm (JfO f)) [.ro] 0 [.sc (.int .i64 n), .ro 3 ns_z ns_f ns] [] k = g19 f n ns_z ns_f ns k := by kernel_rfl
theorem JQz (f : Nat) : Jf (Tryz.f19.body.get!) (Jzm (JfO f)) = [.l JqD JfN N19 (JfO f)] := by kernel_rfl
theorem JQA (f : Nat) : ∀ q ∈ Jf (Tryz.f19.body.get!) (Jzm (JfO f)), q.Ok tau Tryz.prog 0 := by rw [JQz f]; exact JJ (JGb f) (fun _ h => nomatch h)
theorem JMz : Tryz.prog.funcs[19]? = some Tryz.f19 := by kernel_rfl
theorem JMA : Tryz.f19.body = some (Tryz.f19.body.get!) := by kernel_rfl
theorem JMB : Enters Tryz.prog 19 := enters_of JMz (by kernel_rfl) JMA
theorem VM {l : List PV} (h : Jk .i64 l = true) {i : Nat} (hi : i < l.length) : (l.getD i .top).isInt .i64 = true := by
 induction l generalizing i with
 | nil => simp at hi
 | cons p ps ih =>
  have e : Jk .i64 (p :: ps) = (p.isInt .i64 && Jk .i64 ps) := rfl
  rw [e, Bool.and_eq_true] at h
  cases i with
  | zero => exact h.1
  | succ i => simpa using ih h.2 (by simpa using hi)
theorem isE (L : List PV) (x : PV) : (L ++ [x]).isEmpty = false := by cases L <;> rfl
theorem Jk6 (L : List PV) (x y : PV) : (L ++ [x, y]).isEmpty = false := by cases L <;> rfl
theorem JvA (c z fl : Bool) (ns : List PV) (hns : Jk .i64 ns = true) (h2 : ns.length <= 9223372036854775807) (f : Nat) (k0 : Int -> Bool -> Bool -> List PV -> Nat -> Int -> Bool -> List PV -> OR) (R : List PV -> OR)
  (hk : ∀ (n out : Int) (L : List PV), 0 <= n -> n <= out -> out <= 120 -> L.length <= 12 -> k0 n z fl ns L.length out L.isEmpty L = R (L ++ mkE c n out)) :
  ∀ (b i m : Nat) (n out : Int) (L : List PV), i + b = 12 -> b < m -> 0 <= n -> n <= out -> out <= 120 -> L.length <= i ->
   YJ f k0 m n z fl ns L.length out (i : Int) L.isEmpty L = R (L ++ Y1 c b n out (ns.drop i))
 | 0, i, m + 1, n, out, L, hi, hm, h3, h4, h5, hL => by
   have e : Y1 c 0 n out (ns.drop i) = mkE c n out := rfl
   rw [e]
   simp only [YJ, Gg, Wo, Qz, QK, Q3]
   by_cases hc : i < ns.length
   · refine (Ja (by simp [zi]; omega)).trans ((Jd (by simp; omega)).trans (hk n out L h3 h4 h5 (by omega)))
   · exact (Jd (by simp [zi]; omega)).trans (hk n out L h3 h4 h5 (by omega))
 | b + 1, i, m + 1, n, out, L, hi, hm, h3, h4, h5, hL => by
   by_cases hc : ¬ i < ns.length
   · rw [List.drop_of_length_le (by omega)]
     simp only [YJ, Gg, Wo, Qz, QK, Q3]
     exact (Jd (by simp [zi]; omega)).trans (hk n out L h3 h4 h5 (by omega))
   have hc := Decidable.not_not.1 hc
   rw [JY hc]
   have g1 := tI i
   have w1 := wI (i := i) (by omega)
   have hin := VM hns hc
   have tk : List.take L.length L = L := List.take_length
   have e1 : ∀ x : PV, L.length + 1 = (L ++ [x]).length := fun x => by simp
   have e2 : ∀ x : PV, (L.isEmpty && false) = (L ++ [x]).isEmpty := fun x => by simp
   simp only [YJ, Gg, Wo, Qz, QK, Q3, g1, w1, hin, tk]
   generalize ns.getD i .top = p at *
   refine (Ja (by simp [zi]; omega)).trans ((Ja (by simp; omega)).trans ?_)
   have hrd : (decide (0 <= (i : Int)) && decide ((i : Int) < zi ns.length) && true && true) = true := by simp [zi]; omega
   have hro : (Je (L.length + 1) 32 && true) = true := by simp [Je]; omega
   by_cases hn : ¬ n > 0
   · refine (Jd (by simp; omega)).trans ((hk n out L h3 h4 h5 (by omega)).trans ?_)
     have : Y1 c (b + 1) n out (p :: ns.drop (i + 1)) = mkE c n out := by simp only [Y1]; exact Jd (by simp; omega)
     rw [this]
   have hn := Decidable.not_not.1 hn
   obtain ⟨k1, k2, k3⟩ := Ju1 (x := p.int) hn
   obtain ⟨m1, m2, m3⟩ := Jqt hn
   obtain ⟨s1, s2⟩ := Ju2 p.int
   have wK : IntKind.i64.wrap (1 + IntKind.i64.wrap (p.int.tdiv 7) % Qg n 9) = mkK p.int n := wrap_i64 (by show _ <= mkK p.int n; omega) (by show mkK p.int n < _; omega)
   have wS : IntKind.i64.wrap (1 + IntKind.i64.wrap (p.int.tdiv 7) % 5) = mkS p.int := wrap_i64 (by show _ <= mkS p.int; omega) (by show mkS p.int < _; omega)
   have wN : IntKind.i64.wrap (n - mkK p.int n) = n - mkK p.int n := wrap_i64 (by omega) (by omega)
   have wO : IntKind.i64.wrap (out - mkK p.int n) = out - mkK p.int n := wrap_i64 (by omega) (by omega)
   have hab : (ByteArray.mk (Array.mk (u8l [97, 98, 99, 100, 101, 102, 103, 104, 105, 106]))).extract 0 (mkS p.int).toNat = Jgk (mkS p.int) := rfl
   have hsz : zi (Jgk (mkS p.int)).size = mkS p.int := Jg6 (by omega) (by omega)
   have wP : IntKind.i64.wrap (out + mkS p.int) = out + mkS p.int := wrap_i64 (by omega) (by omega)
   simp only [wK, wS, wN, wO, hab, hsz, wP]
   refine (Ja (by simpa using hn)).trans ((Ja hrd).trans ((Ja (by rw [Jaf, Bool.and_eq_true, decide_eq_true_eq, decide_eq_true_eq]; omega)).trans ((Ja hrd).trans ((Ja (by rw [Jaf]; rfl)).trans ?_))))
   have hmk : Y1 c (b + 1) n out (p :: ns.drop (i + 1)) = (bif p.int % 4 == 0 || p.int % 4 == 1 then kpP (mkK p.int n) :: Y1 c b (n - mkK p.int n) out (ns.drop (i + 1))
     else bif p.int % 4 == 2 then ctP (mkK p.int n) :: Y1 c b (n - mkK p.int n) (out - mkK p.int n) (ns.drop (i + 1))
     else bif decide (out + mkS p.int <= 120) then ptP (Jgk (mkS p.int)) :: Y1 c b n (out + mkS p.int) (ns.drop (i + 1))
     else Y1 c b n out (ns.drop (i + 1))) := by simp only [Y1]; exact Ja (by simpa using hn)
   have A : ∀ (x : PV) (n' out' : Int), 0 <= n' -> n' <= out' -> out' <= 120 -> YJ f k0 m n' z fl ns (L.length + 1) out' ((i + 1 : Nat) : Int) (L.isEmpty && false) (L ++ [x]) = R (L ++ x :: Y1 c b n' out' (ns.drop (i + 1))) := fun x n' out' a1 a2 a3 => by
     rw [e1 x, e2 x, JvA c z fl ns hns h2 f k0 R hk b (i + 1) m n' out' (L ++ [x]) (by omega) (by omega) a1 a2 a3 (by simp; omega), List.append_assoc]; rfl
   have B : YJ f k0 m n z fl ns L.length out ((i + 1 : Nat) : Int) L.isEmpty L = R (L ++ Y1 c b n out (ns.drop (i + 1))) :=
     JvA c z fl ns hns h2 f k0 R hk b (i + 1) m n out L (by omega) (by omega) h3 h4 h5 (by omega)
   rw [hmk]
   have q0 := Int.emod_nonneg p.int (show (4 : Int) ≠ 0 by omega)
   have q1 := Int.emod_lt_of_pos p.int (show (0 : Int) < 4 by omega)
   have : p.int % 4 = 0 ∨ p.int % 4 = 1 ∨ p.int % 4 = 2 ∨ p.int % 4 = 3 := by omega
   rcases this with hq | hq | hq | hq
   · rw [hq]
     exact (Ja rfl).trans ((Ja rfl).trans ((Ja hro).trans (A _ _ _ (by omega) (by omega) h5)))
   · rw [hq]
     exact (Jd rfl).trans ((Ja rfl).trans ((Ja hro).trans (A _ _ _ (by omega) (by omega) h5)))
   · rw [hq]
     exact (Jd rfl).trans ((Jd rfl).trans ((Ja rfl).trans ((Ja hro).trans (A _ _ _ (by omega) (by omega) (by omega)))))
   · rw [hq]
     refine (Jd rfl).trans ((Jd rfl).trans ((Jd rfl).trans ((Ja rfl).trans ((Ja hrd).trans ((Ja (by rw [Jaf]; rfl)).trans ((Ja (by simp; omega)).trans ?_))))))
     by_cases hz : out + mkS p.int <= 120
     · refine (Ja (decide_eq_true hz)).trans ((Ja hro).trans ((A _ _ _ (by omega) (by omega) hz).trans ?_))
       rw [decide_eq_true hz]; rfl
     · refine (Jd (decide_eq_false hz)).trans (B.trans ?_)
       rw [decide_eq_false hz]; rfl
def Jol : Jy
 | [.sc (.int .i64 n), .ro 3 z f ns], [], k => bif Jgl n ns then k ⟨.ro 53 (Q1 ⟨n, ns⟩).isEmpty false (Q1 ⟨n, ns⟩), [], []⟩ else none
 | _, _, _ => none
def JGc : Sig := { own := [], run := Jol }
theorem JGd (n : Int) (z f : Bool) (ns : List PV) (h : Jgl n ns = true) (k : KR) : g19 20 n z f ns k = k ⟨.ro 53 (Q1 ⟨n, ns⟩).isEmpty false (Q1 ⟨n, ns⟩), [], []⟩ := by
 obtain ⟨h1, h2, h3, h4⟩ := JfA.1 h
 unfold g19 JfP
 rw [Jk0]
 refine (JvA (mkC ns) z f ns h3 h4 20 _ (fun M => k ⟨.ro 53 M.isEmpty false M, [], []⟩) ?_ 12 0 20 n n [] rfl (by omega) h1 (by omega) h2 (by simp)).trans ?_
 · intro n' out L a1 a2 a3 a4
   have tk : List.take L.length L = L := List.take_length
   have tk1 : ∀ x : PV, List.take (L.length + 1) (L ++ [x]) = L ++ [x] := fun x => List.take_of_length_le (by simp)
   have tk2 : ∀ x y : PV, List.take (L.length + 1 + 1) (L ++ [x] ++ [y]) = L ++ [x] ++ [y] := fun x y => List.take_of_length_le (by simp)
   have hro : (Je (L.length + 1) 32 && true) = true := by simp [Je]; omega
   have hro2 : (Je (L.length + 1 + 1) 32 && true) = true := by simp [Je]; omega
   have em : ∀ x : PV, (L.isEmpty && false) = (L ++ [x]).isEmpty := fun x => by simp
   have hz : PV.st 53 [PV.sc (Value.int IntKind.i64 2), PV.sc (Value.int IntKind.i64 0), PV.sc (Value.string (ByteArray.mk (Array.mk (u8l [122]))))] = ptP zed := rfl
   have hk' : PV.st 53 [PV.sc (Value.int IntKind.i64 1), PV.sc (Value.int IntKind.i64 n'), PV.sc (Value.string (ByteArray.mk #[]))] = kpP n' := rfl
   have okw : okW 3 = true := by rw [Jaf]; rfl
   simp only [tk, tk1, tk2, hz, hk', Ent.nil, okw, hro, hro2]
   unfold mkE mkC
   cases hn : decide (n' > 0) with
   | true =>
    refine (Ja rfl).trans ((Ja rfl).trans ?_)
    by_cases hl : ns.length > 0
    · have hl' : decide (zi ns.length > 0) = true := by simp [zi]; omega
      have hin := VM h3 hl
      rw [hl', decide_eq_true hl]
      refine (Ja rfl).trans ((Ja (by rw [hin]; simp [zi, hl])).trans ((Ja rfl).trans ?_))
      cases hc : (IntKind.i64.wrap ((ns.getD 0 PV.top).int.tdiv 3) % 3 == 0) with
      | false => refine (Jd rfl).trans ?_; simp only [List.append_assoc, List.singleton_append, List.append_nil, Bool.and_false, Bool.and_true, Bool.false_and, Bool.true_and, cond_true, cond_false, isE, Jk6, List.cons_append, List.nil_append]
      | true =>
       refine (Ja rfl).trans ?_
       cases ho : decide (out <= 115) with
       | false => refine (Jd rfl).trans ?_; simp only [List.append_assoc, List.singleton_append, List.append_nil, Bool.and_false, Bool.and_true, Bool.false_and, Bool.true_and, cond_true, cond_false, isE, Jk6, List.cons_append, List.nil_append]
       | true => refine (Ja rfl).trans ((Ja rfl).trans ?_); simp [isE, Jk6]
    · have hl' : decide (zi ns.length > 0) = false := decide_eq_false (by simp only [zi]; omega)
      rw [hl', decide_eq_false hl]
      refine (Jd rfl).trans ?_; simp only [List.append_assoc, List.singleton_append, List.append_nil, Bool.and_false, Bool.and_true, Bool.false_and, Bool.true_and, cond_true, cond_false, isE, Jk6, List.cons_append, List.nil_append]
   | false =>
    refine (Jd rfl).trans ?_
    by_cases hl : ns.length > 0
    · have hl' : decide (zi ns.length > 0) = true := by simp [zi]; omega
      have hin := VM h3 hl
      rw [hl', decide_eq_true hl]
      refine (Ja rfl).trans ((Ja (by rw [hin]; simp [zi, hl])).trans ((Ja rfl).trans ?_))
      cases hc : (IntKind.i64.wrap ((ns.getD 0 PV.top).int.tdiv 3) % 3 == 0) with
      | false => refine (Jd rfl).trans ?_; simp only [List.append_assoc, List.singleton_append, List.append_nil, Bool.and_false, Bool.and_true, Bool.false_and, Bool.true_and, cond_true, cond_false, isE, Jk6, List.cons_append, List.nil_append]
      | true =>
       refine (Ja rfl).trans ?_
       cases ho : decide (out <= 115) with
       | false => refine (Jd rfl).trans ?_; simp only [List.append_assoc, List.singleton_append, List.append_nil, Bool.and_false, Bool.and_true, Bool.false_and, Bool.true_and, cond_true, cond_false, isE, Jk6, List.cons_append, List.nil_append]
       | true => refine (Ja rfl).trans ((Ja rfl).trans ?_); simp [isE, Jk6]
    · have hl' : decide (zi ns.length > 0) = false := decide_eq_false (by simp only [zi]; omega)
      rw [hl', decide_eq_false hl]
      refine (Jd rfl).trans ?_; simp only [List.append_assoc, List.singleton_append, List.append_nil, Bool.and_false, Bool.and_true, Bool.false_and, Bool.true_and, cond_true, cond_false, isE, Jk6, List.cons_append, List.nil_append]
 · simp
theorem JCk : Jc tau Tryz.prog 19 JGc := Jc.mk' fun xs es k res hl hr => by
 change Jol xs es k = some res at hr
 unfold Jol at hr
 split at hr
 · rename_i n z f ns
   obtain ⟨hc, hr⟩ := Ju hr
   exact J1 Jn Jvy Jo JMz JMA (Jzm (JfO 20)) [.ro] 0 0 (JQA 20) hl rfl ((e19 20 n z f ns k).trans ((JGd n z f ns hc k).trans hr))
 · cases hr
def F43 : Fns := Jr 18 Jzl (F0)
theorem JGe : Jp tau Tryz.prog F43 := (Js).add Jvw JF5
def JGf : An := (.seq .leaf (.seq .leaf .leaf))
def g43 (f : Nat) (n : Int) (k : KR) : OR := bif okW 3 then bif okW 4 then k (Res.mk (.st 67 [.sc (.int .i64 (n % 3)), .sc (.int .i64 (IntKind.i64.wrap (n.tdiv 3) % 4))]) [] []) else none else none
theorem e43 (f : Nat) (n : Int) (k : KR) : JI tau F43 Tryz.f43 (Tryz.f43.body.get!) JGf [.ro] 0 [.sc (.int .i64 n)] [] k = g43 f n k := by kernel_rfl
theorem JQB (f : Nat) : ∀ q ∈ Jf (Tryz.f43.body.get!) JGf, q.Ok tau Tryz.prog 0 := Jv (by kernel_rfl)
theorem JMC : Tryz.prog.funcs[43]? = some Tryz.f43 := by kernel_rfl
theorem JMD : Tryz.f43.body = some (Tryz.f43.body.get!) := by kernel_rfl
theorem JQC : Enters Tryz.prog 43 := enters_of JMC (by kernel_rfl) JMD
def JvB : Jy
 | [.sc (.int .i64 n)], [], k => g43 0 n k
 | _, _, _ => none
def s43 : Sig := { own := [], run := JvB }
theorem JQD : Jc tau Tryz.prog 43 s43 := JN Jn JGe Jo JMC JMD JGf [.ro] 0 [] JvB (JQB 0) fun xs es k res hr => by
 unfold JvB at hr
 split at hr
 · exact ⟨rfl, 0, (e43 0 _  _).trans hr⟩
 · cases hr
def F17 : Fns := Jr 44 JLO (Jr 43 s43 (Jr 33 JLQ (Jr 19 JGc (Jr 18 Jzl (F0)))))
theorem JGg : Jp tau Tryz.prog F17 := (((((Js).add Jvw JF5).add JCk JMB).add JLR JP5).add JQD JQC).add JLP JPI
def JGh : An := (.seq .leaf (.seq .leaf (.seq (.seq .leaf (.cond .leaf .leaf)) (.seq .leaf (.seq (.seq .leaf (.block none (.seq .leaf (.cond .leaf (.seq .leaf (.cond .leaf (.seq .leaf .leaf))))))) (.seq .leaf .leaf))))))
abbrev QL (p_By : Int) (y9 : List PV) := (y9.getD (p_By % zi y9.length).toNat PV.top)
abbrev ZN (p_By : Int) (p_Ns : List PV) (y6 : ByteArray) (y10 : Int) (y11 : List PV) (id : Int) := (DV.mk (p_By % 3) (IntKind.i64.wrap (p_By.tdiv 3) % 4) id y10 y11 1 (Q1 (MN.mk (zi y6.size) p_Ns)) 0 0)
abbrev JcV (p_By : Int) (p_Ns : List PV) (k0_z : Bool) (k0_f : Bool) (k0 : List PV) (k1_z : Bool) (k1_f : Bool) (k1 : List PV) (k2_z : Bool) (k2_f : Bool) (k2 : List PV) (y6 : ByteArray) (y10 : Int) (y11 : List PV) (id : Int) := (EV.mk (pu IntKind.u8 (dlB (ZN p_By p_Ns y6 y10 y11 id))) (pu IntKind.u8 (mcK (MK.mk [PV.ro 5 k0_z k0_f k0, PV.ro 5 k1_z k1_f k1, PV.ro 5 k2_z k2_f k2] (p_By % 3) (dlB (ZN p_By p_Ns y6 y10 y11 id))))) y10 (Q1 (MN.mk (zi y6.size) p_Ns)))
abbrev Jan (p_By : Int) (y1 : Int) (y10 : Int) (y11 : List PV) (id : Int) := (DV.mk (p_By % 3) (IntKind.i64.wrap (p_By.tdiv 3) % 4) id y10 y11 2 [] (y1 % 3) (IntKind.i64.wrap (y1.tdiv 3) % 4))
abbrev JcW (p_By : Int) (y1 : Int) (k0_z : Bool) (k0_f : Bool) (k0 : List PV) (k1_z : Bool) (k1_f : Bool) (k1 : List PV) (k2_z : Bool) (k2_f : Bool) (k2 : List PV) (y10 : Int) (y11 : List PV) (id : Int) := (EV.mk (pu IntKind.u8 (dlB (Jan p_By y1 y10 y11 id))) (pu IntKind.u8 (mcK (MK.mk [PV.ro 5 k0_z k0_f k0, PV.ro 5 k1_z k1_f k1, PV.ro 5 k2_z k2_f k2] (p_By % 3) (dlB (Jan p_By y1 y10 y11 id))))) y10 [])
abbrev Jao (p_By : Int) (y1 : Int) (y10 : Int) (y11 : List PV) (id : Int) := (DV.mk (p_By % 3) (IntKind.i64.wrap (p_By.tdiv 3) % 4) id y10 y11 3 [] (y1 % 3) (IntKind.i64.wrap (y1.tdiv 3) % 4))
abbrev JcX (p_By : Int) (y1 : Int) (k0_z : Bool) (k0_f : Bool) (k0 : List PV) (k1_z : Bool) (k1_f : Bool) (k1 : List PV) (k2_z : Bool) (k2_f : Bool) (k2 : List PV) (y10 : Int) (y11 : List PV) (id : Int) := (EV.mk (pu IntKind.u8 (dlB (Jao p_By y1 y10 y11 id))) (pu IntKind.u8 (mcK (MK.mk [PV.ro 5 k0_z k0_f k0, PV.ro 5 k1_z k1_f k1, PV.ro 5 k2_z k2_f k2] (p_By % 3) (dlB (Jao p_By y1 y10 y11 id))))) y10 [])
abbrev JcY (p_By : Int) (y1 : Int) (y9 : List PV) (y10 : Int) (y11 : List PV) (id : Int) := (DV.mk (PV.child 0 (QL p_By y9)).int (PV.child (0 + 1) (QL p_By y9)).int id y10 y11 2 [] (y1 % 3) (IntKind.i64.wrap (y1.tdiv 3) % 4))
abbrev JcZ (p_By : Int) (y1 : Int) (y9 : List PV) (y10 : Int) (y11 : List PV) (id : Int) := (DV.mk (PV.child 0 (QL p_By y9)).int (PV.child (0 + 1) (QL p_By y9)).int id y10 y11 3 [] (y1 % 3) (IntKind.i64.wrap (y1.tdiv 3) % 4))
abbrev Gh (p_By : Int) (p_Ns : List PV) (y6 : ByteArray) (y9 : List PV) (y10 : Int) (y11 : List PV) (id : Int) := (DV.mk (PV.child 0 (QL p_By y9)).int (PV.child (0 + 1) (QL p_By y9)).int id y10 y11 1 (Q1 (MN.mk (zi y6.size) p_Ns)) 0 0)
abbrev JfQ (p_By : Int) (p_Ns : List PV) (k0_z : Bool) (k0_f : Bool) (k0 : List PV) (k1_z : Bool) (k1_f : Bool) (k1 : List PV) (k2_z : Bool) (k2_f : Bool) (k2 : List PV) (y6 : ByteArray) (y9 : List PV) (y10 : Int) (y11 : List PV) (id : Int) := (EV.mk (pu IntKind.u8 (dlB (Gh p_By p_Ns y6 y9 y10 y11 id))) (pu IntKind.u8 (mcK (MK.mk [PV.ro 5 k0_z k0_f k0, PV.ro 5 k1_z k1_f k1, PV.ro 5 k2_z k2_f k2] (PV.child 0 (QL p_By y9)).int (dlB (Gh p_By p_Ns y6 y9 y10 y11 id))))) y10 (Q1 (MN.mk (zi y6.size) p_Ns)))
abbrev Jom (p_By : Int) (p_Ns : List PV) (k0_z : Bool) (k0_f : Bool) (k0 : List PV) (k1_z : Bool) (k1_f : Bool) (k1 : List PV) (k2_z : Bool) (k2_f : Bool) (k2 : List PV) (y4 : Int) (y6 : ByteArray) (y10 : Int) (y11 : List PV) (id : Int) := (Res.mk (PV.st 34 [PV.st 30 [PV.ro 5 false false (pu IntKind.u8 (dlB (ZN p_By p_Ns y6 y10 y11 id))), PV.ar 28 (pu IntKind.u8 (mcK (MK.mk [PV.ro 5 k0_z k0_f k0, PV.ro 5 k1_z k1_f k1, PV.ro 5 k2_z k2_f k2] (p_By % 3) (dlB (ZN p_By p_Ns y6 y10 y11 id)))))], PV.sc (.int .i64 y10), PV.ro 53 false false (Q1 (MN.mk (zi y6.size) p_Ns)), PV.ar 28 (pu IntKind.u8 (nxP (NX.mk y11 (JcV p_By p_Ns k0_z k0_f k0 k1_z k1_f k1 k2_z k2_f k2 y6 y10 y11 id)))), PV.ar 28 (pu IntKind.u8 (emP (EM.mk [PV.ro 5 k0_z k0_f k0, PV.ro 5 k1_z k1_f k1, PV.ro 5 k2_z k2_f k2] y4 (JcV p_By p_Ns k0_z k0_f k0 k1_z k1_f k1 k2_z k2_f k2 y6 y10 y11 id) (pu IntKind.u8 (nxP (NX.mk y11 (JcV p_By p_Ns k0_z k0_f k0 k1_z k1_f k1 k2_z k2_f k2 y6 y10 y11 id)))))))]) [] [])
abbrev Jjk (p_By : Int) (y1 : Int) (k0_z : Bool) (k0_f : Bool) (k0 : List PV) (k1_z : Bool) (k1_f : Bool) (k1 : List PV) (k2_z : Bool) (k2_f : Bool) (k2 : List PV) (y4 : Int) (y10 : Int) (y11 : List PV) (id : Int) := (Res.mk (PV.st 34 [PV.st 30 [PV.ro 5 false false (pu IntKind.u8 (dlB (Jan p_By y1 y10 y11 id))), PV.ar 28 (pu IntKind.u8 (mcK (MK.mk [PV.ro 5 k0_z k0_f k0, PV.ro 5 k1_z k1_f k1, PV.ro 5 k2_z k2_f k2] (p_By % 3) (dlB (Jan p_By y1 y10 y11 id)))))], PV.sc (.int .i64 y10), PV.ro 53 false false [], PV.ar 28 (pu IntKind.u8 (nxP (NX.mk y11 (JcW p_By y1 k0_z k0_f k0 k1_z k1_f k1 k2_z k2_f k2 y10 y11 id)))), PV.ar 28 (pu IntKind.u8 (emP (EM.mk [PV.ro 5 k0_z k0_f k0, PV.ro 5 k1_z k1_f k1, PV.ro 5 k2_z k2_f k2] y4 (JcW p_By y1 k0_z k0_f k0 k1_z k1_f k1 k2_z k2_f k2 y10 y11 id) (pu IntKind.u8 (nxP (NX.mk y11 (JcW p_By y1 k0_z k0_f k0 k1_z k1_f k1 k2_z k2_f k2 y10 y11 id)))))))]) [] [])
abbrev Jjl (p_By : Int) (y1 : Int) (k0_z : Bool) (k0_f : Bool) (k0 : List PV) (k1_z : Bool) (k1_f : Bool) (k1 : List PV) (k2_z : Bool) (k2_f : Bool) (k2 : List PV) (y4 : Int) (y10 : Int) (y11 : List PV) (id : Int) := (Res.mk (PV.st 34 [PV.st 30 [PV.ro 5 false false (pu IntKind.u8 (dlB (Jao p_By y1 y10 y11 id))), PV.ar 28 (pu IntKind.u8 (mcK (MK.mk [PV.ro 5 k0_z k0_f k0, PV.ro 5 k1_z k1_f k1, PV.ro 5 k2_z k2_f k2] (p_By % 3) (dlB (Jao p_By y1 y10 y11 id)))))], PV.sc (.int .i64 y10), PV.ro 53 false false [], PV.ar 28 (pu IntKind.u8 (nxP (NX.mk y11 (JcX p_By y1 k0_z k0_f k0 k1_z k1_f k1 k2_z k2_f k2 y10 y11 id)))), PV.ar 28 (pu IntKind.u8 (emP (EM.mk [PV.ro 5 k0_z k0_f k0, PV.ro 5 k1_z k1_f k1, PV.ro 5 k2_z k2_f k2] y4 (JcX p_By y1 k0_z k0_f k0 k1_z k1_f k1 k2_z k2_f k2 y10 y11 id) (pu IntKind.u8 (nxP (NX.mk y11 (JcX p_By y1 k0_z k0_f k0 k1_z k1_f k1 k2_z k2_f k2 y10 y11 id)))))))]) [] [])
abbrev Jca (p_By : Int) (y1 : Int) (k0_z : Bool) (k0_f : Bool) (k0 : List PV) (k1_z : Bool) (k1_f : Bool) (k1 : List PV) (k2_z : Bool) (k2_f : Bool) (k2 : List PV) (y9 : List PV) (y10 : Int) (y11 : List PV) (id : Int) := (EV.mk (pu IntKind.u8 (dlB (JcY p_By y1 y9 y10 y11 id))) (pu IntKind.u8 (mcK (MK.mk [PV.ro 5 k0_z k0_f k0, PV.ro 5 k1_z k1_f k1, PV.ro 5 k2_z k2_f k2] (PV.child 0 (QL p_By y9)).int (dlB (JcY p_By y1 y9 y10 y11 id))))) y10 [])
abbrev Jcb (p_By : Int) (y1 : Int) (k0_z : Bool) (k0_f : Bool) (k0 : List PV) (k1_z : Bool) (k1_f : Bool) (k1 : List PV) (k2_z : Bool) (k2_f : Bool) (k2 : List PV) (y9 : List PV) (y10 : Int) (y11 : List PV) (id : Int) := (EV.mk (pu IntKind.u8 (dlB (JcZ p_By y1 y9 y10 y11 id))) (pu IntKind.u8 (mcK (MK.mk [PV.ro 5 k0_z k0_f k0, PV.ro 5 k1_z k1_f k1, PV.ro 5 k2_z k2_f k2] (PV.child 0 (QL p_By y9)).int (dlB (JcZ p_By y1 y9 y10 y11 id))))) y10 [])
def g17 (f : Nat) (y0 p_By y1 : Int) (y2 y3 : Bool) (p_Ns : List PV) (k0_z k0_f : Bool) (k0 : List PV) (k1_z k1_f : Bool) (k1 : List PV) (k2_z k2_f : Bool) (k2 : List PV) (y4 y5 : Int) (y6 : ByteArray) (y7 y8 : Bool) (y9 : List PV) (y10 : Int) (y11 : List PV) (id : Int) (k : KR) : OR := bif okW 3 then bif okW 4 then bif decide (zi y9.length > 0) then bif okW 9 then bif decide (p_By % 9 > 0) then bif okW (zi y9.length) then bif decide (0 <= p_By % zi y9.length) && decide (p_By % zi y9.length < zi y9.length) && (PV.isSt 67 #[Field.mk "D" 3 0 false "" "" 0, Field.mk "U" 3 1 false "" "" 8].size (QL p_By y9) && (PV.isInt IntKind.i64 (PV.child 0 (QL p_By y9)) && (PV.isInt IntKind.i64 (PV.child (0 + 1) (QL p_By y9)) && true))) && true then bif okW 6 then bif y0 % 6 == 4 then bif okW 3 then bif okW 4 then bif dOk (JcY p_By y1 y9 y10 y11 id) && (kO3 [.ro 5 k0_z k0_f k0, .ro 5 k1_z k1_f k1, .ro 5 k2_z k2_f k2] && kIn (PV.child 0 (QL p_By y9)).int) then bif kIn y4 && eOk (Jca p_By y1 k0_z k0_f k0 k1_z k1_f k1 k2_z k2_f k2 y9 y10 y11 id) && (h32 y11 && kO3 [.ro 5 k0_z k0_f k0, .ro 5 k1_z k1_f k1, .ro 5 k2_z k2_f k2]) then k (Res.mk (.st 34 [.st 30 [.ro 5 false false (pu IntKind.u8 (dlB (JcY p_By y1 y9 y10 y11 id))), .ar 28 (pu IntKind.u8 (mcK (MK.mk [.ro 5 k0_z k0_f k0, .ro 5 k1_z k1_f k1, .ro 5 k2_z k2_f k2] (PV.child 0 (QL p_By y9)).int (dlB (JcY p_By y1 y9 y10 y11 id)))))], .sc (.int .i64 y10), .ro 53 false false [], .ar 28 (pu IntKind.u8 (nxP (NX.mk y11 (Jca p_By y1 k0_z k0_f k0 k1_z k1_f k1 k2_z k2_f k2 y9 y10 y11 id)))), .ar 28 (pu IntKind.u8 (emP (EM.mk [.ro 5 k0_z k0_f k0, .ro 5 k1_z k1_f k1, .ro 5 k2_z k2_f k2] y4 (Jca p_By y1 k0_z k0_f k0 k1_z k1_f k1 k2_z k2_f k2 y9 y10 y11 id) (pu IntKind.u8 (nxP (NX.mk y11 (Jca p_By y1 k0_z k0_f k0 k1_z k1_f k1 k2_z k2_f k2 y9 y10 y11 id)))))))]) [] []) else none else none else none else none else bif y0 % 6 == 5 then bif okW 3 then bif okW 4 then bif dOk (JcZ p_By y1 y9 y10 y11 id) && (kO3 [.ro 5 k0_z k0_f k0, .ro 5 k1_z k1_f k1, .ro 5 k2_z k2_f k2] && kIn (PV.child 0 (QL p_By y9)).int) then bif kIn y4 && eOk (Jcb p_By y1 k0_z k0_f k0 k1_z k1_f k1 k2_z k2_f k2 y9 y10 y11 id) && (h32 y11 && kO3 [.ro 5 k0_z k0_f k0, .ro 5 k1_z k1_f k1, .ro 5 k2_z k2_f k2]) then k (Res.mk (.st 34 [.st 30 [.ro 5 false false (pu IntKind.u8 (dlB (JcZ p_By y1 y9 y10 y11 id))), .ar 28 (pu IntKind.u8 (mcK (MK.mk [.ro 5 k0_z k0_f k0, .ro 5 k1_z k1_f k1, .ro 5 k2_z k2_f k2] (PV.child 0 (QL p_By y9)).int (dlB (JcZ p_By y1 y9 y10 y11 id)))))], .sc (.int .i64 y10), .ro 53 false false [], .ar 28 (pu IntKind.u8 (nxP (NX.mk y11 (Jcb p_By y1 k0_z k0_f k0 k1_z k1_f k1 k2_z k2_f k2 y9 y10 y11 id)))), .ar 28 (pu IntKind.u8 (emP (EM.mk [.ro 5 k0_z k0_f k0, .ro 5 k1_z k1_f k1, .ro 5 k2_z k2_f k2] y4 (Jcb p_By y1 k0_z k0_f k0 k1_z k1_f k1 k2_z k2_f k2 y9 y10 y11 id) (pu IntKind.u8 (nxP (NX.mk y11 (Jcb p_By y1 k0_z k0_f k0 k1_z k1_f k1 k2_z k2_f k2 y9 y10 y11 id)))))))]) [] []) else none else none else none else none else bif Jgl (zi y6.size) p_Ns then bif dOk (Gh p_By p_Ns y6 y9 y10 y11 id) && (kO3 [.ro 5 k0_z k0_f k0, .ro 5 k1_z k1_f k1, .ro 5 k2_z k2_f k2] && kIn (PV.child 0 (QL p_By y9)).int) then bif kIn y4 && eOk (JfQ p_By p_Ns k0_z k0_f k0 k1_z k1_f k1 k2_z k2_f k2 y6 y9 y10 y11 id) && (h32 y11 && kO3 [.ro 5 k0_z k0_f k0, .ro 5 k1_z k1_f k1, .ro 5 k2_z k2_f k2]) then k (Res.mk (.st 34 [.st 30 [.ro 5 false false (pu IntKind.u8 (dlB (Gh p_By p_Ns y6 y9 y10 y11 id))), .ar 28 (pu IntKind.u8 (mcK (MK.mk [.ro 5 k0_z k0_f k0, .ro 5 k1_z k1_f k1, .ro 5 k2_z k2_f k2] (PV.child 0 (QL p_By y9)).int (dlB (Gh p_By p_Ns y6 y9 y10 y11 id)))))], .sc (.int .i64 y10), .ro 53 false false (Q1 (MN.mk (zi y6.size) p_Ns)), .ar 28 (pu IntKind.u8 (nxP (NX.mk y11 (JfQ p_By p_Ns k0_z k0_f k0 k1_z k1_f k1 k2_z k2_f k2 y6 y9 y10 y11 id)))), .ar 28 (pu IntKind.u8 (emP (EM.mk [.ro 5 k0_z k0_f k0, .ro 5 k1_z k1_f k1, .ro 5 k2_z k2_f k2] y4 (JfQ p_By p_Ns k0_z k0_f k0 k1_z k1_f k1 k2_z k2_f k2 y6 y9 y10 y11 id) (pu IntKind.u8 (nxP (NX.mk y11 (JfQ p_By p_Ns k0_z k0_f k0 k1_z k1_f k1 k2_z k2_f k2 y6 y9 y10 y11 id)))))))]) [] []) else none else none else none else none else none else none else bif okW 6 then bif y0 % 6 == 4 then bif okW 3 then bif okW 4 then bif dOk (Jan p_By y1 y10 y11 id) && (kO3 [.ro 5 k0_z k0_f k0, .ro 5 k1_z k1_f k1, .ro 5 k2_z k2_f k2] && kIn (p_By % 3)) then bif kIn y4 && eOk (JcW p_By y1 k0_z k0_f k0 k1_z k1_f k1 k2_z k2_f k2 y10 y11 id) && (h32 y11 && kO3 [.ro 5 k0_z k0_f k0, .ro 5 k1_z k1_f k1, .ro 5 k2_z k2_f k2]) then k (Jjk p_By y1 k0_z k0_f k0 k1_z k1_f k1 k2_z k2_f k2 y4 y10 y11 id) else none else none else none else none else bif y0 % 6 == 5 then bif okW 3 then bif okW 4 then bif dOk (Jao p_By y1 y10 y11 id) && (kO3 [.ro 5 k0_z k0_f k0, .ro 5 k1_z k1_f k1, .ro 5 k2_z k2_f k2] && kIn (p_By % 3)) then bif kIn y4 && eOk (JcX p_By y1 k0_z k0_f k0 k1_z k1_f k1 k2_z k2_f k2 y10 y11 id) && (h32 y11 && kO3 [.ro 5 k0_z k0_f k0, .ro 5 k1_z k1_f k1, .ro 5 k2_z k2_f k2]) then k (Jjl p_By y1 k0_z k0_f k0 k1_z k1_f k1 k2_z k2_f k2 y4 y10 y11 id) else none else none else none else none else bif Jgl (zi y6.size) p_Ns then bif dOk (ZN p_By p_Ns y6 y10 y11 id) && (kO3 [.ro 5 k0_z k0_f k0, .ro 5 k1_z k1_f k1, .ro 5 k2_z k2_f k2] && kIn (p_By % 3)) then bif kIn y4 && eOk (JcV p_By p_Ns k0_z k0_f k0 k1_z k1_f k1 k2_z k2_f k2 y6 y10 y11 id) && (h32 y11 && kO3 [.ro 5 k0_z k0_f k0, .ro 5 k1_z k1_f k1, .ro 5 k2_z k2_f k2]) then k (Jom p_By p_Ns k0_z k0_f k0 k1_z k1_f k1 k2_z k2_f k2 y4 y6 y10 y11 id) else none else none else none else none else none else bif okW 6 then bif y0 % 6 == 4 then bif okW 3 then bif okW 4 then bif dOk (Jan p_By y1 y10 y11 id) && (kO3 [.ro 5 k0_z k0_f k0, .ro 5 k1_z k1_f k1, .ro 5 k2_z k2_f k2] && kIn (p_By % 3)) then bif kIn y4 && eOk (JcW p_By y1 k0_z k0_f k0 k1_z k1_f k1 k2_z k2_f k2 y10 y11 id) && (h32 y11 && kO3 [.ro 5 k0_z k0_f k0, .ro 5 k1_z k1_f k1, .ro 5 k2_z k2_f k2]) then k (Jjk p_By y1 k0_z k0_f k0 k1_z k1_f k1 k2_z k2_f k2 y4 y10 y11 id) else none else none else none else none else bif y0 % 6 == 5 then bif okW 3 then bif okW 4 then bif dOk (Jao p_By y1 y10 y11 id) && (kO3 [.ro 5 k0_z k0_f k0, .ro 5 k1_z k1_f k1, .ro 5 k2_z k2_f k2] && kIn (p_By % 3)) then bif kIn y4 && eOk (JcX p_By y1 k0_z k0_f k0 k1_z k1_f k1 k2_z k2_f k2 y10 y11 id) && (h32 y11 && kO3 [.ro 5 k0_z k0_f k0, .ro 5 k1_z k1_f k1, .ro 5 k2_z k2_f k2]) then k (Jjl p_By y1 k0_z k0_f k0 k1_z k1_f k1 k2_z k2_f k2 y4 y10 y11 id) else none else none else none else none else bif Jgl (zi y6.size) p_Ns then bif dOk (ZN p_By p_Ns y6 y10 y11 id) && (kO3 [.ro 5 k0_z k0_f k0, .ro 5 k1_z k1_f k1, .ro 5 k2_z k2_f k2] && kIn (p_By % 3)) then bif kIn y4 && eOk (JcV p_By p_Ns k0_z k0_f k0 k1_z k1_f k1 k2_z k2_f k2 y6 y10 y11 id) && (h32 y11 && kO3 [.ro 5 k0_z k0_f k0, .ro 5 k1_z k1_f k1, .ro 5 k2_z k2_f k2]) then k (Jom p_By p_Ns k0_z k0_f k0 k1_z k1_f k1 k2_z k2_f k2 y4 y6 y10 y11 id) else none else none else none else none else none else none
theorem e17 (f : Nat) (y0 p_By y1 : Int) (y2 y3 : Bool) (p_Ns : List PV) (k0_z k0_f : Bool) (k0 : List PV) (k1_z k1_f : Bool) (k1 : List PV) (k2_z k2_f : Bool) (k2 : List PV) (y4 y5 : Int) (y6 : ByteArray) (y7 y8 : Bool) (y9 : List PV) (y10 : Int) (y11 : List PV) (id : Int) (k : KR) : JI tau F17 Tryz.f17 (Tryz.f17.body.get!) JGh [.ro] 0 [.st 25 [.sc (.int .i64 y0), .sc (.int .i64 p_By), .sc (.int .i64 y1), .ro 3 y2 y3 p_Ns], .st 39 [.ro 5 k0_z k0_f k0, .ro 5 k1_z k1_f k1, .ro 5 k2_z k2_f k2], .st 49 [.st 46 [.sc (.int .i64 y4), .sc (.int .i64 y5)], .sc (.string y6), .ro 67 y7 y8 y9, .sc (.int .i64 y10), .ar 28 y11], .sc (.int .i64 id)] [] k = g17 f y0 p_By y1 y2 y3 p_Ns k0_z k0_f k0 k1_z k1_f k1 k2_z k2_f k2 y4 y5 y6 y7 y8 y9 y10 y11 id k := by kernel_rfl
theorem JQE (f : Nat) : ∀ q ∈ Jf (Tryz.f17.body.get!) JGh, q.Ok tau Tryz.prog 0 := Jv (by kernel_rfl)
theorem JME : Tryz.prog.funcs[17]? = some Tryz.f17 := by kernel_rfl
theorem JMF : Tryz.f17.body = some (Tryz.f17.body.get!) := by kernel_rfl
theorem JMG : Enters Tryz.prog 17 := enters_of JME (by kernel_rfl) JMF
def JvC : Jy
 | [.st 25 [.sc (.int .i64 y0), .sc (.int .i64 p_By), .sc (.int .i64 y1), .ro 3 y2 y3 p_Ns], .st 39 [.ro 5 k0_z k0_f k0, .ro 5 k1_z k1_f k1, .ro 5 k2_z k2_f k2], .st 49 [.st 46 [.sc (.int .i64 y4), .sc (.int .i64 y5)], .sc (.string y6), .ro 67 y7 y8 y9, .sc (.int .i64 y10), .ar 28 y11], .sc (.int .i64 id)], [], k => g17 0 y0 p_By y1 y2 y3 p_Ns k0_z k0_f k0 k1_z k1_f k1 k2_z k2_f k2 y4 y5 y6 y7 y8 y9 y10 y11 id k
 | _, _, _ => none
def s17 : Sig := { own := [], run := JvC }
theorem JQF : Jc tau Tryz.prog 17 s17 := JN Jn JGg Jo JME JMF JGh [.ro] 0 [] JvC (JQE 0) fun xs es k res hr => by
 unfold JvC at hr
 split at hr
 · exact ⟨rfl, 0, (e17 0 _ _ _ _ _ _ _ _ _ _ _ _ _ _ _ _ _ _ _ _ _ _ _ _  _).trans hr⟩
 · cases hr
theorem JGi (d : DV) (h : byB d.h = true := by rfl) : byB (pu .u8 (dlB d)) = true := by
 rw [JmC]
 intro x hx
 rw [Jnn] at hx
 simp only [Juc, List.mem_append, List.mem_singleton] at hx
 rcases hx with h1 | h1 | h1 | h1 | h1 | h1 | h1 | h1 | h1
 · exact V2 _ x h1
 · exact V2 _ x h1
 · exact V2 _ x h1
 · exact V2 _ x h1
 · exact (Wg.1 h).2 x h1
 · rw [h1]; exact Ja9 _
 · exact Js8 _ x h1
 · exact V2 _ x h1
 · exact V2 _ x h1
structure SP where
 (kd by1 who : Int) (ns : List PV)
structure SX where
 (p : SP) (K : List PV) (s : SV) (id : Int)
def spOk : SP -> Bool := hid fun p => Jk .i64 p.ns && decide (p.ns.length <= 9223372036854775807)
theorem Jcc {p : SP} : spOk p = true ↔ Jk .i64 p.ns = true /\ p.ns.length <= 9223372036854775807 := by
 rw [spOk, hid_eq]; simp only [Bool.and_eq_true, decide_eq_true_eq]
def twA (n : Int) : AV := ⟨n % 3, IntKind.i64.wrap (n.tdiv 3) % 4⟩
def seA (p : SP) (l : List PV) : AV := bif decide (zi l.length > 0) && decide (p.by1 % 9 > 0) then av (l.getD (p.by1 % zi l.length).toNat .top) else twA p.by1
def seV (x : SX) : DV :=
 bif x.p.kd % 6 == 4 then ⟨(seA x.p x.s.l).d, (seA x.p x.s.l).u, x.id, x.s.ver, x.s.hash, 2, [], (twA x.p.who).d, (twA x.p.who).u⟩
 else bif x.p.kd % 6 == 5 then ⟨(seA x.p x.s.l).d, (seA x.p x.s.l).u, x.id, x.s.ver, x.s.hash, 3, [], (twA x.p.who).d, (twA x.p.who).u⟩
 else ⟨(seA x.p x.s.l).d, (seA x.p x.s.l).u, x.id, x.s.ver, x.s.hash, 1, Q1 ⟨zi x.s.doc.size, x.p.ns⟩, 0, 0⟩
def enV (K : List PV) (s : SV) (d : DV) : EV := ⟨pu .u8 (dlB d), pu .u8 (mcK ⟨K, d.ad, dlB d⟩), s.ver, d.o⟩
def enW (K : List PV) (s : SV) (d : DV) : EW := ⟨pu .u8 (dlB d), pu .u8 (mcK ⟨K, d.ad, dlB d⟩), s.ver, d.o, pu .u8 (nxP ⟨s.hash, enV K s d⟩), pu .u8 (emP ⟨K, s.ih, enV K s d, pu .u8 (nxP ⟨s.hash, enV K s d⟩)⟩)⟩
def ewP (w : EW) : PV := .st 34 [.st 30 [.ro 5 false false w.b, .ar 28 w.m], .sc (.int .i64 w.at1), .ro 53 false false w.o, .ar 28 w.h, .ar 28 w.mc]
def seW (x : SX) : EW := enW x.K x.s (seV x)
def seB : SX -> List PV := hid fun x => (seW x).b
def seS : SX -> List PV := hid fun x => (seW x).m
def seO : SX -> List PV := hid fun x => (seW x).o
def seH : SX -> List PV := hid fun x => (seW x).h
def seM : SX -> List PV := hid fun x => (seW x).mc
theorem Jc0 (x : SX) : EW.mk (seB x) (seS x) x.s.ver (seO x) (seH x) (seM x) = seW x := by
 rw [seB, seS, seO, seH, seM, hid_eq, hid_eq, hid_eq, hid_eq, hid_eq]; rfl
theorem JvD {d u : Int} (h : inA [d, 2, u, 7] = true) : (0 <= d /\ d <= 2) /\ 0 <= u /\ u <= 7 := by
 rw [JkB] at h
 simp only [JiN, Bool.and_eq_true, decide_eq_true_eq] at h
 omega
theorem JGj {p : SP} {l : List PV} (h : uOk l = true) : (0 <= (seA p l).d /\ (seA p l).d <= 2) /\ 0 <= (seA p l).u /\ (seA p l).u <= 7 := by
 unfold seA
 cases hc : (decide (zi l.length > 0) && decide (p.by1 % 9 > 0)) with
 | false =>
  obtain ⟨a, b⟩ := ZM p.by1 (m := 3) (by decide)
  obtain ⟨c, d⟩ := ZM (IntKind.i64.wrap (p.by1.tdiv 3)) (m := 4) (by decide)
  simp only [cond_false, twA]; omega
 | true =>
  rw [Bool.and_eq_true, decide_eq_true_eq] at hc
  have hz : zi l.length = (l.length : Int) := rfl
  obtain ⟨a, b⟩ := ZM p.by1 (m := zi l.length) (by omega)
  have hi : (p.by1 % zi l.length).toNat < l.length := by omega
  rw [cond_true, List.getD_eq_getElem?_getD, List.getElem?_eq_getElem hi]
  exact JvD (List.all_eq_true.1 h _ (List.getElem_mem hi))
theorem Jon {x : SX} (hs : sOk x.s = true) (hp : spOk x.p = true) : dOk (seV x) = true /\ (opB (seV x).o).length <= 400 /\ cBy (seV x).o = true /\ cOk (seV x).o = true /\ kIn (seV x).ad = true /\ (seV x).h = x.s.hash := by
 obtain ⟨s1, s2, s3, s4, s5, s6⟩ := Xm.1 hs
 obtain ⟨p1, p2⟩ := Jcc.1 hp
 have ha := JGj (p := x.p) s6
 have hk : kIn (seA x.p x.s.l).d = true := by rw [Jfh]; simp only [X6, Bool.and_eq_true, decide_eq_true_eq]; omega
 obtain ⟨h1, h2⟩ := h32_iff.1 s2
 have nil := Jje (done := 0) (by decide)
 have n1 := Ju4 (ZX nil (by decide : (0 : Int) <= 14))
 have n2 := Ju5 (ZX nil (by decide : (0 : Int) <= 14))
 have mk := JfB (n := zi x.s.doc.size) x.p.ns (by simp only [zi]; omega) (by simp only [zi]; omega)
 have m1 := Ju4 mk
 have m2 := Ju5 mk
 have m3 : cOk (Q1 ⟨zi x.s.doc.size, x.p.ns⟩) = true := Wh.2 ⟨List.all_eq_true.2 mk.cp, by have := mk.len; omega⟩
 unfold seV
 cases x.p.kd % 6 == 4 with
 | true => exact ⟨Zv.2 ⟨h1, h2, n1, by show (opB []).length <= _; omega⟩, n2, n1, Wh.2 ⟨rfl, Nat.zero_le _⟩, hk, rfl⟩
 | false =>
  cases x.p.kd % 6 == 5 with
  | true => exact ⟨Zv.2 ⟨h1, h2, n1, by show (opB []).length <= _; omega⟩, n2, n1, Wh.2 ⟨rfl, Nat.zero_le _⟩, hk, rfl⟩
  | false => exact ⟨Zv.2 ⟨h1, h2, m1, by show (opB (Q1 ⟨zi x.s.doc.size, x.p.ns⟩)).length <= _; omega⟩, m2, m1, m3, hk, rfl⟩
theorem JvE {K : List PV} {s : SV} {d : DV} (h : dOk d = true) (h2 : (opB d.o).length <= 400) (h3 : cBy d.o = true) : eOk (enV K s d) = true :=
 Qx.2 ⟨JO _ _, by show (pu .u8 (dlB d)).length <= _; rw [JD, Zw h]; omega, JO _ _, by show (pu .u8 (mcK ⟨K, d.ad, dlB d⟩)).length = 32; rw [JD]; exact JnR _, h3, by show (opB d.o).length <= _; omega⟩
theorem Jjm {x : SX} (hs : sOk x.s = true) (hp : spOk x.p = true) (hb : byB x.s.hash = true) : eD (seW x) = true := by
 obtain ⟨v1, v2, v3, v4, v5, v6⟩ := Jon hs hp
 refine Wn.2 ⟨JGi _ (by rw [v6]; exact hb), JvE v1 v2 v3, v4, h32_iff.2 ⟨JO _ _, ?_⟩⟩
 show (pu .u8 (nxP ⟨x.s.hash, enV x.K x.s (seV x)⟩)).length = 32
 rw [JD]; exact Yb _
def Joo : Jy
 | [.st 25 [.sc (.int .i64 kd), .sc (.int .i64 by1), .sc (.int .i64 who), .ro 3 nz nf ns], .st 39 [.ro 5 z0 f0 k0, .ro 5 z1 f1 k1, .ro 5 z2 f2 k2], .st 49 [.st 46 [.sc (.int .i64 ih), .sc (.int .i64 iN)], .sc (.string doc), .ro 67 z f l, .sc (.int .i64 ver), .ar 28 hash], .sc (.int .i64 id1)], [], k =>
  bif (sOk ⟨ih, iN, doc, l, ver, hash⟩ && spOk ⟨kd, by1, who, ns⟩) && (kO3 [.ro 5 z0 f0 k0, .ro 5 z1 f1 k1, .ro 5 z2 f2 k2] && kIn ih) then
   k ⟨.st 34 [.st 30 [.ro 5 false false (seB ⟨⟨kd, by1, who, ns⟩, [.ro 5 z0 f0 k0, .ro 5 z1 f1 k1, .ro 5 z2 f2 k2], ⟨ih, iN, doc, l, ver, hash⟩, id1⟩), .ar 28 (seS ⟨⟨kd, by1, who, ns⟩, [.ro 5 z0 f0 k0, .ro 5 z1 f1 k1, .ro 5 z2 f2 k2], ⟨ih, iN, doc, l, ver, hash⟩, id1⟩)], .sc (.int .i64 ver), .ro 53 false false (seO ⟨⟨kd, by1, who, ns⟩, [.ro 5 z0 f0 k0, .ro 5 z1 f1 k1, .ro 5 z2 f2 k2], ⟨ih, iN, doc, l, ver, hash⟩, id1⟩), .ar 28 (seH ⟨⟨kd, by1, who, ns⟩, [.ro 5 z0 f0 k0, .ro 5 z1 f1 k1, .ro 5 z2 f2 k2], ⟨ih, iN, doc, l, ver, hash⟩, id1⟩), .ar 28 (seM ⟨⟨kd, by1, who, ns⟩, [.ro 5 z0 f0 k0, .ro 5 z1 f1 k1, .ro 5 z2 f2 k2], ⟨ih, iN, doc, l, ver, hash⟩, id1⟩)], [], []⟩ else none
 | _, _, _ => none
def JGk : Sig := { own := [], run := Joo }
theorem JGl (p : SP) (s : SV) (id1 : Int) (nz nf z0 f0 : Bool) (k0 : List PV) (z1 f1 : Bool) (k1 : List PV) (z2 f2 : Bool) (k2 : List PV) (z f : Bool) (hs : sOk s = true) (hp : spOk p = true) (hK : kO3 [.ro 5 z0 f0 k0, .ro 5 z1 f1 k1, .ro 5 z2 f2 k2] = true) (hi : kIn s.ih = true) (k : KR) :
  g17 0 p.kd p.by1 p.who nz nf p.ns z0 f0 k0 z1 f1 k1 z2 f2 k2 s.ih s.iN s.doc z f s.l s.ver s.hash id1 k = k ⟨ewP (seW ⟨p, [.ro 5 z0 f0 k0, .ro 5 z1 f1 k1, .ro 5 z2 f2 k2], s, id1⟩), [], []⟩ := by
 unfold g17 Jcb Jca Jjl Jjk Jom JfQ Gh JcZ JcY JcX Jao JcW Jan JcV ZN QL
 generalize [PV.ro 5 z0 f0 k0, .ro 5 z1 f1 k1, .ro 5 z2 f2 k2] = K at *
 obtain ⟨s1, s2, s3, s4, s5, s6⟩ := Xm.1 hs
 obtain ⟨p1, p2⟩ := Jcc.1 hp
 obtain ⟨v1, v2, v3, v4, v5, v6⟩ := Jon (x := ⟨p, K, s, id1⟩) hs hp
 have he := JvE (K := K) (s := s) v1 v2 v3
 have w : ∀ n : Int, 0 < n -> n < 1000000000000 -> okW n = true := fun n h h2 => JCi h h2
 have T : ∀ d : DV, seV ⟨p, K, s, id1⟩ = d -> (bif dOk d && (kO3 K && kIn d.ad) then bif kIn s.ih && eOk (enV K s d) && (h32 s.hash && kO3 K) then k ⟨ewP (enW K s d), [], []⟩ else none else none) = k ⟨ewP (seW ⟨p, K, s, id1⟩), [], []⟩ := fun d hd => by
  subst hd
  exact (Ja (by rw [v1, hK, v5]; rfl)).trans (Ja (by rw [hi, he, s2, hK]; rfl))
 have hns : Jgl (zi s.doc.size) p.ns = true := JfA.2 ⟨by simp only [zi]; omega, by simp only [zi]; omega, p1, p2⟩
 have M : ∀ a : AV, seA p s.l = a -> (bif okW 6 then bif p.kd % 6 == 4 then bif okW 3 then bif okW 4 then bif dOk ⟨a.d, a.u, id1, s.ver, s.hash, 2, [], p.who % 3, IntKind.i64.wrap (p.who.tdiv 3) % 4⟩ && (kO3 K && kIn a.d) then bif kIn s.ih && eOk (enV K s ⟨a.d, a.u, id1, s.ver, s.hash, 2, [], p.who % 3, IntKind.i64.wrap (p.who.tdiv 3) % 4⟩) && (h32 s.hash && kO3 K) then k ⟨ewP (enW K s ⟨a.d, a.u, id1, s.ver, s.hash, 2, [], p.who % 3, IntKind.i64.wrap (p.who.tdiv 3) % 4⟩), [], []⟩ else none else none else none else none
   else bif p.kd % 6 == 5 then bif okW 3 then bif okW 4 then bif dOk ⟨a.d, a.u, id1, s.ver, s.hash, 3, [], p.who % 3, IntKind.i64.wrap (p.who.tdiv 3) % 4⟩ && (kO3 K && kIn a.d) then bif kIn s.ih && eOk (enV K s ⟨a.d, a.u, id1, s.ver, s.hash, 3, [], p.who % 3, IntKind.i64.wrap (p.who.tdiv 3) % 4⟩) && (h32 s.hash && kO3 K) then k ⟨ewP (enW K s ⟨a.d, a.u, id1, s.ver, s.hash, 3, [], p.who % 3, IntKind.i64.wrap (p.who.tdiv 3) % 4⟩), [], []⟩ else none else none else none else none
   else bif Jgl (zi s.doc.size) p.ns then bif dOk ⟨a.d, a.u, id1, s.ver, s.hash, 1, Q1 ⟨zi s.doc.size, p.ns⟩, 0, 0⟩ && (kO3 K && kIn a.d) then bif kIn s.ih && eOk (enV K s ⟨a.d, a.u, id1, s.ver, s.hash, 1, Q1 ⟨zi s.doc.size, p.ns⟩, 0, 0⟩) && (h32 s.hash && kO3 K) then k ⟨ewP (enW K s ⟨a.d, a.u, id1, s.ver, s.hash, 1, Q1 ⟨zi s.doc.size, p.ns⟩, 0, 0⟩), [], []⟩ else none else none else none else none) = k ⟨ewP (seW ⟨p, K, s, id1⟩), [], []⟩ := fun a ha => by
  refine (Ja (w _ (by decide) (by decide))).trans ?_
  cases h4 : (p.kd % 6 == 4) with
  | true =>
   refine (Ja rfl).trans ((Ja (w _ (by decide) (by decide))).trans ((Ja (w _ (by decide) (by decide))).trans (T _ ?_)))
   unfold seV; rw [ha]; exact Ja h4
  | false =>
   refine (Jd rfl).trans ?_
   cases h5 : (p.kd % 6 == 5) with
   | true =>
    refine (Ja rfl).trans ((Ja (w _ (by decide) (by decide))).trans ((Ja (w _ (by decide) (by decide))).trans (T _ ?_)))
    unfold seV; rw [ha]; exact (Jd h4).trans (Ja h5)
   | false =>
    refine (Jd rfl).trans ((Ja hns).trans (T _ ?_))
    unfold seV; rw [ha]; exact (Jd h4).trans (Jd h5)
 refine (Ja (w _ (by decide) (by decide))).trans ((Ja (w _ (by decide) (by decide))).trans ?_)
 have hz : zi s.l.length = (s.l.length : Int) := rfl
 obtain ⟨q1, q2, q3⟩ := QJ.1 s1
 cases h1 : decide (zi s.l.length > 0) with
 | false => exact (Jd rfl).trans (M (twA p.by1) (by unfold seA; rw [h1]; rfl))
 | true =>
  have h1' := of_decide_eq_true h1
  refine (Ja rfl).trans ((Ja (w _ (by decide) (by decide))).trans ?_)
  cases h2 : decide (p.by1 % 9 > 0) with
  | false => exact (Jd rfl).trans (M (twA p.by1) (by unfold seA; rw [h1, h2]; rfl))
  | true =>
   obtain ⟨m1, m2⟩ := ZM p.by1 (m := zi s.l.length) h1'
   have hidx : (p.by1 % zi s.l.length).toNat < s.l.length := by omega
   have hc := Xa (Xb q1 hidx)
   unfold Vy at hc
   refine (Ja rfl).trans ((Ja (w _ h1' (by omega))).trans ((Ja (by rw [hc, decide_eq_true m1, decide_eq_true m2]; rfl)).trans ?_))
   exact M (av (s.l.getD (p.by1 % zi s.l.length).toNat .top)) (by unfold seA; rw [h1, h2]; rfl)
theorem JCl : Jc tau Tryz.prog 17 JGk := JQF.of fun xs es k res hr => by
 change Joo xs es k = some res at hr
 unfold Joo at hr
 split at hr
 · rename_i kd by1 who nz nf ns z0 f0 k0 z1 f1 k1 z2 f2 k2 ih iN doc z f l ver hash id1
   obtain ⟨hc, hr⟩ := Ju hr
   simp only [Bool.and_eq_true] at hc
   obtain ⟨⟨c1, c2⟩, c3, c4⟩ := hc
   refine (JGl ⟨kd, by1, who, ns⟩ ⟨ih, iN, doc, l, ver, hash⟩ id1 nz nf z0 f0 k0 z1 f1 k1 z2 f2 k2 z f c1 c2 c3 c4 k).trans (Eq.trans ?_ hr)
   rw [← Jc0]; rfl
 · cases hr
def F42 : Fns := Jr 76 Jyl (Jr 46 JyI (F0))
theorem JGm : Jp tau Tryz.prog F42 := ((Js).add Jus JE0).add Jt6 Jxl
def JGn : An := (.seq .leaf (.seq .leaf (.seq .leaf (.seq .leaf .leaf))))
abbrev Jop (y0 : Int) (id_N : Int) (y1 : Int) (y2 : Int) := (List.take (apI (apI (apI (apI [] y0) id_N) y1) y2).length (apI (apI (apI (apI [] y0) id_N) y1) y2))
def g42 (f : Nat) (y0 id_N y1 y2 : Int) (k : KR) : OR := bif okL (apI [] y0).length (apI [] y0) then bif okL (apI (apI [] y0) id_N).length (apI (apI [] y0) id_N) then bif okL (apI (apI (apI [] y0) id_N) y1).length (apI (apI (apI [] y0) id_N) y1) then bif Jk IntKind.u8 (Jop y0 id_N y1 y2) && decide ((Jop y0 id_N y1 y2).length <= 140737488355000) then k (Res.mk (.st 49 [.st 46 [.sc (.int .i64 y0), .sc (.int .i64 id_N)], .sc (.string (ByteArray.mk #[])), .ro 67 false false [.st 67 [.sc (.int .i64 y1), .sc (.int .i64 y2)]], .sc (.int .i64 0), .ar 28 (pu IntKind.u8 (JX (JC (Jop y0 id_N y1 y2))))]) [] []) else none else none else none else none
theorem e42 (f : Nat) (y0 id_N y1 y2 : Int) (k : KR) : JI tau F42 Tryz.f42 (Tryz.f42.body.get!) JGn [.ro] 0 [.st 46 [.sc (.int .i64 y0), .sc (.int .i64 id_N)], .st 67 [.sc (.int .i64 y1), .sc (.int .i64 y2)]] [] k = g42 f y0 id_N y1 y2 k := by kernel_rfl
theorem JQG (f : Nat) : ∀ q ∈ Jf (Tryz.f42.body.get!) JGn, q.Ok tau Tryz.prog 0 := Jv (by kernel_rfl)
theorem JMH : Tryz.prog.funcs[42]? = some Tryz.f42 := by kernel_rfl
theorem JMI : Tryz.f42.body = some (Tryz.f42.body.get!) := by kernel_rfl
theorem JQH : Enters Tryz.prog 42 := enters_of JMH (by kernel_rfl) JMI
def JvF : Jy
 | [.st 46 [.sc (.int .i64 y0), .sc (.int .i64 id_N)], .st 67 [.sc (.int .i64 y1), .sc (.int .i64 y2)]], [], k => g42 0 y0 id_N y1 y2 k
 | _, _, _ => none
def s42 : Sig := { own := [], run := JvF }
theorem JQI : Jc tau Tryz.prog 42 s42 := JN Jn JGm Jo JMH JMI JGn [.ro] 0 [] JvF (JQG 0) fun xs es k res hr => by
 unfold JvF at hr
 split at hr
 · exact ⟨rfl, 0, (e42 0 _ _ _ _  _).trans hr⟩
 · cases hr
end
end Go.Proofs.YthpmachmnoljeaaGreat.Rx
