/- What the functions of this law compute, and their plain laws. Conditions: none. -/
import Derived.Test.YthpmachmnoljeaaWaveletPlaysP3
namespace Go.Proofs.Ythpmachmnoljeaa.Rx
noncomputable section
open Go
set_option linter.unusedVariables false
set_option linter.unusedSimpArgs false
set_option maxRecDepth 100000
set_option maxHeartbeats 0
-- FN sign.Delta | sign.Open | sign.Entry | sign.Check | ref9.Delta | ref9.Open | ref9.Next | ref9.Entry | ref9.Check
def h32 : List PV -> Bool := hid fun h => Jl .u8 h && decide (h.length = 32)
theorem h32_iff {h : List PV} : h32 h = true ↔ Jl .u8 h = true /\ h.length = 32 := by rw [h32, hid_eq, Bool.and_eq_true, decide_eq_true_eq]
def kO3 : List PV -> Bool := hid fun l => l.all fun p => kOk p.els
theorem Jpl {z0 f0 z1 f1 z2 f2 : Bool} {k0 k1 k2 : List PV} : kO3 [.ro 5 z0 f0 k0, .ro 5 z1 f1 k1, .ro 5 z2 f2 k2] = true ↔ kOk k0 = true /\ kOk k1 = true /\ kOk k2 = true := by
 rw [kO3, hid_eq]; simp [PV.els]
structure MK where
 (l : List PV) (d : Int) (t : List Int)
def mcK : MK -> List Int := hid fun m => JfV (JD (JhK ⟨m.l, m.d⟩)) m.t
theorem Jm3 (m : MK) : mcK m = JfV (JD (JhK ⟨m.l, m.d⟩)) m.t := by rw [mcK, hid_eq]
theorem Jm4 (m : MK) : (mcK m).length = 32 := by rw [Jm3]; exact Jj9 _ _
structure NX where
 (p : List PV) (e : EV)
def nxP : NX -> List Int := hid fun x => JX (JD x.p ++ JY x.e)
theorem Jff (x : NX) : nxP x = JX (JD x.p ++ JY x.e) := by rw [nxP, hid_eq]
theorem Zv (x : NX) : (nxP x).length = 32 := by rw [Jff]; exact Qu _
structure EM where
 (l : List PV) (d : Int) (e : EV) (h : List PV)
def emP : EM -> List Int := hid fun x => mcK ⟨x.l, x.d, JY x.e ++ JD x.h⟩
theorem JDh (x : EM) : emP x = mcK ⟨x.l, x.d, JY x.e ++ JD x.h⟩ := by rw [emP, hid_eq]
structure EC where
 (l : List PV) (d : Int) (e : EV) (h m : List PV)
structure SO where
 (l b m : List PV)
theorem Vr {a b : List PV} (h : Jl .u8 a = true) (h' : Jl .u8 b = true) : Jl .u8 (a ++ b) = true := by
 induction a with
 | nil => exact h'
 | cons p ps ih =>
  have e : ∀ l : List PV, Jl .u8 (p :: l) = (p.isInt .u8 && Jl .u8 l) := fun l => rfl
  rw [e, Bool.and_eq_true] at h
  rw [List.cons_append, e, Bool.and_eq_true]; exact ⟨h.1, ih h.2⟩
theorem JgG (a b : List PV) : JD (a ++ b) = JD a ++ JD b := by simp [JD]
theorem Jtl {z0 f0 z1 f1 z2 f2 : Bool} {k0 k1 k2 : List PV} (h : kO3 [.ro 5 z0 f0 k0, .ro 5 z1 f1 k1, .ro 5 z2 f2 k2] = true) {d : Int} (hd : Xy d 2 = true) :
  PV.isRo 5 (Jr (PV.st 31 [.ro 5 z0 f0 k0, .ro 5 z1 f1 k1, .ro 5 z2 f2 k2]) [d.toNat]) = true /\ (Jr (PV.st 31 [.ro 5 z0 f0 k0, .ro 5 z1 f1 k1, .ro 5 z2 f2 k2]) [d.toNat]).els = JhK ⟨[.ro 5 z0 f0 k0, .ro 5 z1 f1 k1, .ro 5 z2 f2 k2], d⟩ := by
 rw [JoC, JjS, hd]
 simp only [Xy, Bool.and_eq_true, decide_eq_true_eq] at hd
 have : d = 0 ∨ d = 1 ∨ d = 2 := by omega
 rcases this with rfl | rfl | rfl <;> exact ⟨rfl, rfl⟩
theorem Jtm {z0 f0 z1 f1 z2 f2 : Bool} {k0 k1 k2 : List PV} (h : kO3 [.ro 5 z0 f0 k0, .ro 5 z1 f1 k1, .ro 5 z2 f2 k2] = true) (d : Int) : Jl .u8 (JhK ⟨[.ro 5 z0 f0 k0, .ro 5 z1 f1 k1, .ro 5 z2 f2 k2], d⟩) = true /\ (JhK ⟨[.ro 5 z0 f0 k0, .ro 5 z1 f1 k1, .ro 5 z2 f2 k2], d⟩).length <= 1000000000 := by
 obtain ⟨a, b, c⟩ := Jpl.1 h
 have := JwZ (z0 := z0) (f0 := f0) (z1 := z1) (f1 := f1) (z2 := z2) (f2 := f2) a b c d
 rw [kOk, Bool.and_eq_true, decide_eq_true_eq] at this; exact this
theorem Jqz {d : DV} (h : dOk d = true) : (dlB d).length <= 65618 := by rw [GF h]; have := (Zf.1 h).2.2.2; omega
theorem Jc8 {e : EV} (h : eOk e = true) : (JY e).length <= 131114 := by rw [XC h]; have := Xd.1 h; omega
/-! sign.Delta, ref9.Delta -/
def Jm5 : Jz
 | [.st 31 [.ro 5 z0 f0 k0, .ro 5 z1 f1 k1, .ro 5 z2 f2 k2], .st 53 [.st 42 [.sc (.int .i64 ad), .sc (.int .i64 au)], .sc (.int .i64 id1), .sc (.int .i64 ve), .ar 37 h, .sc (.int .i64 kd), .ro 113 oz of o, .st 42 [.sc (.int .i64 wd), .sc (.int .i64 wu)]]], [], k =>
  bif dOk ⟨ad, au, id1, ve, h, kd, o, wd, wu⟩ && (kO3 [.ro 5 z0 f0 k0, .ro 5 z1 f1 k1, .ro 5 z2 f2 k2] && kIn ad) then
   k ⟨.st 47 [.ro 5 false false (pu .u8 (dlB ⟨ad, au, id1, ve, h, kd, o, wd, wu⟩)), .ar 37 (pu .u8 (mcK ⟨[.ro 5 z0 f0 k0, .ro 5 z1 f1 k1, .ro 5 z2 f2 k2], ad, dlB ⟨ad, au, id1, ve, h, kd, o, wd, wu⟩⟩))], [], []⟩ else none
 | _, _, _ => none
def JJe : Sig := { own := [], run := Jm5 }
theorem JJf : Jc tau Try.prog 55 JJe := JNH.of fun xs es k res hr => by
 change Jm5 xs es k = some res at hr
 unfold Jm5 at hr
 split at hr
 · rename_i z0 f0 k0 z1 f1 k1 z2 f2 k2 ad au id1 ve h kd oz of o wd wu
   obtain ⟨hc, hr⟩ := Jv hr
   simp only [Bool.and_eq_true] at hc
   have hK := Jtm hc.2.1 ad
   have hs := Jqz hc.1
   have hin := hc.2.2
   rw [Jfe] at hin
   obtain ⟨q1, q2⟩ := Jtl hc.2.1 hin
   have htp : ∀ l : List Int, List.take l.length (pu .u8 l) = pu .u8 l := fun l => List.take_of_length_le (by simp)
   simp only [Xy, Bool.and_eq_true, decide_eq_true_eq] at hin
   refine Eq.trans ?_ hr
   show g55 0 z0 f0 k0 z1 f1 k1 z2 f2 k2 ad au id1 ve h kd oz of o wd wu k = _
   unfold g55 Jfd
   simp only [q2, htp, JO, Q9, JI]
   refine (Ja hc.1).trans ((Ja (by simp [zi]; omega)).trans ((Ja (by rw [q1]; rfl)).trans ((Ja (by rw [hK.1]; simp; omega)).trans ?_)))
   rw [Jm3]
 · cases hr
/-! sign.Open, ref9.Open -/
/-! entries -/
def Jm6 : Jz
 | [.st 31 [.ro 5 z0 f0 k0, .ro 5 z1 f1 k1, .ro 5 z2 f2 k2], .sc (.int .i64 ho), .ar 37 pr, .st 47 [.ro 5 z f b, .ar 37 m], .sc (.int .i64 at1), .ro 113 oz of o], [], k =>
  bif (kIn ho && eOk ⟨b, m, at1, o⟩) && (h32 pr && kO3 [.ro 5 z0 f0 k0, .ro 5 z1 f1 k1, .ro 5 z2 f2 k2]) then
   k ⟨.st 51 [.st 47 [.ro 5 false false b, .ar 37 m], .sc (.int .i64 at1), .ro 113 false false o, .ar 37 (pu .u8 (nxP ⟨pr, ⟨b, m, at1, o⟩⟩)), .ar 37 (pu .u8 (emP ⟨[.ro 5 z0 f0 k0, .ro 5 z1 f1 k1, .ro 5 z2 f2 k2], ho, ⟨b, m, at1, o⟩, pu .u8 (nxP ⟨pr, ⟨b, m, at1, o⟩⟩)⟩))], [], []⟩ else none
 | _, _, _ => none
def JJg : Sig := { own := [], run := Jm6 }
theorem JJh : Jc tau Try.prog 54 JJg := JNL.of fun xs es k res hr => by
 change Jm6 xs es k = some res at hr
 unfold Jm6 at hr
 split at hr
 · rename_i z0 f0 k0 z1 f1 k1 z2 f2 k2 ho pr z f b m at1 oz of o
   obtain ⟨hc, hr⟩ := Jv hr
   simp only [Bool.and_eq_true] at hc
   have hK := Jtm hc.2.2 ho
   have hin := hc.1.1
   rw [Jfe] at hin
   obtain ⟨q1, q2⟩ := Jtl hc.2.2 hin
   simp only [Xy, Bool.and_eq_true, decide_eq_true_eq] at hin
   obtain ⟨p1, p2⟩ := h32_iff.1 hc.2.1
   have hcl := Jc8 hc.1.2
   have heo := Xd.1 hc.1.2
   have hbl : b.length <= 65535 := heo.2.1
   have hol : o.length <= 1000 := (Jdt.1 heo.2.2.2.2.1).2.2
   have hnl := Zv ⟨pr, ⟨b, m, at1, o⟩⟩
   have htp : List.take 32 pr = pr := List.take_of_length_le (by omega)
   have htc : List.take (JY ⟨b, m, at1, o⟩).length (pu .u8 (JY ⟨b, m, at1, o⟩)) = pu .u8 (JY ⟨b, m, at1, o⟩) := List.take_of_length_le (by simp)
   have htn : List.take (pr.length + (JY ⟨b, m, at1, o⟩).length) (pr ++ pu .u8 (JY ⟨b, m, at1, o⟩)) = pr ++ pu .u8 (JY ⟨b, m, at1, o⟩) := List.take_of_length_le (by simp)
   have hth : List.take 32 (pu .u8 (nxP ⟨pr, ⟨b, m, at1, o⟩⟩)) = pu .u8 (nxP ⟨pr, ⟨b, m, at1, o⟩⟩) := List.take_of_length_le (by rw [JI]; omega)
   have hte : List.take ((JY ⟨b, m, at1, o⟩).length + (nxP ⟨pr, ⟨b, m, at1, o⟩⟩).length) (pu .u8 (JY ⟨b, m, at1, o⟩) ++ pu .u8 (nxP ⟨pr, ⟨b, m, at1, o⟩⟩)) = pu .u8 (JY ⟨b, m, at1, o⟩) ++ pu .u8 (nxP ⟨pr, ⟨b, m, at1, o⟩⟩) := List.take_of_length_le (by simp)
   have hnx : JX (JD pr ++ JY ⟨b, m, at1, o⟩) = nxP ⟨pr, ⟨b, m, at1, o⟩⟩ := by rw [Jff]
   have hem : JfV (JD (JhK ⟨[.ro 5 z0 f0 k0, .ro 5 z1 f1 k1, .ro 5 z2 f2 k2], ho⟩)) (JY ⟨b, m, at1, o⟩ ++ nxP ⟨pr, ⟨b, m, at1, o⟩⟩) = emP ⟨[.ro 5 z0 f0 k0, .ro 5 z1 f1 k1, .ro 5 z2 f2 k2], ho, ⟨b, m, at1, o⟩, pu .u8 (nxP ⟨pr, ⟨b, m, at1, o⟩⟩)⟩ := by rw [JDh, Jm3, Q9]
   refine Eq.trans ?_ hr
   show g54 0 z0 f0 k0 z1 f1 k1 z2 f2 k2 ho pr z f b m at1 oz of o k = _
   unfold g54 Jip GS X3
   simp only [List.take_length, Nat.zero_add, htp, htc, JI, htn, JgG, Q9, hnx, hth, hte, q2, hem]
   refine (Ja (by simp [Je]; omega)).trans ((Ja (by simp [Je]; omega)).trans ((Ja (by simp [Je]; omega)).trans ((Ja hc.1.2).trans ((Ja (by simp [Je]; omega)).trans ((Ja (by rw [Vr p1 (JO _ _)]; simp; omega)).trans ((Ja (by simp [zi]; omega)).trans ((Ja (by rw [q1]; rfl)).trans ((Ja hc.1.2).trans ((Ja (by simp [Je]; omega)).trans ((Ja (by rw [hK.1, Vr (JO _ _) (JO _ _)]; simp; omega)).trans ?_))))))))))
   rfl
 · cases hr
def Jm7 : Jz
 | [.ar 37 pr, .st 51 [.st 47 [.ro 5 z f b, .ar 37 m], .sc (.int .i64 at1), .ro 113 oz of o, .ar 37 h, .ar 37 mc]], [], k =>
  bif h32 pr && eOk ⟨b, m, at1, o⟩ then k ⟨.ar 37 (pu .u8 (nxP ⟨pr, ⟨b, m, at1, o⟩⟩)), [], []⟩ else none
 | _, _, _ => none
def JJi : Sig := { own := [], run := Jm7 }
theorem JJj : Jc tau Try.prog 16 JJi := JI9.of fun xs es k res hr => by
 change Jm7 xs es k = some res at hr
 unfold Jm7 at hr
 split at hr
 · rename_i pr z f b m at1 oz of o h mc
   obtain ⟨hc, hr⟩ := Jv hr
   rw [Bool.and_eq_true] at hc
   obtain ⟨p1, p2⟩ := h32_iff.1 hc.1
   have hcl := Jc8 hc.2
   have htp : List.take 32 pr = pr := List.take_of_length_le (by omega)
   have htc : List.take (JY ⟨b, m, at1, o⟩).length (pu .u8 (JY ⟨b, m, at1, o⟩)) = pu .u8 (JY ⟨b, m, at1, o⟩) := List.take_of_length_le (by simp)
   have htn : List.take (pr.length + (JY ⟨b, m, at1, o⟩).length) (pr ++ pu .u8 (JY ⟨b, m, at1, o⟩)) = pr ++ pu .u8 (JY ⟨b, m, at1, o⟩) := List.take_of_length_le (by simp)
   refine Eq.trans ?_ hr
   show g16 0 pr z f b m at1 oz of o h mc k = _
   unfold g16 Jio
   simp only [List.take_length, Nat.zero_add, htp, htc, JI, htn, JgG, Q9]
   refine (Ja (by simp [Je]; omega)).trans ((Ja hc.2).trans ((Ja (by simp [Je]; omega)).trans ((Ja (by rw [Vr p1 (JO _ _)]; simp; omega)).trans ?_)))
   rw [Jff]
 · cases hr
def Jtn : Nat := 25
def JDi : Fns := F0
theorem Jpm : Jq tau Try.prog JDi := Js
def Jiq : Code := Qd (Try.f102.body.get!) [1, 1, 0, 1, 0, 0]
def Jbw : Nm := [(0, .any), (3, .any), (4, .any)]
def Jir : Nm := [(3, .any)]
def Jm8 : An := (.seq (.seq .leaf (.cond .leaf .leaf)) (.seq (.block none (.seq .leaf (.cond .leaf .leaf))) .leaf))
def Jpn (r0 : Qr) : An := (.seq .leaf (.seq .leaf (.seq (.seq .leaf (.block none (.sum Jbw Jtn r0))) (.seq .leaf .leaf))))
abbrev Yo (v2 : List PV) (v4 : Int) := (PV.isSt 113 #[Field.mk "Kind" 3 0 false "" "" 0, Field.mk "N" 3 1 false "" "" 8, Field.mk "S" 9 2 false "" "" 16].size (v2.getD v4.toNat PV.top) && (PV.isInt IntKind.i64 (PV.child 0 (v2.getD v4.toNat PV.top)) && (PV.isInt IntKind.i64 (PV.child (0 + 1) (v2.getD v4.toNat PV.top)) && ((PV.child (0 + 1 + 1) (v2.getD v4.toNat PV.top)).isStr && true))))
def Vs (f : Nat) (rc : Bool -> Bool -> List PV -> Int -> Int -> OR) (k0 : Int -> OR) (v0 v1 : Bool) (v2 : List PV) (v3 v4 : Int) : OR := bif decide (v4 < zi v2.length) then bif decide (0 <= v4) && decide (v4 < zi v2.length) && (Yo v2 v4) && true then bif (PV.child 0 (v2.getD v4.toNat PV.top)).int != 2 then bif decide (0 <= v4) && decide (v4 < zi v2.length) && (Yo v2 v4) && true then rc v0 v1 v2 (IntKind.i64.wrap (v3 + (PV.child (0 + 1) (v2.getD v4.toNat PV.top)).int)) (IntKind.i64.wrap (v4 + 1)) else none else rc v0 v1 v2 v3 (IntKind.i64.wrap (v4 + 1)) else none else k0 v3
def Zw (f : Nat) (k0 : Int -> OR) : Nat -> Bool -> Bool -> List PV -> Int -> Int -> OR
 | 0, _, _, _, _, _ => none
 | n + 1, v0, v1, v2, v3, v4 => Vs f (Zw f k0 n) k0 v0 v1 v2 v3 v4
def VS (k : Kont) := fun x0 => k (Ex.exit 0) (Ji Jir Jtn [.sc (.int .i64 x0)] [])
def Jis (f : Nat) (k : Kont) (n : Nat) (v0 v1 : Bool) (v2 : List PV) (v3 v4 : Int) : OR := Jy tau 0 Jbw (fun s k => ev tau JDi 0 0 Jiq (Jm8 ) s k) n (Ji Jbw Jtn [.ro 113 v0 v1 v2, .sc (.int .i64 v3), .sc (.int .i64 v4)] []) (JG tau 0 Jir k)
theorem Jto (f : Nat) (k : Kont) (n : Nat) (v0 v1 : Bool) (v2 : List PV) (v3 v4 : Int) : Jis f k (n + 1) v0 v1 v2 v3 v4 = Vs f (Jis f k n) (VS k) v0 v1 v2 v3 v4 := by kernel_rfl
theorem Jka (f : Nat) (k : Kont) : ∀ (n : Nat) (v0 v1 : Bool) (v2 : List PV) (v3 v4 : Int), Jis f k n v0 v1 v2 v3 v4 = Zw f (VS k) n v0 v1 v2 v3 v4 | 0, _, _, _, _, _ => rfl | n + 1, v0, v1, v2, v3, v4 => (Jto f k n v0 v1 v2 v3 v4).trans (congrArg (fun r => Vs f r (VS k) v0 v1 v2 v3 v4) (by funext v0 v1 v2 v3 v4; exact Jka f k n v0 v1 v2 v3 v4))
def GT (f : Nat) : List PV -> List (Nat × Ent) -> Kont -> OR
 | [.ro 113 v0 v1 v2, .sc (.int .i64 v3),
 .sc (.int .i64 v4)], [], k => Zw f (VS k) f v0 v1 v2 v3 v4
 | _, _, _ => none
theorem Jw0 (f : Nat) : Jf Jiq Jm8 = [] := by kernel_rfl
theorem Jw1 (f : Nat) : (Item.l Jiq Jbw Jtn (GT f)).Ok tau Try.prog 0 := Ju Jn Jpm Jo (x := Jm8) (nm2 := Jir) (Jk _ _ (by rw [Jw0 f]; intro q hq; cases hq)) fun vs hp k res hr => by
 unfold GT at hr
 split at hr
 · exact ⟨f, 0, (Jka f _ f _ _ _ _ _ ).trans hr⟩
 · cases hr
def JJk (f : Nat) (o_z o_f : Bool) (o : List PV) (k : KR) : OR := Zw f (fun x0_0 => k (Res.mk (.sc (.int .i64 x0_0)) [] [])) f o_z o_f o (0) (0)
theorem JNM (f : Nat) (o_z o_f : Bool) (o : List PV) (k : KR) : JJ tau JDi Try.f102 (Try.f102.body.get!) (Jpn (GT f)) [.ro] 0 [.ro 113 o_z o_f o] [] k = JJk f o_z o_f o k := by kernel_rfl
theorem JJl (f : Nat) : Jf (Try.f102.body.get!) (Jpn (GT f)) = [.l Jiq Jbw Jtn (GT f)] := by kernel_rfl
theorem JJm (f : Nat) : ∀ q ∈ Jf (Try.f102.body.get!) (Jpn (GT f)), q.Ok tau Try.prog 0 := by rw [JJl f]; exact JL (Jw1 f) (fun _ h => nomatch h)
theorem Jzy : Try.prog.funcs[102]? = some Try.f102 := by kernel_rfl
theorem Jzz : Try.f102.body = some (Try.f102.body.get!) := by kernel_rfl
theorem JJn : Enters Try.prog 102 := enters_of Jzy (by kernel_rfl) Jzz
def Jtp : Nat := 33
def JDj : Fns := F0
theorem Jpo : Jq tau Try.prog JDj := Js
def Jit : Code := Qd (Try.f103.body.get!) [1, 1, 0, 1, 0, 0]
def Jbx : Nm := [(0, .any), (3, .any), (4, .any)]
def Jiu : Nm := [(3, .any)]
def Jm9 : An := (.seq (.seq .leaf (.cond .leaf .leaf)) (.seq (.block none (.seq (.seq .leaf (.cond .leaf .leaf)) .leaf)) .leaf))
def Jpp (r0 : Qr) : An := (.seq .leaf (.seq .leaf (.seq (.seq .leaf (.block none (.sum Jbx Jtp r0))) (.seq .leaf .leaf))))
abbrev Wp (v2 : List PV) (v4 : Int) := (PV.isSt 113 #[Field.mk "Kind" 3 0 false "" "" 0, Field.mk "N" 3 1 false "" "" 8, Field.mk "S" 9 2 false "" "" 16].size (v2.getD v4.toNat PV.top) && (PV.isInt IntKind.i64 (PV.child 0 (v2.getD v4.toNat PV.top)) && (PV.isInt IntKind.i64 (PV.child (0 + 1) (v2.getD v4.toNat PV.top)) && ((PV.child (0 + 1 + 1) (v2.getD v4.toNat PV.top)).isStr && true))))
def Vt (f : Nat) (rc : Bool -> Bool -> List PV -> Int -> Int -> OR) (k0 : Int -> OR) (v0 v1 : Bool) (v2 : List PV) (v3 v4 : Int) : OR := bif decide (v4 < zi v2.length) then bif decide (0 <= v4) && decide (v4 < zi v2.length) && (Wp v2 v4) && true then bif (PV.child 0 (v2.getD v4.toNat PV.top)).int == 1 then bif decide (0 <= v4) && decide (v4 < zi v2.length) && (Wp v2 v4) && true then bif decide (0 <= v4) && decide (v4 < zi v2.length) && (Wp v2 v4) && true then rc v0 v1 v2 (IntKind.i64.wrap (IntKind.i64.wrap (v3 + (PV.child (0 + 1) (v2.getD v4.toNat PV.top)).int) + zi (PV.child (0 + 1 + 1) (v2.getD v4.toNat PV.top)).str.size)) (IntKind.i64.wrap (v4 + 1)) else none else none else bif decide (0 <= v4) && decide (v4 < zi v2.length) && (Wp v2 v4) && true then rc v0 v1 v2 (IntKind.i64.wrap (v3 + zi (PV.child (0 + 1 + 1) (v2.getD v4.toNat PV.top)).str.size)) (IntKind.i64.wrap (v4 + 1)) else none else none else k0 v3
def Zx (f : Nat) (k0 : Int -> OR) : Nat -> Bool -> Bool -> List PV -> Int -> Int -> OR
 | 0, _, _, _, _, _ => none
 | n + 1, v0, v1, v2, v3, v4 => Vt f (Zx f k0 n) k0 v0 v1 v2 v3 v4
def VT (k : Kont) := fun x0 => k (Ex.exit 0) (Ji Jiu Jtp [.sc (.int .i64 x0)] [])
def Jiv (f : Nat) (k : Kont) (n : Nat) (v0 v1 : Bool) (v2 : List PV) (v3 v4 : Int) : OR := Jy tau 0 Jbx (fun s k => ev tau JDj 0 0 Jit (Jm9 ) s k) n (Ji Jbx Jtp [.ro 113 v0 v1 v2, .sc (.int .i64 v3), .sc (.int .i64 v4)] []) (JG tau 0 Jiu k)
theorem Jtq (f : Nat) (k : Kont) (n : Nat) (v0 v1 : Bool) (v2 : List PV) (v3 v4 : Int) : Jiv f k (n + 1) v0 v1 v2 v3 v4 = Vt f (Jiv f k n) (VT k) v0 v1 v2 v3 v4 := by kernel_rfl
theorem Jkb (f : Nat) (k : Kont) : ∀ (n : Nat) (v0 v1 : Bool) (v2 : List PV) (v3 v4 : Int), Jiv f k n v0 v1 v2 v3 v4 = Zx f (VT k) n v0 v1 v2 v3 v4 | 0, _, _, _, _, _ => rfl | n + 1, v0, v1, v2, v3, v4 => (Jtq f k n v0 v1 v2 v3 v4).trans (congrArg (fun r => Vt f r (VT k) v0 v1 v2 v3 v4) (by funext v0 v1 v2 v3 v4; exact Jkb f k n v0 v1 v2 v3 v4))
def GU (f : Nat) : List PV -> List (Nat × Ent) -> Kont -> OR
 | [.ro 113 v0 v1 v2, .sc (.int .i64 v3),
 .sc (.int .i64 v4)], [], k => Zx f (VT k) f v0 v1 v2 v3 v4
 | _, _, _ => none
theorem Jw2 (f : Nat) : Jf Jit Jm9 = [] := by kernel_rfl
theorem Jw3 (f : Nat) : (Item.l Jit Jbx Jtp (GU f)).Ok tau Try.prog 0 := Ju Jn Jpo Jo (x := Jm9) (nm2 := Jiu) (Jk _ _ (by rw [Jw2 f]; intro q hq; cases hq)) fun vs hp k res hr => by
 unfold GU at hr
 split at hr
 · exact ⟨f, 0, (Jkb f _ f _ _ _ _ _ ).trans hr⟩
 · cases hr
def JJo (f : Nat) (o_z o_f : Bool) (o : List PV) (k : KR) : OR := Zx f (fun x0_0 => k (Res.mk (.sc (.int .i64 x0_0)) [] [])) f o_z o_f o (0) (0)
theorem JNN (f : Nat) (o_z o_f : Bool) (o : List PV) (k : KR) : JJ tau JDj Try.f103 (Try.f103.body.get!) (Jpp (GU f)) [.ro] 0 [.ro 113 o_z o_f o] [] k = JJo f o_z o_f o k := by kernel_rfl
theorem JJp (f : Nat) : Jf (Try.f103.body.get!) (Jpp (GU f)) = [.l Jit Jbx Jtp (GU f)] := by kernel_rfl
theorem JJq (f : Nat) : ∀ q ∈ Jf (Try.f103.body.get!) (Jpp (GU f)), q.Ok tau Try.prog 0 := by rw [JJp f]; exact JL (Jw3 f) (fun _ h => nomatch h)
theorem JzA : Try.prog.funcs[103]? = some Try.f103 := by kernel_rfl
theorem JzB : Try.f103.body = some (Try.f103.body.get!) := by kernel_rfl
theorem JJr : Enters Try.prog 103 := enters_of JzA (by kernel_rfl) JzB

-- FN law16.within
def okW : Int -> Bool := hid fun n => decide (0 < n) && decide (n < 1000000000000)
theorem GV (n : Int) : okW n = (decide (0 < n) && decide (n < 1000000000000)) := by rw [okW, hid_eq]
-- FN
def kpP (k : Int) : PV := .st 113 [.sc (.int .i64 1), .sc (.int .i64 k), .sc (.string (ByteArray.mk #[]))]
def ctP (k : Int) : PV := .st 113 [.sc (.int .i64 3), .sc (.int .i64 k), .sc (.string (ByteArray.mk #[]))]
def ptP (s : ByteArray) : PV := .st 113 [.sc (.int .i64 2), .sc (.int .i64 0), .sc (.string s)]
def abc : ByteArray := ByteArray.mk (Array.mk [97, 98, 99, 100, 101, 102, 103, 104, 105, 106])
def zed : ByteArray := ByteArray.mk (Array.mk [122])
def JfW (k : Int) : ByteArray := abc.extract 0 k.toNat
theorem JgH {k : Int} (h : 0 <= k) (h2 : k <= 10) : ((JfW k).size : Int) = k := by
 have : (JfW k).size = min k.toNat 10 - 0 := by simp [JfW, abc, ByteArray.size_extract]; rfl
 omega
def mkK (x n : Int) : Int := 1 + IntKind.i64.wrap (x.tdiv 7) % Qf n 9
def mkS (x : Int) : Int := 1 + IntKind.i64.wrap (x.tdiv 7) % 5
theorem Jpq {n : Int} (h : 0 < n) : 0 < Qf n 9 /\ Qf n 9 <= n /\ Qf n 9 <= 9 := by unfold Qf; split <;> omega
def mkE (c : Bool) (n out : Int) : List PV := (bif decide (n > 0) then [kpP n] else []) ++ (bif c && decide (out <= 115) then [ptP zed] else [])
def YS (c : Bool) : Nat -> Int -> Int -> List PV -> List PV
 | 0, n, out, _ => mkE c n out
 | _ + 1, n, out, [] => mkE c n out
 | b + 1, n, out, p :: ps =>
  bif decide (n > 0) then
   (bif p.int % 4 == 0 || p.int % 4 == 1 then kpP (mkK p.int n) :: YS c b (n - mkK p.int n) out ps
   else bif p.int % 4 == 2 then ctP (mkK p.int n) :: YS c b (n - mkK p.int n) (out - mkK p.int n) ps
   else bif decide (out + mkS p.int <= 120) then ptP (JfW (mkS p.int)) :: YS c b n (out + mkS p.int) ps
   else YS c b n out ps)
  else mkE c n out
def mkC (ns : List PV) : Bool := decide (ns.length > 0) && IntKind.i64.wrap ((ns.getD 0 .top).int.tdiv 3) % 3 == 0
structure MN where
 (n : Int) (ns : List PV)
def WG : MN -> List PV := hid fun x => YS (mkC x.ns) 12 x.n x.n x.ns
theorem Jkc (x : MN) : WG x = YS (mkC x.ns) 12 x.n x.n x.ns := by rw [WG, hid_eq]
def Jiw : Int -> List PV -> Bool := hid fun n ns => decide (0 <= n) && (decide (n <= 120) && (Jl .i64 ns && decide (ns.length <= 9223372036854775807)))
theorem Jkd {n : Int} {ns : List PV} : Jiw n ns = true ↔ 0 <= n /\ n <= 120 /\ Jl .i64 ns = true /\ ns.length <= 9223372036854775807 := by
 rw [Jiw, hid_eq]; simp only [Bool.and_eq_true, decide_eq_true_eq]
def inC (c : CV) : Int := bif c.kd == 2 then 0 else c.n
def QK (c : CV) : Int := bif c.kd == 1 then c.n else c.s.size
def inL : List PV -> Int
 | [] => 0
 | p :: ps => inC (cv p) + inL ps
def outL : List PV -> Int
 | [] => 0
 | p :: ps => QK (cv p) + outL ps
structure MkOk (n done b : Int) (l : List PV) : Prop where
 cp : ∀ p ∈ l, isCp p = true
 ck : ∀ p ∈ l, ckC (cv p) = 0
 sz : ∀ p ∈ l, (cv p).s.size <= 10
 len : (l.length : Int) <= b
 inn : inL l = n
 out : done + outL l <= 120
 out0 : 0 <= outL l
theorem Jby {n n' done done' b : Int} {p : PV} {l : List PV} (h : MkOk n' done' b l) (h1 : isCp p = true) (h2 : ckC (cv p) = 0) (h3 : (cv p).s.size <= 10) (h4 : inC (cv p) + n' = n) (h5 : done + QK (cv p) = done') (h6 : 0 <= QK (cv p)) : MkOk n done (b + 1) (p :: l) where
 cp := fun q hq => (List.mem_cons.1 hq).elim (fun e => e ▸ h1) (fun m => h.cp q m)
 ck := fun q hq => (List.mem_cons.1 hq).elim (fun e => e ▸ h2) (fun m => h.ck q m)
 sz := fun q hq => (List.mem_cons.1 hq).elim (fun e => e ▸ h3) (fun m => h.sz q m)
 len := by have := h.len; simp only [List.length_cons]; omega
 inn := by have := h.inn; simp only [inL]; omega
 out := by have := h.out; simp only [outL]; omega
 out0 := by have := h.out0; simp only [outL]; omega
theorem ZG {n done b b' : Int} {l : List PV} (h : MkOk n done b l) (hb : b <= b') : MkOk n done b' l := { h with len := by have := h.len; omega }
theorem Jix {done : Int} (h : done <= 120) : MkOk 0 done 0 [] where
 cp := fun q hq => by cases hq
 ck := fun q hq => by cases hq
 sz := fun q hq => by cases hq
 len := by simp
 inn := rfl
 out := by simp only [outL]; omega
 out0 := by simp [outL]
theorem JzC {k : Int} (h : 1 <= k) (h2 : k <= 120) : ckC (cv (kpP k)) = 0 := by
 have e : cv (kpP k) = ⟨1, k, ByteArray.mk #[]⟩ := rfl
 rw [e, Jce]; unfold JjE
 have hs : (ByteArray.mk #[]).size = 0 := rfl
 simp only [hs]
 rw [show (decide (k < 1)) = false from decide_eq_false (by omega), show (decide (k > 120)) = false from decide_eq_false (by omega)]; rfl
theorem JJs {k : Int} (h : 1 <= k) (h2 : k <= 120) : ckC (cv (ctP k)) = 0 := by
 have e : cv (ctP k) = ⟨3, k, ByteArray.mk #[]⟩ := rfl
 rw [e, Jce]; unfold JjE
 have hs : (ByteArray.mk #[]).size = 0 := rfl
 simp only [hs]
 rw [show (decide (k < 1)) = false from decide_eq_false (by omega), show (decide (k > 120)) = false from decide_eq_false (by omega)]; rfl
theorem JzD {s : ByteArray} (h : 1 <= s.size) (h2 : s.size <= 120) : ckC (cv (ptP s)) = 0 := by
 have e : cv (ptP s) = ⟨2, 0, s⟩ := rfl
 rw [e, Jce]; unfold JjE
 rw [show (s.size == 0) = false from beq_false_of_ne (by omega)]
 refine (Jd rfl).trans ((Ja rfl).trans ((Jd rfl).trans (Jd (decide_eq_false (by show ¬ ((s.size : Int) > 120); omega)))))
theorem Jna (c : Bool) {n out : Int} (h : 0 <= n) (h2 : n <= out) (h3 : out <= 120) : MkOk n (out - n) 2 (mkE c n out) := by
 have hz : ∀ {d : Int}, d + 1 <= 120 -> MkOk 0 d 1 [ptP zed] := fun {d} hd =>
  Jby (n' := 0) (done' := d + 1) (Jix hd) rfl (JzD (by decide) (by decide)) (by show zed.size <= 10; decide) rfl rfl (by decide)
 unfold mkE
 cases hn : decide (n > 0) with
 | true =>
  have hn := of_decide_eq_true hn
  rw [cond_true, List.singleton_append]
  have e : ∀ {b : Int} {l : List PV}, MkOk 0 out b l -> MkOk n (out - n) (b + 1) (kpP n :: l) := fun hl =>
   Jby hl rfl (JzC (by omega) (by omega)) (by show (0 : Nat) <= 10; omega) (by show n + 0 = n; omega) (by show out - n + n = out; omega) (by show 0 <= n; omega)
  cases hc : (c && decide (out <= 115)) with
  | true => simp only [Bool.and_eq_true, decide_eq_true_eq] at hc; rw [cond_true]; exact e (hz (by omega))
  | false => rw [cond_false]; exact ZG (e (Jix h3)) (by omega)
 | false =>
  have hn := of_decide_eq_false hn
  have : n = 0 := by omega
  subst this
  rw [cond_false, List.nil_append, Int.sub_zero]
  cases hc : (c && decide (out <= 115)) with
  | true => simp only [Bool.and_eq_true, decide_eq_true_eq] at hc; rw [cond_true]; exact ZG (hz (by omega)) (by omega)
  | false => rw [cond_false]; exact ZG (Jix h3) (by omega)
theorem Jtr {x n : Int} (h : 0 < n) : 1 <= mkK x n /\ mkK x n <= n /\ mkK x n <= 9 := by
 obtain ⟨m1, m2, m3⟩ := Jpq h
 have h1 := Int.emod_nonneg (IntKind.i64.wrap (x.tdiv 7)) (show Qf n 9 ≠ 0 by omega)
 have h2 := Int.emod_lt_of_pos (IntKind.i64.wrap (x.tdiv 7)) m1
 unfold mkK; omega
theorem Jts (x : Int) : 1 <= mkS x /\ mkS x <= 5 := by
 have h1 := Int.emod_nonneg (IntKind.i64.wrap (x.tdiv 7)) (show (5 : Int) ≠ 0 by omega)
 have h2 := Int.emod_lt_of_pos (IntKind.i64.wrap (x.tdiv 7)) (show (0 : Int) < 5 by omega)
 unfold mkS; omega
theorem Jbz (c : Bool) : ∀ (b : Nat) (n out : Int) (ns : List PV), 0 <= n -> n <= out -> out <= 120 -> MkOk n (out - n) (b + 2) (YS c b n out ns)
 | 0, n, out, _, h, h2, h3 => ZG (Jna c h h2 h3) (by omega)
 | b + 1, n, out, [], h, h2, h3 => ZG (Jna c h h2 h3) (by omega)
 | b + 1, n, out, p :: ps, h, h2, h3 => by
  simp only [YS]
  cases hn : decide (n > 0) with
  | false => rw [cond_false]; exact ZG (Jna c h h2 h3) (by omega)
  | true =>
   have hn := of_decide_eq_true hn
   obtain ⟨k1, k2, k3⟩ := Jtr (x := p.int) hn
   obtain ⟨s1, s2⟩ := Jts p.int
   rw [cond_true]
   cases hc : (p.int % 4 == 0 || p.int % 4 == 1) with
   | true =>
    rw [cond_true]
    refine ZG (Jby (Jbz c b (n - mkK p.int n) out ps (by omega) (by omega) h3) rfl (JzC k1 (by omega)) (by show (0 : Nat) <= 10; omega) (by show mkK p.int n + _ = _; omega) (by show out - n + mkK p.int n = _; omega) (by show 0 <= mkK p.int n; omega)) (by omega)
   | false =>
    rw [cond_false]
    cases hc2 : (p.int % 4 == 2) with
    | true =>
     rw [cond_true]
     refine ZG (Jby (Jbz c b (n - mkK p.int n) (out - mkK p.int n) ps (by omega) (by omega) (by omega)) rfl (JJs k1 (by omega)) (by show (0 : Nat) <= 10; omega) (by show mkK p.int n + _ = _; omega) (by show out - n + (0 : Int) = _; omega) (by show 0 <= (0 : Int); omega)) (by omega)
    | false =>
     rw [cond_false]
     cases hc3 : decide (out + mkS p.int <= 120) with
     | false => rw [cond_false]; exact ZG (Jbz c b n out ps h h2 h3) (by omega)
     | true =>
      have hc3 := of_decide_eq_true hc3
      have hz := JgH (k := mkS p.int) (by omega) (by omega)
      rw [cond_true]
      refine ZG (Jby (Jbz c b n (out + mkS p.int) ps (by omega) (by omega) hc3) rfl (JzD (by omega) (by omega)) (by show (JfW (mkS p.int)).size <= 10; omega) (by show (0 : Int) + n = n; omega) (by show out - n + ((JfW (mkS p.int)).size : Int) = _; omega) (by show 0 <= ((JfW (mkS p.int)).size : Int); omega)) (by omega)
theorem Jtt {n : Int} (ns : List PV) (h : 0 <= n) (h2 : n <= 120) : MkOk n 0 14 (WG ⟨n, ns⟩) := by
 rw [Jkc]
 have := Jbz (mkC ns) 12 n n ns h (by omega) h2
 rwa [Int.sub_self] at this
theorem Jtu : ∀ {l : List PV}, (∀ p ∈ l, ckC (cv p) = 0) -> ckL l = 0
 | [], _ => rfl
 | p :: r, h => by
  simp only [ckL]
  rw [h p List.mem_cons_self]
  exact Jtu fun q hq => h q (List.mem_cons_of_mem _ hq)
theorem Jtv {n d : Int} {l : List PV} (h : MkOk n d 14 l) : cBy l = true := by
 have := h.len
 exact Jdt.2 ⟨List.all_eq_true.2 h.cp, fun p hp => by have := h.sz p hp; omega, by omega⟩
theorem Jtw {n d : Int} {l : List PV} (h : MkOk n d 14 l) : (opB l).length <= 400 := by
 have h1 := JeI 10 l h.sz
 have h2 := h.len
 rw [Jmf, Jsz, List.length_append]
 simp only [List.length_cons, List.length_nil]; omega
-- FN ref4.In | ref4.Out
theorem Xn {c : CV} (h : ckC c = 0) : (c.kd = 1 ∨ c.kd = 3) /\ 1 <= c.n /\ c.n <= 120 /\ c.s.size = 0 ∨ c.kd = 2 /\ c.n = 0 /\ 1 <= c.s.size /\ c.s.size <= 120 := by
 rw [Jce] at h
 unfold JjE at h
 cases h1 : (c.kd == 1 || c.kd == 3) with
 | true =>
  rw [h1, cond_true] at h
  cases h2 : (decide (c.n < 1) || (decide (c.n > 120) || !(c.s.size == 0))) with
  | true => rw [h2, cond_true] at h; exact absurd h (by decide)
  | false =>
   simp only [Bool.or_eq_false_iff, decide_eq_false_iff_not, Bool.not_eq_false', beq_iff_eq] at h2
   simp only [Bool.or_eq_true, beq_iff_eq] at h1
   exact .inl ⟨h1, by omega, by omega, h2.2.2⟩
 | false =>
  rw [h1, cond_false] at h
  cases h3 : (c.kd == 2) with
  | false => rw [h3, cond_false] at h; exact absurd h (by decide)
  | true =>
   rw [h3, cond_true] at h
   cases h2 : (!(c.n == 0) || c.s.size == 0) with
   | true => rw [h2, cond_true] at h; exact absurd h (by decide)
   | false =>
    rw [h2, cond_false] at h
    cases h4 : decide (zi c.s.size > 120) with
    | true => rw [h4, cond_true] at h; exact absurd h (by decide)
    | false =>
     simp only [Bool.or_eq_false_iff, Bool.not_eq_false', beq_iff_eq, beq_eq_false_iff_ne] at h2
     simp only [zi, decide_eq_false_iff_not] at h4
     simp only [beq_iff_eq] at h3
     exact .inr ⟨h3, h2.1, by omega, by omega⟩
def aOk : List PV -> Bool := hid fun l => cOk l && ckO l == 0
theorem JgI : ∀ {l : List PV}, ckL l = 0 -> ∀ p ∈ l, ckC (cv p) = 0
 | [], _, p, hp => by cases hp
 | q :: r, h, p, hp => by
  simp only [ckL] at h
  cases hq : (ckC (cv q) == 0) with
  | false => rw [hq, cond_false] at h; rw [h] at hq; exact absurd hq (by decide)
  | true =>
   rw [hq, cond_true] at h
   rcases List.mem_cons.1 hp with rfl | hp
   · simpa using hq
   · exact JgI h p hp
theorem Q2 {l : List PV} : aOk l = true ↔ l.all isCp = true /\ l.length <= 40 /\ ∀ p ∈ l, ckC (cv p) = 0 := by
 rw [aOk, hid_eq, Bool.and_eq_true, beq_iff_eq, Yf]
 constructor
 · rintro ⟨⟨h1, h2⟩, h3⟩
   rw [Jho] at h3
   unfold Jqt at h3
   cases hc : decide (zi l.length > 40) with
   | true => rw [hc, cond_true] at h3; exact absurd h3 (by decide)
   | false =>
    rw [hc, cond_false] at h3
    simp only [zi, decide_eq_false_iff_not] at hc
    exact ⟨h1, by omega, JgI h3⟩
 · rintro ⟨h1, h2, h3⟩
   refine ⟨⟨h1, by omega⟩, ?_⟩
   rw [Jho]; unfold Jqt
   exact (Jd (decide_eq_false (by simp only [zi]; omega))).trans (Jtu h3)
theorem Jnb {l : List PV} (h : cOk l = true) (h2 : ckO l = 0) : aOk l = true := by rw [aOk, hid_eq, h, h2]; rfl
theorem YT {l : List PV} (h : aOk l = true) {i : Nat} (hi : i < l.length) : isCp (l.getD i .top) = true /\ ckC (cv (l.getD i .top)) = 0 := by
 obtain ⟨h1, _, h3⟩ := Q2.1 h
 refine ⟨WS h1 hi, ?_⟩
 rw [List.getD_eq_getElem?_getD, List.getElem?_eq_getElem hi]
 exact h3 _ (List.getElem_mem hi)
def GW (p : PV) : Bool := PV.isSt 113 #[Field.mk "Kind" 3 0 false "" "" 0, Field.mk "N" 3 1 false "" "" 8, Field.mk "S" 9 2 false "" "" 16].size p && (PV.isInt IntKind.i64 (PV.child 0 p) && (PV.isInt IntKind.i64 (PV.child (0 + 1) p) && ((PV.child (0 + 1 + 1) p).isStr && true)))
theorem Jke {l : List PV} (h : l.all isCp = true) {i : Nat} (hi : i < l.length) : (decide (0 <= (i : Int)) && decide ((i : Int) < zi l.length) && GW (l.getD i .top) && true) = true := by
 have hq : GW (l.getD i .top) = true := XI (WS h hi)
 rw [hq]; simp [zi]; omega
def inO : List PV -> Int := hid inL
def Jw4 : List PV -> Int := hid outL
theorem Jtx (l : List PV) : inO l = inL l := by rw [inO, hid_eq]
theorem Jpr (l : List PV) : Jw4 l = outL l := by rw [Jw4, hid_eq]
theorem Jfg {c : CV} (h : ckC c = 0) : 0 <= inC c /\ inC c <= 120 := by
 unfold inC
 rcases Xn h with ⟨h1, h2, h3, h4⟩ | ⟨h1, h2, h3, h4⟩
 · rw [show (c.kd == 2) = false from beq_false_of_ne (by omega), cond_false]; omega
 · rw [h1]; show 0 <= (0 : Int) /\ (0 : Int) <= 120; decide
theorem JbA {c : CV} (h : ckC c = 0) : 0 <= QK c /\ QK c <= 120 := by
 unfold QK
 rcases Xn h with ⟨h1, h2, h3, h4⟩ | ⟨h1, h2, h3, h4⟩
 · cases hc : (c.kd == 1) with
   | true => rw [cond_true]; omega
   | false => rw [cond_false]; omega
 · rw [h1]; show 0 <= (c.s.size : Int) /\ (c.s.size : Int) <= 120; omega
theorem Jnc (l : List PV) (ha : aOk l = true) (f : Nat) (k0 : Int -> OR) (z fl : Bool) : ∀ (d i n : Nat) (s : Int), i + d = l.length -> d < n -> 0 <= s -> s <= 120 * i ->
  Zw f k0 n z fl l s (i : Int) = k0 (s + inL (l.drop i))
 | 0, i, n + 1, s, hi, hn, h3, h4 => by
   rw [List.drop_of_length_le (by omega)]
   simp only [Zw, Vs, Yo, inL, Int.add_zero]
   exact Jd (by simp [zi]; omega)
 | d + 1, i, n + 1, s, hi, hn, h3, h4 => by
   obtain ⟨h1, hl, _⟩ := Q2.1 ha
   have g1 : ((i : Int)).toNat = i := by omega
   have w1 : IntKind.i64.wrap ((i : Int) + 1) = ((i + 1 : Nat) : Int) := by rw [wrap_i64 (by omega) (by omega)]; omega
   have hc := Jke h1 (i := i) (by omega)
   unfold GW at hc
   have hk := (YT ha (i := i) (by omega)).2
   rw [JW (by omega)]
   simp only [Zw, Vs, Yo, g1, w1]
   refine (Ja (by simp [zi]; omega)).trans ((Ja hc).trans ?_)
   generalize l.getD i .top = p at *
   have i1 := Jfg hk
   have e1 : (PV.child 0 p).int = (cv p).kd := rfl
   have e2 : (PV.child (0 + 1) p).int = (cv p).n := rfl
   rw [e1, e2, inL, ← Int.add_assoc]
   cases hq : ((cv p).kd != 2) with
   | true =>
    have hz : inC (cv p) = (cv p).n := by unfold inC; rw [show ((cv p).kd == 2) = false from by simpa [bne] using hq]; rfl
    refine (Ja rfl).trans ((Ja hc).trans ?_)
    rw [← hz, wrap_i64 (by omega) (by omega)]
    exact Jnc l ha f k0 z fl d (i + 1) n _ (by omega) (by omega) (by omega) (by omega)
   | false =>
    have hz : inC (cv p) = 0 := by unfold inC; rw [show ((cv p).kd == 2) = true from by simpa [bne] using hq]; rfl
    rw [hz, Int.add_zero]
    exact (Jd rfl).trans (Jnc l ha f k0 z fl d (i + 1) n s (by omega) (by omega) h3 (by omega))
theorem Jnd (l : List PV) (ha : aOk l = true) (f : Nat) (k0 : Int -> OR) (z fl : Bool) : ∀ (d i n : Nat) (s : Int), i + d = l.length -> d < n -> 0 <= s -> s <= 120 * i ->
  Zx f k0 n z fl l s (i : Int) = k0 (s + outL (l.drop i))
 | 0, i, n + 1, s, hi, hn, h3, h4 => by
   rw [List.drop_of_length_le (by omega)]
   simp only [Zx, Vt, Wp, outL, Int.add_zero]
   exact Jd (by simp [zi]; omega)
 | d + 1, i, n + 1, s, hi, hn, h3, h4 => by
   obtain ⟨h1, hl, _⟩ := Q2.1 ha
   have g1 : ((i : Int)).toNat = i := by omega
   have w1 : IntKind.i64.wrap ((i : Int) + 1) = ((i + 1 : Nat) : Int) := by rw [wrap_i64 (by omega) (by omega)]; omega
   have hc := Jke h1 (i := i) (by omega)
   unfold GW at hc
   have hk := (YT ha (i := i) (by omega)).2
   rw [JW (by omega)]
   simp only [Zx, Vt, Wp, g1, w1]
   refine (Ja (by simp [zi]; omega)).trans ((Ja hc).trans ?_)
   generalize l.getD i .top = p at *
   have i1 := JbA hk
   have e1 : (PV.child 0 p).int = (cv p).kd := rfl
   have e2 : (PV.child (0 + 1) p).int = (cv p).n := rfl
   have e3 : (PV.child (0 + 1 + 1) p).str = (cv p).s := rfl
   rw [e1, e2, e3, outL, ← Int.add_assoc]
   have hf := Xn hk
   cases hq : ((cv p).kd == 1) with
   | true =>
    have hz : QK (cv p) = (cv p).n := by unfold QK; rw [hq]; rfl
    have hq' : (cv p).kd = 1 := by simpa using hq
    have hs : zi (cv p).s.size = 0 := by show ((cv p).s.size : Int) = 0; omega
    refine (Ja rfl).trans ((Ja hc).trans ((Ja hc).trans ?_))
    rw [hs, ← hz, Int.add_zero, wrap_i64 (x := s + QK (cv p)) (by omega) (by omega), wrap_i64 (by omega) (by omega)]
    exact Jnd l ha f k0 z fl d (i + 1) n _ (by omega) (by omega) (by omega) (by omega)
   | false =>
    have hz : QK (cv p) = zi (cv p).s.size := by unfold QK; rw [hq]; rfl
    refine (Jd rfl).trans ((Ja hc).trans ?_)
    rw [← hz, wrap_i64 (by omega) (by omega)]
    exact Jnd l ha f k0 z fl d (i + 1) n _ (by omega) (by omega) (by omega) (by omega)
def Jiy : Jz
 | [.ro 113 z f o], [], k => bif aOk o then k ⟨.sc (.int .i64 (inO o)), [], []⟩ else none
 | _, _, _ => none
def JzE : Sig := { own := [], run := Jiy }
theorem JDk : Jc tau Try.prog 102 JzE := Jc.mk' fun xs es k res hl hr => by
 change Jiy xs es k = some res at hr
 unfold Jiy at hr
 split at hr
 · rename_i z f o
   obtain ⟨hc, hr⟩ := Jv hr
   have hl2 := (Q2.1 hc).2.1
   refine J2 Jn Jpm Jo Jzy Jzz (Jpn (GT 50)) [.ro] 0 0 (JJm 50) hl rfl ((JNM 50 z f o k).trans (Eq.trans ?_ hr))
   unfold JJk
   refine (Jnc o hc 50 _ z f o.length 0 50 0 (by omega) (by omega) (by omega) (by omega)).trans ?_
   rw [List.drop_zero, Int.zero_add, Jtx]
 · cases hr
def Jiz : Jz
 | [.ro 113 z f o], [], k => bif aOk o then k ⟨.sc (.int .i64 (Jw4 o)), [], []⟩ else none
 | _, _, _ => none
def JzF : Sig := { own := [], run := Jiz }
theorem JDl : Jc tau Try.prog 103 JzF := Jc.mk' fun xs es k res hl hr => by
 change Jiz xs es k = some res at hr
 unfold Jiz at hr
 split at hr
 · rename_i z f o
   obtain ⟨hc, hr⟩ := Jv hr
   have hl2 := (Q2.1 hc).2.1
   refine J2 Jn Jpo Jo JzA JzB (Jpp (GU 50)) [.ro] 0 0 (JJq 50) hl rfl ((JNN 50 z f o k).trans (Eq.trans ?_ hr))
   unfold JJo
   refine (Jnd o hc 50 _ z f o.length 0 50 0 (by omega) (by omega) (by omega) (by omega)).trans ?_
   rw [List.drop_zero, Int.zero_add, Jpr]
 · cases hr
def N60 : Nat := 66
def F60 : Fns := Jt 103 JzF (Jt 102 JzE (F0))
theorem Jty : Jq tau Try.prog F60 := ((Js).add JDk JJn).add JDl JJr
def Jps : Code := Qd (Try.f60.body.get!) [1, 1, 1, 1, 1, 0, 1, 0, 0]
def Jfh : Nm := [(0, .any), (1, .any), (6, .any), (7, .any), (8, .any)]
def Jne : Nm := [(6, .any)]
def Jtz : An := (.seq (.seq .leaf (.cond .leaf .leaf)) (.seq (.block none (.seq .leaf (.block none (.seq .leaf (.cond (.seq .leaf .leaf) (.seq .leaf (.cond .leaf .leaf))))))) .leaf))
def Jw5 (r0 : Qr) : An := (.seq .leaf (.seq (.seq .leaf (.cond (.seq .leaf .leaf) .leaf)) (.seq (.seq .leaf (.cond (.seq .leaf .leaf) .leaf)) (.seq .leaf (.seq .leaf (.seq (.seq .leaf (.block none (.sum Jfh N60 r0))) (.seq .leaf .leaf)))))))
abbrev Wd (v3 : List PV) (v6 : Int) := (PV.isSt 113 #[Field.mk "Kind" 3 0 false "" "" 0, Field.mk "N" 3 1 false "" "" 8, Field.mk "S" 9 2 false "" "" 16].size (v3.getD v6.toNat PV.top) && (PV.isInt IntKind.i64 (PV.child 0 (v3.getD v6.toNat PV.top)) && (PV.isInt IntKind.i64 (PV.child (0 + 1) (v3.getD v6.toNat PV.top)) && ((PV.child (0 + 1 + 1) (v3.getD v6.toNat PV.top)).isStr && true))))
abbrev QW (v3 : List PV) (v5 : Int) (v6 : Int) := (IntKind.i64.wrap (v5 + (PV.child (0 + 1) (v3.getD v6.toNat PV.top)).int))
def JbB (f : Nat) (rc : ByteArray -> Bool -> Bool -> List PV -> ByteArray -> Int -> Int -> OR) (k0 : ByteArray -> OR) (v0 : ByteArray) (v1 v2 : Bool) (v3 : List PV) (v4 : ByteArray) (v5 v6 : Int) : OR := bif decide (v6 < zi v3.length) then bif decide (0 <= v6) && decide (v6 < zi v3.length) && (Wd v3 v6) && true then bif (PV.child 0 (v3.getD v6.toNat PV.top)).int == 1 then bif decide (0 <= v6) && decide (v6 < zi v3.length) && (Wd v3 v6) && true then bif decide (0 <= v5) && decide (0 <= IntKind.i64.wrap (v5 + (PV.child (0 + 1) (v3.getD v6.toNat PV.top)).int)) && decide (v5.toNat <= (QW v3 v5 v6).toNat) && decide ((QW v3 v5 v6).toNat <= v0.size) && true then bif decide (v4.size + (v0.extract v5.toNat (QW v3 v5 v6).toNat).size <= 9223372036854775807) && true then bif decide (0 <= v6) && decide (v6 < zi v3.length) && (Wd v3 v6) && true then rc v0 v1 v2 v3 (v4 ++ v0.extract v5.toNat (QW v3 v5 v6).toNat) (QW v3 v5 v6) (IntKind.i64.wrap (v6 + 1)) else none else none else none else none else bif (PV.child 0 (v3.getD v6.toNat PV.top)).int == 2 then bif decide (0 <= v6) && decide (v6 < zi v3.length) && (Wd v3 v6) && true then bif decide (v4.size + (PV.child (0 + 1 + 1) (v3.getD v6.toNat PV.top)).str.size <= 9223372036854775807) && true then rc v0 v1 v2 v3 (v4 ++ (PV.child (0 + 1 + 1) (v3.getD v6.toNat PV.top)).str) v5 (IntKind.i64.wrap (v6 + 1)) else none else none else bif decide (0 <= v6) && decide (v6 < zi v3.length) && (Wd v3 v6) && true then rc v0 v1 v2 v3 v4 (QW v3 v5 v6) (IntKind.i64.wrap (v6 + 1)) else none else none else k0 v4
def GX (f : Nat) (k0 : ByteArray -> OR) : Nat -> ByteArray -> Bool -> Bool -> List PV -> ByteArray -> Int -> Int -> OR
 | 0, _, _, _, _, _, _, _ => none
 | n + 1, v0, v1, v2, v3, v4, v5, v6 => JbB f (GX f k0 n) k0 v0 v1 v2 v3 v4 v5 v6
def JbC (k : Kont) := fun x0 => k (Ex.exit 0) (Ji Jne N60 [.sc (.string x0)] [])
def Jnf (f : Nat) (k : Kont) (n : Nat) (v0 : ByteArray) (v1 v2 : Bool) (v3 : List PV) (v4 : ByteArray) (v5 v6 : Int) : OR := Jy tau 0 Jfh (fun s k => ev tau F60 0 0 Jps (Jtz ) s k) n (Ji Jfh N60 [.sc (.string v0), .ro 113 v1 v2 v3, .sc (.string v4), .sc (.int .i64 v5), .sc (.int .i64 v6)] []) (JG tau 0 Jne k)
theorem Jw6 (f : Nat) (k : Kont) (n : Nat) (v0 : ByteArray) (v1 v2 : Bool) (v3 : List PV) (v4 : ByteArray) (v5 v6 : Int) : Jnf f k (n + 1) v0 v1 v2 v3 v4 v5 v6 = JbB f (Jnf f k n) (JbC k) v0 v1 v2 v3 v4 v5 v6 := by kernel_rfl
theorem Jpt (f : Nat) (k : Kont) : ∀ (n : Nat) (v0 : ByteArray) (v1 v2 : Bool) (v3 : List PV) (v4 : ByteArray) (v5 v6 : Int), Jnf f k n v0 v1 v2 v3 v4 v5 v6 = GX f (JbC k) n v0 v1 v2 v3 v4 v5 v6 | 0, _, _, _, _, _, _, _ => rfl | n + 1, v0, v1, v2, v3, v4, v5, v6 => (Jw6 f k n v0 v1 v2 v3 v4 v5 v6).trans (congrArg (fun r => JbB f r (JbC k) v0 v1 v2 v3 v4 v5 v6) (by funext v0 v1 v2 v3 v4 v5 v6; exact Jpt f k n v0 v1 v2 v3 v4 v5 v6))
def Jfi (f : Nat) : List PV -> List (Nat × Ent) -> Kont -> OR
 | [.sc (.string v0), .ro 113 v1 v2 v3, .sc (.string v4), .sc (.int .i64 v5),
 .sc (.int .i64 v6)], [], k => GX f (JbC k) f v0 v1 v2 v3 v4 v5 v6
 | _, _, _ => none
theorem JDm (f : Nat) : Jf Jps Jtz = [] := by kernel_rfl
theorem JDn (f : Nat) : (Item.l Jps Jfh N60 (Jfi f)).Ok tau Try.prog 0 := Ju Jn Jty Jo (x := Jtz) (nm2 := Jne) (Jk _ _ (by rw [JDm f]; intro q hq; cases hq)) fun vs hp k res hr => by
 unfold Jfi at hr
 split at hr
 · exact ⟨f, 0, (Jpt f _ f _ _ _ _ _ _ _ ).trans hr⟩
 · cases hr
def g60 (f : Nat) (doc : ByteArray) (o_z o_f : Bool) (o : List PV) (k : KR) : OR := bif aOk o then bif inO o != zi doc.size then k (Res.mk (.tup [.sc (.string (ByteArray.mk (Array.mk []))), .sc (.int .i64 7)]) [] []) else bif aOk o then bif decide (Jw4 o > 120) then k (Res.mk (.tup [.sc (.string (ByteArray.mk (Array.mk []))), .sc (.int .i64 5)]) [] []) else GX f (fun x0_0 => k (Res.mk (.tup [.sc (.string x0_0), .sc (.int .i64 0)]) [] [])) f doc o_z o_f o (ByteArray.mk (Array.mk [])) (0) (0) else none else none
theorem e60 (f : Nat) (doc : ByteArray) (o_z o_f : Bool) (o : List PV) (k : KR) : JJ tau F60 Try.f60 (Try.f60.body.get!) (Jw5 (Jfi f)) [.ro, .ro] 0 [.sc (.string doc), .ro 113 o_z o_f o] [] k = g60 f doc o_z o_f o k := by kernel_rfl
theorem JNO (f : Nat) : Jf (Try.f60.body.get!) (Jw5 (Jfi f)) = [.l Jps Jfh N60 (Jfi f)] := by kernel_rfl
theorem JNP (f : Nat) : ∀ q ∈ Jf (Try.f60.body.get!) (Jw5 (Jfi f)), q.Ok tau Try.prog 0 := by rw [JNO f]; exact JL (JDn f) (fun _ h => nomatch h)
theorem JJt : Try.prog.funcs[60]? = some Try.f60 := by kernel_rfl
theorem JJu : Try.f60.body = some (Try.f60.body.get!) := by kernel_rfl
theorem JNQ : Enters Try.prog 60 := enters_of JJt (by kernel_rfl) JJu
-- FN ref4.Apply
structure AP where
 (doc : ByteArray) (o : List PV)
def apl : List PV -> ByteArray -> Nat -> ByteArray -> ByteArray
 | [], _, _, out => out
 | p :: ps, doc, at1, out =>
  bif (cv p).kd == 1 then apl ps doc (at1 + (cv p).n.toNat) (out ++ doc.extract at1 (at1 + (cv p).n.toNat))
  else bif (cv p).kd == 2 then apl ps doc at1 (out ++ (cv p).s)
  else apl ps doc (at1 + (cv p).n.toNat) out
def Jkf (x : AP) : Int := bif inL x.o != zi x.doc.size then 7 else bif decide (outL x.o > 120) then 5 else 0
def apE : AP -> Int := hid Jkf
def apD : AP -> ByteArray := hid fun x => bif Jkf x == 0 then apl x.o x.doc 0 (ByteArray.mk (Array.mk [])) else ByteArray.mk (Array.mk [])
theorem JtA (x : AP) : apE x = Jkf x := by rw [apE, hid_eq]
theorem Jng (x : AP) : apD x = bif Jkf x == 0 then apl x.o x.doc 0 (ByteArray.mk (Array.mk [])) else ByteArray.mk (Array.mk []) := by rw [apD, hid_eq]
theorem Yp (a b : ByteArray) : (a ++ b).size = a.size + b.size := ByteArray.size_append
theorem Jc9 (a : ByteArray) (i j : Nat) (h : i <= j) (h2 : j <= a.size) : (a.extract i j).size = j - i := by rw [ByteArray.size_extract]; omega
theorem X4 : ∀ {l : List PV}, (∀ p ∈ l, ckC (cv p) = 0) -> 0 <= inL l
 | [], _ => by simp [inL]
 | p :: l, h => by
  have h1 := (Jfg (h p List.mem_cons_self)).1
  have h2 := X4 fun q hq => h q (List.mem_cons_of_mem _ hq)
  simp only [inL]; omega
theorem Yq : ∀ {l : List PV}, (∀ p ∈ l, ckC (cv p) = 0) -> 0 <= outL l
 | [], _ => by simp [outL]
 | p :: l, h => by
  have h1 := (JbA (h p List.mem_cons_self)).1
  have h2 := Yq fun q hq => h q (List.mem_cons_of_mem _ hq)
  simp only [outL]; omega
theorem JbD : ∀ {l : List PV} {doc : ByteArray} {at1 : Nat} {out : ByteArray}, (∀ p ∈ l, ckC (cv p) = 0) -> (at1 : Int) + inL l <= doc.size -> ((apl l doc at1 out).size : Int) = out.size + outL l
 | [], _, _, _, _, _ => by simp [apl, outL]
 | p :: l, doc, at1, out, h, hi => by
  have hk := h p List.mem_cons_self
  have h' : ∀ q ∈ l, ckC (cv q) = 0 := fun q hq => h q (List.mem_cons_of_mem _ hq)
  have hn := X4 h'
  simp only [apl, inL, outL] at hi ⊢
  rcases Xn hk with ⟨h1, h2, h3, h4⟩ | ⟨h1, h2, h3, h4⟩
  · rcases h1 with h1 | h1
    · have e1 : inC (cv p) = (cv p).n := by unfold inC; rw [h1]; rfl
      have e2 : QK (cv p) = (cv p).n := by unfold QK; rw [h1]; rfl
      rw [h1]
      refine (congrArg (fun b : ByteArray => (b.size : Int)) (Ja rfl)).trans ?_
      rw [JbD h' (by omega), Yp, Jc9 _ _ _ (by omega) (by omega)]; omega
    · have e1 : inC (cv p) = (cv p).n := by unfold inC; rw [h1]; rfl
      have e2 : QK (cv p) = (cv p).s.size := by unfold QK; rw [h1]; rfl
      rw [h1]
      refine (congrArg (fun b : ByteArray => (b.size : Int)) ((Jd rfl).trans (Jd rfl))).trans ?_
      rw [JbD h' (by omega)]; omega
  · have e1 : inC (cv p) = 0 := by unfold inC; rw [h1]; rfl
    have e2 : QK (cv p) = (cv p).s.size := by unfold QK; rw [h1]; rfl
    rw [h1]
    refine (congrArg (fun b : ByteArray => (b.size : Int)) ((Jd rfl).trans (Ja rfl))).trans ?_
    rw [JbD h' (by omega), Yp]; omega
theorem Jpu (l : List PV) (ha : aOk l = true) (doc : ByteArray) (hd : doc.size <= 10000) (f : Nat) (k0 : ByteArray -> OR) (z fl : Bool) : ∀ (d i n : Nat) (out : ByteArray) (at1 : Nat), i + d = l.length -> d < n -> (at1 : Int) + inL (l.drop i) <= doc.size -> (out.size : Int) + outL (l.drop i) <= 120 ->
  GX f k0 n doc z fl l out (at1 : Int) (i : Int) = k0 (apl (l.drop i) doc at1 out)
 | 0, i, n + 1, out, at1, hi, hn, h3, h4 => by
   rw [List.drop_of_length_le (by omega)]
   simp only [GX, JbB, QW, Wd, apl]
   exact Jd (by simp [zi]; omega)
 | d + 1, i, n + 1, out, at1, hi, hn, h3, h4 => by
   obtain ⟨h1, hl, hck⟩ := Q2.1 ha
   have g1 : ((i : Int)).toNat = i := by omega
   have g2 : ((at1 : Int)).toNat = at1 := by omega
   have w1 : IntKind.i64.wrap ((i : Int) + 1) = ((i + 1 : Nat) : Int) := by rw [wrap_i64 (by omega) (by omega)]; omega
   have hc := Jke h1 (i := i) (by omega)
   unfold GW at hc
   have hk := (YT ha (i := i) (by omega)).2
   have hck' : ∀ q ∈ l.drop (i + 1), ckC (cv q) = 0 := fun q hq => hck q (List.mem_of_mem_drop hq)
   have hin := X4 hck'
   have hon := Yq hck'
   rw [JW (by omega)] at h3 h4 ⊢
   simp only [GX, JbB, QW, Wd, g1, g2, w1]
   refine (Ja (by simp [zi]; omega)).trans ((Ja hc).trans ?_)
   generalize l.getD i .top = p at *
   have e1 : (PV.child 0 p).int = (cv p).kd := rfl
   have e2 : (PV.child (0 + 1) p).int = (cv p).n := rfl
   have e3 : (PV.child (0 + 1 + 1) p).str = (cv p).s := rfl
   simp only [e1, e2, e3, apl]
   simp only [inL, outL] at h3 h4
   rcases Xn hk with ⟨q1, q2, q3, q4⟩ | ⟨q1, q2, q3, q4⟩
   · rcases q1 with q1 | q1
     · have i1 : inC (cv p) = (cv p).n := by unfold inC; rw [q1]; rfl
       have i2 : QK (cv p) = (cv p).n := by unfold QK; rw [q1]; rfl
       have w2 : IntKind.i64.wrap ((at1 : Int) + (cv p).n) = ((at1 + (cv p).n.toNat : Nat) : Int) := by rw [wrap_i64 (by omega) (by omega)]; omega
       have g3 : (((at1 + (cv p).n.toNat : Nat) : Int)).toNat = at1 + (cv p).n.toNat := Int.toNat_natCast _
       have sz := Jc9 doc at1 (at1 + (cv p).n.toNat) (by omega) (by omega)
       simp only [q1, w2, g3]
       refine (Ja rfl).trans ((Ja hc).trans ((Ja (by simp; omega)).trans ((Ja (by rw [sz]; simp; omega)).trans ((Ja hc).trans ?_))))
       refine (Jpu l ha doc hd f k0 z fl d (i + 1) n _ _ (by omega) (by omega) (by omega) (by rw [Yp, sz]; omega)).trans ?_
       rfl
     · have i1 : inC (cv p) = (cv p).n := by unfold inC; rw [q1]; rfl
       have i2 : QK (cv p) = (cv p).s.size := by unfold QK; rw [q1]; rfl
       have w2 : IntKind.i64.wrap ((at1 : Int) + (cv p).n) = ((at1 + (cv p).n.toNat : Nat) : Int) := by rw [wrap_i64 (by omega) (by omega)]; omega
       simp only [q1, w2]
       refine (Jd rfl).trans ((Jd rfl).trans ((Ja hc).trans ?_))
       refine (Jpu l ha doc hd f k0 z fl d (i + 1) n _ _ (by omega) (by omega) (by omega) (by omega)).trans ?_
       rfl
   · have i1 : inC (cv p) = 0 := by unfold inC; rw [q1]; rfl
     have i2 : QK (cv p) = (cv p).s.size := by unfold QK; rw [q1]; rfl
     simp only [q1]
     refine (Jd rfl).trans ((Ja rfl).trans ((Ja hc).trans ((Ja (by simp; omega)).trans ?_)))
     refine (Jpu l ha doc hd f k0 z fl d (i + 1) n _ _ (by omega) (by omega) (by omega) (by rw [Yp]; omega)).trans ?_
     rfl
theorem Jnh : ∀ {l : List PV}, (∀ p ∈ l, ckC (cv p) = 0) -> inL l <= 120 * l.length
 | [], _ => by simp [inL]
 | p :: l, h => by
  have h1 := (Jfg (h p List.mem_cons_self)).2
  have h2 := Jnh fun q hq => h q (List.mem_cons_of_mem _ hq)
  simp only [inL, List.length_cons]; omega
def Jni : Jz
 | [.sc (.string doc), .ro 113 z f o], [], k => bif aOk o then k ⟨.tup [.sc (.string (apD ⟨doc, o⟩)), .sc (.int .i64 (apE ⟨doc, o⟩))], [], []⟩ else none
 | _, _, _ => none
def JJv : Sig := { own := [], run := Jni }
theorem JDo (doc : ByteArray) (z f : Bool) (o : List PV) (h : aOk o = true) (k : KR) : g60 50 doc z f o k = k ⟨.tup [.sc (.string (apD ⟨doc, o⟩)), .sc (.int .i64 (apE ⟨doc, o⟩))], [], []⟩ := by
 obtain ⟨h1, h2, h3⟩ := Q2.1 h
 unfold g60
 rw [Jng, JtA, Jkf, Jtx, Jpr]
 refine (Ja h).trans ?_
 cases hi : (inL o != zi doc.size) with
 | true => rfl
 | false =>
  refine (Jd rfl).trans ((Ja h).trans ?_)
  have hi : inL o = zi doc.size := by simpa [bne] using hi
  have hle := Jnh h3
  cases ho : decide (outL o > 120) with
  | true => rfl
  | false =>
   have ho := of_decide_eq_false ho
   refine (Jd rfl).trans ?_
   refine (Jpu o h doc (by simp only [zi] at hi; omega) 50 _ z f o.length 0 50 (ByteArray.mk (Array.mk [])) 0 (by omega) (by omega) (by rw [List.drop_zero, hi]; simp [zi]) (by rw [List.drop_zero]; show (0 : Int) + _ <= _; omega)).trans ?_
   rw [List.drop_zero]; rfl
theorem JJw : Jc tau Try.prog 60 JJv := Jc.mk' fun xs es k res hl hr => by
 change Jni xs es k = some res at hr
 unfold Jni at hr
 split at hr
 · rename_i doc z f o
   obtain ⟨hc, hr⟩ := Jv hr
   exact J2 Jn Jty Jo JJt JJu (Jw5 (Jfi 50)) [.ro, .ro] 0 0 (JNP 50) hl rfl ((e60 50 doc z f o k).trans ((JDo doc z f o hc k).trans hr))
 · cases hr
theorem JtB {x : AP} (h : aOk x.o = true) : (apD x).size <= 120 := by
 obtain ⟨h1, h2, h3⟩ := Q2.1 h
 rw [Jng]
 cases he : (Jkf x == 0) with
 | false => exact Nat.zero_le _
 | true =>
  rw [cond_true]
  unfold Jkf at he
  cases hi : (inL x.o != zi x.doc.size) with
  | true => rw [hi] at he; exact absurd (show false = true from he) (by decide)
  | false =>
   rw [hi] at he
   cases ho : decide (outL x.o > 120) with
   | true => rw [ho] at he; exact absurd (show false = true from he) (by decide)
   | false =>
    have ho := of_decide_eq_false ho
    have hi : inL x.o = zi x.doc.size := by simpa [bne] using hi
    have := JbD (l := x.o) (doc := x.doc) (at1 := 0) (out := ByteArray.mk (Array.mk [])) h3 (by rw [hi]; simp [zi])
    have e : (ByteArray.mk (Array.mk ([] : List UInt8))).size = 0 := rfl
    rw [e] at this; omega
def N61 : Nat := 51
def F61 : Fns := Jt 104 Jy6 (Jt 74 JAA (Jt 58 Jwr (F0)))
theorem JtC : Jq tau Try.prog F61 := (((Js).add JsD JAm).add Jyd JFa).add JB5 JES
def Jpv : Code := Qd (Try.f61.body.get!) [1, 1, 1, 0, 0, 0]
def Jfj : Nm := [(0, .any), (3, .any), (6, .any)]
def Jnj : Nm := [(0, .any), (3, .any), (6, .any)]
def JtD : An := (.seq (.seq .leaf (.cond .leaf .leaf)) (.block none .leaf))
def Jw7 (r0 : Qr) : An := (.seq .leaf (.seq (.block none (.seq .leaf (.cond (.seq .leaf .leaf) (.seq .leaf (.cond (.seq .leaf .leaf) (.seq .leaf (.cond (.seq .leaf .leaf) .leaf))))))) (.seq .leaf (.seq (.block none (.sum Jfj N61 r0)) (.seq .leaf (.seq .leaf (.seq .leaf .leaf)))))))
def JbE (f : Nat) (rc : Bool -> Bool -> List PV -> Int -> Int -> Int -> OR) (k0 : Bool -> Bool -> List PV -> Int -> Int -> Int -> OR) (v0 v1 : Bool) (v2 : List PV) (v3 v4 v5 : Int) : OR := bif decide (v3 < zi v2.length) then bif decide (0 <= v3) && decide (v3 < zi v2.length) && (PV.isSt 42 #[Field.mk "D" 3 0 false "" "" 0, Field.mk "U" 3 1 false "" "" 8].size (v2.getD v3.toNat PV.top) && (PV.isInt IntKind.i64 (PV.child 0 (v2.getD v3.toNat PV.top)) && (PV.isInt IntKind.i64 (PV.child (0 + 1) (v2.getD v3.toNat PV.top)) && true))) && true then bif Jwq (AV.mk (PV.child 0 (v2.getD v3.toNat PV.top)).int (PV.child (0 + 1) (v2.getD v3.toNat PV.top)).int) (AV.mk v4 v5) then rc v0 v1 v2 (IntKind.i64.wrap (v3 + 1)) v4 v5 else k0 v0 v1 v2 v3 v4 v5 else none else k0 v0 v1 v2 v3 v4 v5
def GY (f : Nat) (k0 : Bool -> Bool -> List PV -> Int -> Int -> Int -> OR) : Nat -> Bool -> Bool -> List PV -> Int -> Int -> Int -> OR
 | 0, _, _, _, _, _, _ => none
 | n + 1, v0, v1, v2, v3, v4, v5 => JbE f (GY f k0 n) k0 v0 v1 v2 v3 v4 v5
def JbF (k : Kont) := fun x0 x1 x2 x3 x4 x5 => k (Ex.exit 1) (Ji Jnj N61 [.ro 42 x0 x1 x2, .ptr 832 [], .sc (.int .i64 x3)] [(832, .box false 42 (PV.st 42 [.sc (.int .i64 x4), .sc (.int .i64 x5)]))])
def Jnk (f : Nat) (k : Kont) (n : Nat) (v0 v1 : Bool) (v2 : List PV) (v3 v4 v5 : Int) : OR := Jy tau 0 Jfj (fun s k => ev tau F61 0 0 Jpv (JtD ) s k) n (Ji Jfj N61 [.ro 42 v0 v1 v2, .ptr 832 [], .sc (.int .i64 v3)] [(832, .box false 42 (PV.st 42 [.sc (.int .i64 v4), .sc (.int .i64 v5)]))]) (JG tau 0 Jnj k)
theorem Jw8 (f : Nat) (k : Kont) (n : Nat) (v0 v1 : Bool) (v2 : List PV) (v3 v4 v5 : Int) : Jnk f k (n + 1) v0 v1 v2 v3 v4 v5 = JbE f (Jnk f k n) (JbF k) v0 v1 v2 v3 v4 v5 := by kernel_rfl
theorem Jpw (f : Nat) (k : Kont) : ∀ (n : Nat) (v0 v1 : Bool) (v2 : List PV) (v3 v4 v5 : Int), Jnk f k n v0 v1 v2 v3 v4 v5 = GY f (JbF k) n v0 v1 v2 v3 v4 v5 | 0, _, _, _, _, _, _ => rfl | n + 1, v0, v1, v2, v3, v4, v5 => (Jw8 f k n v0 v1 v2 v3 v4 v5).trans (congrArg (fun r => JbE f r (JbF k) v0 v1 v2 v3 v4 v5) (by funext v0 v1 v2 v3 v4 v5; exact Jpw f k n v0 v1 v2 v3 v4 v5))
def Jfk (f : Nat) : List PV -> List (Nat × Ent) -> Kont -> OR
 | [.ro 42 v0 v1 v2, .ptr 832 [],
 PV.sc
  (Value.int IntKind.i64
   v3)], [(832,
  Ent.box false 42
   (PV.st 42
    [.sc (.int .i64 v4),
     PV.sc
      (Value.int IntKind.i64
       v5)]))], k => GY f (JbF k) f v0 v1 v2 v3 v4 v5
 | _, _, _ => none
theorem JDp (f : Nat) : Jf Jpv JtD = [] := by kernel_rfl
theorem JDq (f : Nat) : (Item.l Jpv Jfj N61 (Jfk f)).Ok tau Try.prog 0 := Ju Jn JtC Jo (x := JtD) (nm2 := Jnj) (Jk _ _ (by rw [JDp f]; intro q hq; cases hq)) fun vs hp k res hr => by
 unfold Jfk at hr
 split at hr
 · exact ⟨f, 0, (Jpw f _ f _ _ _ _ _ _ ).trans hr⟩
 · cases hr
def g61 (f : Nat) (l_z l_f : Bool) (l : List PV) (a_D a_U : Int) (k : KR) : OR := bif !inA [a_D, 2, a_U, 7] then k (Res.mk (.tup [.ro 42 l_z l_f l, .sc (.int .i64 1)]) [] []) else bif pOk l then bif hasP (PH.mk l (AV.mk a_D a_U)) then k (Res.mk (.tup [.ro 42 l_z l_f l, .sc (.int .i64 12)]) [] []) else bif decide (zi l.length >= 8) then k (Res.mk (.tup [.ro 42 l_z l_f l, .sc (.int .i64 4)]) [] []) else GY f (fun _ _ x2_0 x3_0 x4_0 x5_0 => bif decide (0 <= x3_0) && true && decide (x3_0.toNat <= x2_0.length) && true then bif Je (0 + (List.take x3_0.toNat x2_0).length) 16 && true then bif Je (0 + (List.take x3_0.toNat x2_0).length + 1) 16 && true then bif decide (0 <= x3_0) && true && decide (x3_0.toNat <= x2_0.length) && decide (x2_0.length <= x2_0.length) && true then bif Je (0 + (List.take x3_0.toNat x2_0).length + 1 + (List.drop x3_0.toNat (List.take x2_0.length x2_0)).length) 16 && true then k (Res.mk (.tup [.ro 42 false false (List.take (0 + (List.take x3_0.toNat x2_0).length + 1 + (List.drop x3_0.toNat (List.take x2_0.length x2_0)).length) (List.take (0 + (List.take x3_0.toNat x2_0).length + 1) (List.take (0 + (List.take x3_0.toNat x2_0).length) (List.take x3_0.toNat x2_0) ++ [.st 42 [.sc (.int .i64 x4_0), .sc (.int .i64 x5_0)]]) ++ List.drop x3_0.toNat (List.take x2_0.length x2_0))), .sc (.int .i64 0)]) [] []) else none else none else none else none else none) f l_z l_f l (0) a_D a_U else none
theorem e61 (f : Nat) (l_z l_f : Bool) (l : List PV) (a_D a_U : Int) (k : KR) : JJ tau F61 Try.f61 (Try.f61.body.get!) (Jw7 (Jfk f)) [.ro, .ro] 0 [.ro 42 l_z l_f l, .st 42 [.sc (.int .i64 a_D), .sc (.int .i64 a_U)]] [] k = g61 f l_z l_f l a_D a_U k := by kernel_rfl
theorem JNR (f : Nat) : Jf (Try.f61.body.get!) (Jw7 (Jfk f)) = [.l Jpv Jfj N61 (Jfk f)] := by kernel_rfl
theorem JNS (f : Nat) : ∀ q ∈ Jf (Try.f61.body.get!) (Jw7 (Jfk f)), q.Ok tau Try.prog 0 := by rw [JNR f]; exact JL (JDq f) (fun _ h => nomatch h)
theorem JJx : Try.prog.funcs[61]? = some Try.f61 := by kernel_rfl
theorem JJy : Try.f61.body = some (Try.f61.body.get!) := by kernel_rfl
theorem JNT : Enters Try.prog 61 := enters_of JJx (by kernel_rfl) JJy
def N62 : Nat := 33
def F62 : Fns := Jt 58 Jwr (F0)
theorem JtE : Jq tau Try.prog F62 := (Js).add JsD JAm
def Jpx : Code := Qd (Try.f62.body.get!) [1, 1, 1, 0, 1, 0, 0]
def Jfl : Nm := [(0, .any), (3, .any), (6, .own), (7, .any)]
def Jnl : Nm := [(6, .any)]
def JtF : An := (.seq (.seq .leaf (.cond .leaf .leaf)) (.seq (.block none (.seq .leaf (.cond .leaf .leaf))) .leaf))
def Jw9 (r0 : Qr) : An := (.seq .leaf (.seq (.seq .leaf (.cond (.seq .leaf .leaf) .leaf)) (.seq .leaf (.seq (.seq .leaf (.block none (.sum Jfl N62 r0))) (.seq .leaf .leaf)))))
abbrev Zy (v2 : List PV) (v4 : Int) := (PV.isSt 42 #[Field.mk "D" 3 0 false "" "" 0, Field.mk "U" 3 1 false "" "" 8].size (v2.getD v4.toNat PV.top) && (PV.isInt IntKind.i64 (PV.child 0 (v2.getD v4.toNat PV.top)) && (PV.isInt IntKind.i64 (PV.child (0 + 1) (v2.getD v4.toNat PV.top)) && true)))
def JbG (f : Nat) (rc : Bool -> Bool -> List PV -> Nat -> Int -> Int -> Int -> Bool -> List PV -> OR) (k0 : Nat -> Bool -> List PV -> OR) (v0 v1 : Bool) (v2 : List PV) (v3 : Nat) (v4 v5 v6 : Int) (v7 : Bool) (v8 : List PV) : OR := bif decide (v4 < zi v2.length) then bif decide (0 <= v4) && decide (v4 < zi v2.length) && (Zy v2 v4) && true then bif !((PV.child 0 (v2.getD v4.toNat PV.top)).int == v5 && ((PV.child (0 + 1) (v2.getD v4.toNat PV.top)).int == v6 && true)) then bif decide (0 <= v4) && decide (v4 < zi v2.length) && (Zy v2 v4) && true then bif Je (v3 + 1) 16 && true then rc v0 v1 v2 (v3 + 1) (IntKind.i64.wrap (v4 + 1)) v5 v6 (v7 && false) (List.take v3 v8 ++ [.st 42 [.sc (.int .i64 (PV.child 0 (v2.getD v4.toNat PV.top)).int), .sc (.int .i64 (PV.child (0 + 1) (v2.getD v4.toNat PV.top)).int)]]) else none else none else rc v0 v1 v2 v3 (IntKind.i64.wrap (v4 + 1)) v5 v6 v7 v8 else none else k0 v3 v7 v8
def GZ (f : Nat) (k0 : Nat -> Bool -> List PV -> OR) : Nat -> Bool -> Bool -> List PV -> Nat -> Int -> Int -> Int -> Bool -> List PV -> OR
 | 0, _, _, _, _, _, _, _, _, _ => none
 | n + 1, v0, v1, v2, v3, v4, v5, v6, v7, v8 => JbG f (GZ f k0 n) k0 v0 v1 v2 v3 v4 v5 v6 v7 v8
def JbH (k : Kont) := fun x0 x1 x2 => k (Ex.exit 0) (Ji Jnl N62 [.ow 42 544 [] 0 x0 none] [(544, .vec false 42 x1 x2)])
def Jnm (f : Nat) (k : Kont) (n : Nat) (v0 v1 : Bool) (v2 : List PV) (v3 : Nat) (v4 v5 v6 : Int) (v7 : Bool) (v8 : List PV) : OR := Jy tau 0 Jfl (fun s k => ev tau F62 0 0 Jpx (JtF ) s k) n (Ji Jfl N62 [.ro 42 v0 v1 v2, .ptr 544 [], .ow 42 545 [] 0 v3 none, .sc (.int .i64 v4)] [(544, .box false 42 (PV.st 42 [.sc (.int .i64 v5), .sc (.int .i64 v6)])), (545, .vec false 42 v7 v8)]) (JG tau 0 Jnl k)
theorem Jxa (f : Nat) (k : Kont) (n : Nat) (v0 v1 : Bool) (v2 : List PV) (v3 : Nat) (v4 v5 v6 : Int) (v7 : Bool) (v8 : List PV) : Jnm f k (n + 1) v0 v1 v2 v3 v4 v5 v6 v7 v8 = JbG f (Jnm f k n) (JbH k) v0 v1 v2 v3 v4 v5 v6 v7 v8 := by kernel_rfl
theorem Jpy (f : Nat) (k : Kont) : ∀ (n : Nat) (v0 v1 : Bool) (v2 : List PV) (v3 : Nat) (v4 v5 v6 : Int) (v7 : Bool) (v8 : List PV), Jnm f k n v0 v1 v2 v3 v4 v5 v6 v7 v8 = GZ f (JbH k) n v0 v1 v2 v3 v4 v5 v6 v7 v8 | 0, _, _, _, _, _, _, _, _, _ => rfl | n + 1, v0, v1, v2, v3, v4, v5, v6, v7, v8 => (Jxa f k n v0 v1 v2 v3 v4 v5 v6 v7 v8).trans (congrArg (fun r => JbG f r (JbH k) v0 v1 v2 v3 v4 v5 v6 v7 v8) (by funext v0 v1 v2 v3 v4 v5 v6 v7 v8; exact Jpy f k n v0 v1 v2 v3 v4 v5 v6 v7 v8))
def Jfm (f : Nat) : List PV -> List (Nat × Ent) -> Kont -> OR
 | [.ro 42 v0 v1 v2, .ptr 544 [], .ow 42 545 [] 0 v3 none,
 PV.sc
  (Value.int IntKind.i64
   v4)], [(544, .box false 42 (PV.st 42 [.sc (.int .i64 v5), .sc (.int .i64 v6)])),
 (545, .vec false 42 v7 v8)], k => GZ f (JbH k) f v0 v1 v2 v3 v4 v5 v6 v7 v8
 | _, _, _ => none
theorem JDr (f : Nat) : Jf Jpx JtF = [] := by kernel_rfl
theorem JDs (f : Nat) : (Item.l Jpx Jfl N62 (Jfm f)).Ok tau Try.prog 0 := Ju Jn JtE Jo (x := JtF) (nm2 := Jnl) (Jk _ _ (by rw [JDr f]; intro q hq; cases hq)) fun vs hp k res hr => by
 unfold Jfm at hr
 split at hr
 · exact ⟨f, 0, (Jpy f _ f _ _ _ _ _ _ _ _ _ ).trans hr⟩
 · cases hr
def g62 (f : Nat) (l_z l_f : Bool) (l : List PV) (a_D a_U : Int) (k : KR) : OR := bif pOk l then bif !hasP (PH.mk l (AV.mk a_D a_U)) then k (Res.mk (.tup [.ro 42 l_z l_f l, .sc (.int .i64 2)]) [] []) else GZ f (fun x0_0 x1_0 x2_0 => k (Res.mk (.tup [.ro 42 (Ent.vec false 42 x1_0 x2_0).nil false (List.take x0_0 x2_0), .sc (.int .i64 0)]) [] [])) f l_z l_f l (0) (0) a_D a_U true ([]) else none
theorem e62 (f : Nat) (l_z l_f : Bool) (l : List PV) (a_D a_U : Int) (k : KR) : JJ tau F62 Try.f62 (Try.f62.body.get!) (Jw9 (Jfm f)) [.ro, .ro] 0 [.ro 42 l_z l_f l, .st 42 [.sc (.int .i64 a_D), .sc (.int .i64 a_U)]] [] k = g62 f l_z l_f l a_D a_U k := by kernel_rfl
theorem JNU (f : Nat) : Jf (Try.f62.body.get!) (Jw9 (Jfm f)) = [.l Jpx Jfl N62 (Jfm f)] := by kernel_rfl
theorem JNV (f : Nat) : ∀ q ∈ Jf (Try.f62.body.get!) (Jw9 (Jfm f)), q.Ok tau Try.prog 0 := by rw [JNU f]; exact JL (JDs f) (fun _ h => nomatch h)
theorem JJz : Try.prog.funcs[62]? = some Try.f62 := by kernel_rfl
theorem JJA : Try.f62.body = some (Try.f62.body.get!) := by kernel_rfl
theorem JNW : Enters Try.prog 62 := enters_of JJz (by kernel_rfl) JJA
-- FN ref12.Add | ref12.Remove
def Q3 : List PV -> AV -> Nat
 | [], _ => 0
 | p :: ps, a => bif ltA (av p) a then Q3 ps a + 1 else 0
def G0 (l : List PV) (a : AV) : List PV := l.take (Q3 l a) ++ adP a :: l.drop (Q3 l a)
theorem JbI : ∀ (l : List PV) (a : AV), Q3 l a <= l.length
 | [], _ => Nat.zero_le _
 | p :: ps, a => by
  simp only [Q3, List.length_cons]
  have := JbI ps a
  cases ltA (av p) a with
  | true => rw [cond_true]; omega
  | false => rw [cond_false]; omega
def JbJ (x : PH) : Int := bif !inA [x.a.d, 2, x.a.u, 7] then 1 else bif hasL x.l x.a then 12 else bif decide (x.l.length >= 8) then 4 else 0
def adE : PH -> Int := hid JbJ
def adL : PH -> List PV := hid fun x => bif JbJ x == 0 then G0 x.l x.a else x.l
def adF : PH -> Bool := hid fun x => !(JbJ x == 0)
theorem JtG (x : PH) : adE x = JbJ x := by rw [adE, hid_eq]
theorem Jco (x : PH) : adL x = bif JbJ x == 0 then G0 x.l x.a else x.l := by rw [adL, hid_eq]
theorem Jnn (x : PH) : adF x = !(JbJ x == 0) := by rw [adF, hid_eq]
def Jxb (x : PH) : Int := bif hasL x.l x.a then 0 else 2
def rmA (l : List PV) (a : AV) : List PV := l.filter fun p => !eqA (av p) a
def rmE : PH -> Int := hid Jxb
def rmL : PH -> List PV := hid fun x => bif hasL x.l x.a then rmA x.l x.a else x.l
def rmZ : PH -> Bool -> Bool := hid fun x z => bif hasL x.l x.a then (rmA x.l x.a).isEmpty else z
def rmF : PH -> Bool -> Bool := hid fun x f => bif hasL x.l x.a then false else f
theorem JtH (x : PH) : rmE x = Jxb x := by rw [rmE, hid_eq]
theorem Jcp (x : PH) : rmL x = bif hasL x.l x.a then rmA x.l x.a else x.l := by rw [rmL, hid_eq]
theorem Jno (x : PH) (z : Bool) : rmZ x z = bif hasL x.l x.a then (rmA x.l x.a).isEmpty else z := by rw [rmZ, hid_eq]
theorem JtI (x : PH) (z : Bool) : rmF x z = bif hasL x.l x.a then false else z := by rw [rmF, hid_eq]
theorem JzG (l : List PV) (d u : Int) (h1 : l.all X9 = true) (h2 : l.length <= 8) (f : Nat) (k0 : Bool -> Bool -> List PV -> Int -> Int -> Int -> OR) (z fl : Bool) : ∀ (e i n : Nat), i + e = l.length -> e < n ->
  GY f k0 n z fl l (i : Int) d u = k0 z fl l ((i + Q3 (l.drop i) ⟨d, u⟩ : Nat) : Int) d u
 | 0, i, n + 1, hi, hn => by
   rw [List.drop_of_length_le (by omega)]
   simp only [GY, JbE, Q3, Nat.add_zero]
   exact Jd (by simp [zi]; omega)
 | e + 1, i, n + 1, hi, hn => by
   have g1 : ((i : Int)).toNat = i := by omega
   have w1 : IntKind.i64.wrap ((i : Int) + 1) = ((i + 1 : Nat) : Int) := by rw [wrap_i64 (by omega) (by omega)]; omega
   have hd := JW (l := l) (i := i) (by omega)
   have hc := Wm (Wn h1 (i := i) (by omega))
   unfold Zg at hc
   rw [hd]
   simp only [GY, JbE, g1, w1, JoL]
   refine (Ja (by simp [zi]; omega)).trans ((Ja (by rw [hc]; simp [zi]; omega)).trans ?_)
   have he : ltA ⟨(PV.child 0 (l.getD i PV.top)).int, (PV.child (0 + 1) (l.getD i PV.top)).int⟩ ⟨d, u⟩ = ltA (av (l.getD i .top)) ⟨d, u⟩ := rfl
   rw [he, Q3]
   cases ltA (av (l.getD i .top)) ⟨d, u⟩ with
   | false => rfl
   | true =>
    refine (Ja rfl).trans ((JzG l d u h1 h2 f k0 z fl e (i + 1) n (by omega) (by omega)).trans ?_)
    rw [cond_true, show i + 1 + Q3 (l.drop (i + 1)) ⟨d, u⟩ = i + (Q3 (l.drop (i + 1)) ⟨d, u⟩ + 1) from by omega]
def Jnp : Jz
 | [.ro 42 z f l, .st 42 [.sc (.int .i64 d), .sc (.int .i64 u)]], [], k => bif pOk l then k ⟨.tup [.ro 42 (adF ⟨l, ⟨d, u⟩⟩ && z) (adF ⟨l, ⟨d, u⟩⟩ && f) (adL ⟨l, ⟨d, u⟩⟩), .sc (.int .i64 (adE ⟨l, ⟨d, u⟩⟩))], [], []⟩ else none
 | _, _, _ => none
def JJB : Sig := { own := [], run := Jnp }
theorem JDt (z f : Bool) (l : List PV) (d u : Int) (h : pOk l = true) (k : KR) : g61 20 z f l d u k = k ⟨.tup [.ro 42 (adF ⟨l, ⟨d, u⟩⟩ && z) (adF ⟨l, ⟨d, u⟩⟩ && f) (adL ⟨l, ⟨d, u⟩⟩), .sc (.int .i64 (adE ⟨l, ⟨d, u⟩⟩))], [], []⟩ := by
 obtain ⟨h1, _, h3⟩ := QF.1 h
 unfold g61
 rw [hasP_eq, JtG, Jco, Jnn, JbJ]
 cases hu : inA [d, 2, u, 7] with
 | false => rfl
 | true =>
  refine (Jd rfl).trans ((Ja h).trans ?_)
  cases hh : hasL l ⟨d, u⟩ with
  | true => rfl
  | false =>
   refine (Jd rfl).trans ?_
   by_cases h8 : l.length >= 8
   · refine (Ja (by simp [zi]; omega)).trans ?_
     simp only [decide_eq_true h8, Bool.not_true, cond_false, cond_true]; rfl
   · refine (Jd (by simp [zi]; omega)).trans ?_
     simp only [decide_eq_false h8, Bool.not_true, cond_false]
     refine (JzG l d u h1 (by omega) 20 _ z f l.length 0 20 (by omega) (by omega)).trans ?_
     rw [List.drop_zero, Nat.zero_add]
     have hc := JbI l ⟨d, u⟩
     unfold G0
     simp only [Int.toNat_natCast]
     generalize Q3 l ⟨d, u⟩ = c at *
     have e0 : List.take l.length l = l := List.take_length
     have e1 : List.take (0 + (List.take c l).length) (List.take c l) = List.take c l := List.take_of_length_le (by omega)
     have e2 : ∀ p : PV, List.take (0 + (List.take c l).length + 1) (List.take c l ++ [p]) = List.take c l ++ [p] := fun p => List.take_of_length_le (by simp)
     have e3 : ∀ p : PV, List.take (0 + (List.take c l).length + 1 + (List.drop c l).length) (List.take c l ++ [p] ++ List.drop c l) = List.take c l ++ [p] ++ List.drop c l := fun p => List.take_of_length_le (by simp; omega)
     simp only [e0, e1, e2, e3]
     refine (Ja (by simp; omega)).trans ((Ja (by simp [Je]; omega)).trans ((Ja (by simp [Je]; omega)).trans ((Ja (by simp; omega)).trans ((Ja (by simp [Je]; omega)).trans ?_))))
     rw [List.append_assoc]; rfl
theorem JJC : Jc tau Try.prog 61 JJB := Jc.mk' fun xs es k res hl hr => by
 change Jnp xs es k = some res at hr
 unfold Jnp at hr
 split at hr
 · rename_i z f l d u
   obtain ⟨hc, hr⟩ := Jv hr
   exact J2 Jn JtC Jo JJx JJy (Jw7 (Jfk 20)) [.ro, .ro] 0 0 (JNS 20) hl rfl ((e61 20 z f l d u k).trans ((JDt z f l d u hc k).trans hr))
 · cases hr
theorem JtJ (l : List PV) (d u : Int) (h1 : l.all X9 = true) (h2 : l.length <= 8) (f : Nat) (k0 : Nat -> Bool -> List PV -> OR) (z fl : Bool) : ∀ (e i n : Nat) (L : List PV), i + e = l.length -> e < n -> L.length <= i ->
  GZ f k0 n z fl l L.length (i : Int) d u L.isEmpty L = k0 (L ++ rmA (l.drop i) ⟨d, u⟩).length (L ++ rmA (l.drop i) ⟨d, u⟩).isEmpty (L ++ rmA (l.drop i) ⟨d, u⟩)
 | 0, i, n + 1, L, hi, hn, hL => by
   rw [List.drop_of_length_le (by omega)]
   simp only [GZ, JbG, Zy, rmA, List.filter_nil, List.append_nil]
   exact Jd (by simp [zi]; omega)
 | e + 1, i, n + 1, L, hi, hn, hL => by
   have g1 : ((i : Int)).toNat = i := by omega
   have w1 : IntKind.i64.wrap ((i : Int) + 1) = ((i + 1 : Nat) : Int) := by rw [wrap_i64 (by omega) (by omega)]; omega
   have hd := JW (l := l) (i := i) (by omega)
   have ha := Wn h1 (i := i) (by omega)
   have hc := Wm ha
   unfold Zg at hc
   rw [hd]
   simp only [GZ, JbG, Zy, g1, w1]
   have hrd : (decide (0 <= (i : Int)) && decide ((i : Int) < zi l.length) && (PV.isSt 42 #[Field.mk "D" 3 0 false "" "" 0, Field.mk "U" 3 1 false "" "" 8].size (l.getD i PV.top) && (PV.isInt IntKind.i64 (PV.child 0 (l.getD i PV.top)) && (PV.isInt IntKind.i64 (PV.child (0 + 1) (l.getD i PV.top)) && true))) && true) = true := by rw [hc]; simp [zi]; omega
   refine (Ja (by simp [zi]; omega)).trans ((Ja hrd).trans ?_)
   have he : ((PV.child 0 (l.getD i PV.top)).int == d && ((PV.child (0 + 1) (l.getD i PV.top)).int == u && true)) = eqA (av (l.getD i .top)) ⟨d, u⟩ := rfl
   have hp : PV.st 42 [.sc (.int .i64 (PV.child 0 (l.getD i PV.top)).int), .sc (.int .i64 (PV.child (0 + 1) (l.getD i PV.top)).int)] = l.getD i .top := Jwp ha
   rw [he, hp, rmA, List.filter_cons]
   have tk : List.take L.length L = L := List.take_length
   cases eqA (av (l.getD i .top)) ⟨d, u⟩ with
   | true =>
    refine (Jd rfl).trans ((JtJ l d u h1 h2 f k0 z fl e (i + 1) n L (by omega) (by omega) (by omega)).trans ?_)
    rfl
   | false =>
    have e1 : L.length + 1 = (L ++ [l.getD i .top]).length := by simp
    have e2 : (L.isEmpty && false) = (L ++ [l.getD i .top]).isEmpty := by simp
    refine (Ja rfl).trans ((Ja hrd).trans ((Ja (by simp [Je]; omega)).trans ?_))
    rw [tk, e1, e2]
    refine (JtJ l d u h1 h2 f k0 z fl e (i + 1) n _ (by omega) (by omega) (by simp; omega)).trans ?_
    rw [List.append_assoc]; rfl
def Jnq : Jz
 | [.ro 42 z f l, .st 42 [.sc (.int .i64 d), .sc (.int .i64 u)]], [], k => bif pOk l then k ⟨.tup [.ro 42 (rmZ ⟨l, ⟨d, u⟩⟩ z) (rmF ⟨l, ⟨d, u⟩⟩ f) (rmL ⟨l, ⟨d, u⟩⟩), .sc (.int .i64 (rmE ⟨l, ⟨d, u⟩⟩))], [], []⟩ else none
 | _, _, _ => none
def JJD : Sig := { own := [], run := Jnq }
theorem JDu (z f : Bool) (l : List PV) (d u : Int) (h : pOk l = true) (k : KR) : g62 20 z f l d u k = k ⟨.tup [.ro 42 (rmZ ⟨l, ⟨d, u⟩⟩ z) (rmF ⟨l, ⟨d, u⟩⟩ f) (rmL ⟨l, ⟨d, u⟩⟩), .sc (.int .i64 (rmE ⟨l, ⟨d, u⟩⟩))], [], []⟩ := by
 obtain ⟨h1, _, h3⟩ := QF.1 h
 unfold g62
 rw [hasP_eq, JtH, Jcp, Jno, JtI, Jxb]
 refine (Ja h).trans ?_
 cases hh : hasL l ⟨d, u⟩ with
 | false => rfl
 | true =>
  refine (Jd rfl).trans ((JtJ l d u h1 h3 20 _ z f l.length 0 20 [] (by omega) (by omega) (by simp)).trans ?_)
  rw [List.drop_zero, List.nil_append, List.take_length]; rfl
theorem JJE : Jc tau Try.prog 62 JJD := Jc.mk' fun xs es k res hl hr => by
 change Jnq xs es k = some res at hr
 unfold Jnq at hr
 split at hr
 · rename_i z f l d u
   obtain ⟨hc, hr⟩ := Jv hr
   exact J2 Jn JtE Jo JJz JJA (Jw9 (Jfm 20)) [.ro, .ro] 0 0 (JNV 20) hl rfl ((e62 20 z f l d u k).trans ((JDu z f l d u hc k).trans hr))
 · cases hr
/-! what stays -/
theorem X5 {p : PV} {l : List PV} : srt (p :: l) = true ↔ (∀ q ∈ l, ltA (av p) (av q) = true) /\ srt l = true := by
 simp only [srt, Bool.and_eq_true, List.all_eq_true]
theorem G1 (P : PV -> Bool) : ∀ {l : List PV}, srt l = true -> srt (l.filter P) = true
 | [], _ => rfl
 | p :: l, h => by
  obtain ⟨h1, h2⟩ := X5.1 h
  rw [List.filter_cons]
  cases P p with
  | false => exact G1 P h2
  | true => exact X5.2 ⟨fun q hq => h1 q (List.mem_filter.1 hq).1, G1 P h2⟩
theorem JgJ {a b c : AV} (h : ltA a b = true) (h2 : ltA b c = true) : ltA a c = true := by
 rw [Yn] at *; omega
theorem JtK {a b : AV} (h : ltA a b = false) (h2 : eqA a b = false) : ltA b a = true := by
 have h1 : ¬ ltA a b = true := by rw [h]; decide
 have h3 : ¬ eqA a b = true := by rw [h2]; decide
 rw [Yn] at h1
 rw [QE] at h3
 rw [Yn]
 rcases a with ⟨p, q⟩; rcases b with ⟨r, s⟩
 have : ¬ (p = r /\ q = s) := fun ⟨x, y⟩ => h3 (by rw [x, y])
 simp only at h1 ⊢
 omega
theorem JgK (p : PV) (l : List PV) (a : AV) : G0 (p :: l) a = bif ltA (av p) a then p :: G0 l a else adP a :: p :: l := by
 unfold G0
 simp only [Q3]
 cases ltA (av p) a with
 | true => simp
 | false => simp
theorem JbK {a : AV} {q : PV} : ∀ {l : List PV}, q ∈ G0 l a -> q = adP a ∨ q ∈ l
 | [], h => by simp [G0, Q3] at h; exact .inl h
 | p :: l, h => by
  rw [JgK] at h
  cases hc : ltA (av p) a with
  | true =>
   rw [hc, cond_true] at h
   rcases List.mem_cons.1 h with h | h
   · exact .inr (h ▸ List.mem_cons_self)
   · rcases JbK h with h | h
     · exact .inl h
     · exact .inr (List.mem_cons_of_mem _ h)
  | false =>
   rw [hc, cond_false] at h
   exact List.mem_cons.1 h
theorem Jkg {a : AV} : ∀ {l : List PV}, srt l = true -> hasL l a = false -> srt (G0 l a) = true
 | [], _, _ => rfl
 | p :: l, h, hh => by
  obtain ⟨h1, h2⟩ := X5.1 h
  have hh2 : eqA (av p) a = false /\ hasL l a = false := by
   have : hasL (p :: l) a = (eqA (av p) a || hasL l a) := rfl
   rw [this, Bool.or_eq_false_iff] at hh; exact hh
  rw [JgK]
  cases hc : ltA (av p) a with
  | true =>
   rw [cond_true]
   refine X5.2 ⟨fun q hq => ?_, Jkg h2 hh2.2⟩
   rcases JbK hq with rfl | hq
   · exact hc
   · exact h1 q hq
  | false =>
   rw [cond_false]
   have hl := JtK hc hh2.1
   refine X5.2 ⟨fun q hq => ?_, h⟩
   rcases List.mem_cons.1 hq with rfl | hq
   · exact hl
   · exact JgJ hl (h1 q hq)
theorem Vu (l : List PV) (a : AV) : (G0 l a).length = l.length + 1 := by
 have := JbI l a
 simp [G0]; omega
theorem Jxc {x : PH} (h : pOk x.l = true) : pOk (adL x) = true := by
 rw [Jco]
 cases he : (JbJ x == 0) with
 | false => exact h
 | true =>
  rw [cond_true]
  obtain ⟨h1, h2, h3⟩ := QF.1 h
  unfold JbJ at he
  cases hu : inA [x.a.d, 2, x.a.u, 7] with
  | false => rw [hu] at he; exact absurd (show false = true from he) (by decide)
  | true =>
   rw [hu] at he
   cases hh : hasL x.l x.a with
   | true => rw [hh] at he; exact absurd (show false = true from he) (by decide)
   | false =>
    rw [hh] at he
    by_cases h8 : x.l.length >= 8
    · rw [decide_eq_true h8] at he; exact absurd (show false = true from he) (by decide)
    · refine QF.2 ⟨List.all_eq_true.2 fun q hq => ?_, Jkg h2 hh, by rw [Vu]; omega⟩
      rcases JbK hq with rfl | hq
      · rfl
      · exact List.all_eq_true.1 h1 q hq
theorem Jxd {x : PH} (h : pOk x.l = true) : pOk (rmL x) = true := by
 rw [Jcp]
 cases hasL x.l x.a with
 | false => exact h
 | true =>
  obtain ⟨h1, h2, h3⟩ := QF.1 h
  exact QF.2 ⟨List.all_eq_true.2 fun q hq => List.all_eq_true.1 h1 q (List.mem_filter.1 hq).1, G1 _ h2, by have := List.length_filter_le (fun p => !eqA (av p) x.a) x.l; show (rmA x.l x.a).length <= 8; unfold rmA; omega⟩
def F24 : Fns := Jt 62 JJD (Jt 61 JJB (Jt 60 JJv (Jt 59 Jvw (Jt 58 Jwr (Jt 16 JJi (Jt 15 JII (F0)))))))
theorem JDv : Jq tau Try.prog F24 := (((((((Js).add JIJ JNw).add JJj JI8).add JsD JAm).add Jrr JAu).add JJw JNQ).add JJC JNT).add JJE JNW
def JDw : An := (.seq .leaf (.seq .leaf (.seq (.seq .leaf (.cond (.seq .leaf .leaf) .leaf)) (.seq (.seq .leaf (.cond (.seq .leaf .leaf) .leaf)) (.seq (.seq .leaf (.cond (.seq .leaf .leaf) .leaf)) (.seq .leaf (.seq (.block none (.seq .leaf (.cond (.seq .leaf (.seq .leaf (.cond .leaf .leaf))) (.seq .leaf (.cond .leaf (.seq .leaf (.cond .leaf .leaf))))))) (.seq (.seq .leaf (.cond (.seq .leaf .leaf) .leaf)) (.seq (.seq .leaf (.cond (.seq .leaf .leaf) .leaf)) (.seq .leaf (.seq .leaf (.seq .leaf .leaf))))))))))))
abbrev We (y0 : Int) (y1 : Int) := [PV.sc (.int .i64 y0), PV.sc (.int .i64 y1)]
abbrev W8 (y7 : List PV) (y10 : List PV) (y11 : List PV) (e_At : Int) (e_Op : List PV) := (pu IntKind.u8 (nxP (NX.mk y7 (EV.mk y10 y11 e_At e_Op))))
abbrev X6 (y5 : List PV) (y10 : List PV) := (PH.mk y5 (AV.mk (dF 5 y10) (dF 6 y10)))
abbrev Jfn (y0 : Int) (y1 : Int) (y2 : ByteArray) (y3 : Bool) (y4 : Bool) (y5 : List PV) (y6 : Int) (y7 : List PV) := (Res.mk (PV.tup [PV.st 58 [PV.st 34 (We y0 y1), PV.sc (.string y2), PV.ro 42 y3 y4 y5, PV.sc (.int .i64 y6), PV.ar 37 y7], PV.sc (.int .i64 16)]) [] [])
def g24 (f : Nat) (y0 y1 : Int) (y2 : ByteArray) (y3 y4 : Bool) (y5 : List PV) (y6 : Int) (y7 : List PV) (y8 y9 : Bool) (y10 y11 : List PV) (e_At : Int) (y12 y13 : Bool) (e_Op y14 y15 : List PV) (k : KR) : OR := bif byB y10 && y10.length.ble 1000000000 then bif dE y10 != 0 then k (Res.mk (.tup [.st 58 [.st 34 (We y0 y1), .sc (.string y2), .ro 42 y3 y4 y5, .sc (.int .i64 y6), .ar 37 y7], .sc (.int .i64 (dE y10))]) [] []) else bif e_At != y6 then k (Res.mk (.tup [.st 58 [.st 34 (We y0 y1), .sc (.string y2), .ro 42 y3 y4 y5, .sc (.int .i64 y6), .ar 37 y7], .sc (.int .i64 15)]) [] []) else bif decide (dF 3 y10 > y6) then k (Res.mk (.tup [.st 58 [.st 34 (We y0 y1), .sc (.string y2), .ro 42 y3 y4 y5, .sc (.int .i64 y6), .ar 37 y7], .sc (.int .i64 15)]) [] []) else bif pOk y5 then bif !hasP (PH.mk y5 (AV.mk (dF 0 y10) (dF 1 y10))) then k (Res.mk (.tup [.st 58 [.st 34 (We y0 y1), .sc (.string y2), .ro 42 y3 y4 y5, .sc (.int .i64 y6), .ar 37 y7], .sc (.int .i64 13)]) [] []) else bif dF 4 y10 == 1 then bif cOk e_Op then bif ckO e_Op == 0 then bif aOk e_Op then bif apE (AP.mk y2 e_Op) != 0 then k (Res.mk (.tup [.st 58 [.st 34 (We y0 y1), .sc (.string y2), .ro 42 y3 y4 y5, .sc (.int .i64 y6), .ar 37 y7], .sc (.int .i64 (apE (AP.mk y2 e_Op)))]) [] []) else bif h32 y7 && eOk (EV.mk y10 y11 e_At e_Op) then bif decide (y14.length = 32) && decide ((W8 y7 y10 y11 e_At e_Op).length = 32) && Jl IntKind.u8 y14 && Jl IntKind.u8 (W8 y7 y10 y11 e_At e_Op) && true then bif !J3 y14 (W8 y7 y10 y11 e_At e_Op) then k (Jfn y0 y1 y2 y3 y4 y5 y6 y7) else k (Res.mk (.tup [.st 58 [.st 34 (We y0 y1), .sc (.string (apD (AP.mk y2 e_Op))), .ro 42 y3 y4 y5, .sc (.int .i64 (IntKind.i64.wrap (y6 + 1))), .ar 37 y14], .sc (.int .i64 0)]) [] []) else none else none else none else bif ckO e_Op != 0 then k (Res.mk (.tup [.st 58 [.st 34 (We y0 y1), .sc (.string y2), .ro 42 y3 y4 y5, .sc (.int .i64 y6), .ar 37 y7], .sc (.int .i64 (ckO e_Op))]) [] []) else bif h32 y7 && eOk (EV.mk y10 y11 e_At e_Op) then bif decide (y14.length = 32) && decide ((W8 y7 y10 y11 e_At e_Op).length = 32) && Jl IntKind.u8 y14 && Jl IntKind.u8 (W8 y7 y10 y11 e_At e_Op) && true then bif !J3 y14 (W8 y7 y10 y11 e_At e_Op) then k (Jfn y0 y1 y2 y3 y4 y5 y6 y7) else k (Res.mk (.tup [.st 58 [.st 34 (We y0 y1), .sc (.string y2), .ro 42 y3 y4 y5, .sc (.int .i64 (IntKind.i64.wrap (y6 + 1))), .ar 37 y14], .sc (.int .i64 0)]) [] []) else none else none else none else bif decide (zi e_Op.length > 0) then k (Res.mk (.tup [.st 58 [.st 34 (We y0 y1), .sc (.string y2), .ro 42 y3 y4 y5, .sc (.int .i64 y6), .ar 37 y7], .sc (.int .i64 1)]) [] []) else bif dF 4 y10 == 2 then bif pOk y5 then bif adE (X6 y5 y10) != 0 then k (Res.mk (.tup [.st 58 [.st 34 (We y0 y1), .sc (.string y2), .ro 42 y3 y4 y5, .sc (.int .i64 y6), .ar 37 y7], .sc (.int .i64 (adE (X6 y5 y10)))]) [] []) else bif h32 y7 && eOk (EV.mk y10 y11 e_At e_Op) then bif decide (y14.length = 32) && decide ((W8 y7 y10 y11 e_At e_Op).length = 32) && Jl IntKind.u8 y14 && Jl IntKind.u8 (W8 y7 y10 y11 e_At e_Op) && true then bif !J3 y14 (W8 y7 y10 y11 e_At e_Op) then k (Jfn y0 y1 y2 y3 y4 y5 y6 y7) else k (Res.mk (.tup [.st 58 [.st 34 (We y0 y1), .sc (.string y2), .ro 42 (adF (X6 y5 y10) && y3) (adF (X6 y5 y10) && y4) (adL (X6 y5 y10)), .sc (.int .i64 (IntKind.i64.wrap (y6 + 1))), .ar 37 y14], .sc (.int .i64 0)]) [] []) else none else none else none else bif pOk y5 then bif rmE (X6 y5 y10) != 0 then k (Res.mk (.tup [.st 58 [.st 34 (We y0 y1), .sc (.string y2), .ro 42 y3 y4 y5, .sc (.int .i64 y6), .ar 37 y7], .sc (.int .i64 (rmE (X6 y5 y10)))]) [] []) else bif h32 y7 && eOk (EV.mk y10 y11 e_At e_Op) then bif decide (y14.length = 32) && decide ((W8 y7 y10 y11 e_At e_Op).length = 32) && Jl IntKind.u8 y14 && Jl IntKind.u8 (W8 y7 y10 y11 e_At e_Op) && true then bif !J3 y14 (W8 y7 y10 y11 e_At e_Op) then k (Jfn y0 y1 y2 y3 y4 y5 y6 y7) else k (Res.mk (.tup [.st 58 [.st 34 (We y0 y1), .sc (.string y2), .ro 42 (rmZ (X6 y5 y10) y3) (rmF (X6 y5 y10) y4) (rmL (X6 y5 y10)), .sc (.int .i64 (IntKind.i64.wrap (y6 + 1))), .ar 37 y14], .sc (.int .i64 0)]) [] []) else none else none else none else none else none
theorem e24 (f : Nat) (y0 y1 : Int) (y2 : ByteArray) (y3 y4 : Bool) (y5 : List PV) (y6 : Int) (y7 : List PV) (y8 y9 : Bool) (y10 y11 : List PV) (e_At : Int) (y12 y13 : Bool) (e_Op y14 y15 : List PV) (k : KR) : JJ tau F24 Try.f24 (Try.f24.body.get!) JDw [.ro, .ro] 0 [.st 58 [.st 34 [.sc (.int .i64 y0), .sc (.int .i64 y1)], .sc (.string y2), .ro 42 y3 y4 y5, .sc (.int .i64 y6), .ar 37 y7], .st 51 [.st 47 [.ro 5 y8 y9 y10, .ar 37 y11], .sc (.int .i64 e_At), .ro 113 y12 y13 e_Op, .ar 37 y14, .ar 37 y15]] [] k = g24 f y0 y1 y2 y3 y4 y5 y6 y7 y8 y9 y10 y11 e_At y12 y13 e_Op y14 y15 k := by kernel_rfl
theorem JNX (f : Nat) : ∀ q ∈ Jf (Try.f24.body.get!) JDw, q.Ok tau Try.prog 0 := Jw (by kernel_rfl)
theorem JJF : Try.prog.funcs[24]? = some Try.f24 := by kernel_rfl
theorem JJG : Try.f24.body = some (Try.f24.body.get!) := by kernel_rfl
theorem JNY : Enters Try.prog 24 := enters_of JJF (by kernel_rfl) JJG
def JtL : Jz
 | [.st 58 [.st 34 [.sc (.int .i64 y0), .sc (.int .i64 y1)], .sc (.string y2), .ro 42 y3 y4 y5, .sc (.int .i64 y6), .ar 37 y7], .st 51 [.st 47 [.ro 5 y8 y9 y10, .ar 37 y11], .sc (.int .i64 e_At), .ro 113 y12 y13 e_Op, .ar 37 y14, .ar 37 y15]], [], k => g24 0 y0 y1 y2 y3 y4 y5 y6 y7 y8 y9 y10 y11 e_At y12 y13 e_Op y14 y15 k
 | _, _, _ => none
def s24 : Sig := { own := [], run := JtL }
theorem JNZ : Jc tau Try.prog 24 s24 := JN Jn JDv Jo JJF JJG JDw [.ro, .ro] 0 [] JtL (JNX 0) fun xs es k res hr => by
 unfold JtL at hr
 split at hr
 · exact ⟨rfl, 0, (e24 0 _ _ _ _ _ _ _ _ _ _ _ _ _ _ _ _ _ _  _).trans hr⟩
 · cases hr
theorem JJH {τ : Tab} {m : Nat} {a b : TypeId} {pvs : List PV} (h : TyL τ m [a, b] pvs) : ∃ p q, pvs = [p, q] /\ Ty τ m a p /\ Ty τ m b q := by
 match pvs, h with
 | [p, q], h => exact ⟨p, q, rfl, h.1, h.2.1⟩
theorem JJI {τ : Tab} {m : Nat} {a b c : TypeId} {pvs : List PV} (h : TyL τ m [a, b, c] pvs) : ∃ p q r, pvs = [p, q, r] /\ Ty τ m a p /\ Ty τ m b q /\ Ty τ m c r := by
 match pvs, h with
 | [p, q, r], h => exact ⟨p, q, r, rfl, h.1, h.2.1, h.2.2.1⟩
def F12 : Fns := F0
theorem JDx : Jq tau Try.prog F12 := Js
def JDy : An := (.seq .leaf (.seq .leaf (.seq .leaf .leaf)))
abbrev YB (b : List PV) := (List.take (Qf (zi b.length) 60).toNat b)
def g12 (f : Nat) (b_z b_f : Bool) (b : List PV) (k : KR) : OR := bif decide (0 <= Qf (zi b.length) 60) && true && decide ((Qf (zi b.length) 60).toNat <= b.length) && true then bif Je (2 + (YB b).length) 1 && true then bif Je (2 + (YB b).length) 1 && true then bif Je (2 + (YB b).length) 1 && true then k (Res.mk (.st 31 [.ro 5 false false (List.take (2 + (YB b).length) (.sc (.int .u8 107) :: .sc (.int .u8 48) :: id (YB b))), .ro 5 false false (List.take (2 + (YB b).length) (.sc (.int .u8 107) :: .sc (.int .u8 49) :: id (YB b))), .ro 5 false false (List.take (2 + (YB b).length) (.sc (.int .u8 107) :: .sc (.int .u8 50) :: id (YB b)))]) [] []) else none else none else none else none
theorem e12 (f : Nat) (b_z b_f : Bool) (b : List PV) (k : KR) : JJ tau F12 Try.f12 (Try.f12.body.get!) JDy [.ro] 0 [.ro 5 b_z b_f b] [] k = g12 f b_z b_f b k := by kernel_rfl
theorem JN0 (f : Nat) : ∀ q ∈ Jf (Try.f12.body.get!) JDy, q.Ok tau Try.prog 0 := Jw (by kernel_rfl)
theorem JJJ : Try.prog.funcs[12]? = some Try.f12 := by kernel_rfl
theorem JJK : Try.f12.body = some (Try.f12.body.get!) := by kernel_rfl
theorem JN1 : Enters Try.prog 12 := enters_of JJJ (by kernel_rfl) JJK
def JtM : Jz
 | [.ro 5 b_z b_f b], [], k => g12 0 b_z b_f b k
 | _, _, _ => none
def s12 : Sig := { own := [], run := JtM }
theorem JN2 : Jc tau Try.prog 12 s12 := JN Jn JDx Jo JJJ JJK JDy [.ro] 0 [] JtM (JN0 0) fun xs es k res hr => by
 unfold JtM at hr
 split at hr
 · exact ⟨rfl, 0, (e12 0 _ _ _  _).trans hr⟩
 · cases hr


def i64B (n : Int) : Bool := decide (-9223372036854775808 <= n) && decide (n < 9223372036854775808)
structure MsgOk (ns : List Int) (ts : List ByteArray) (h : List Int) : Prop where
 len : ns.length = 12
 num : ∀ n, n < 12 -> i64B (ns.getD n 0) = true
 cnt : ts.length <= 4
 txt : ∀ t ∈ ts, t.size <= 65535
 sum : h.length = 32
 sumB : ∀ x ∈ h, 0 <= x /\ x < 256
-- FN law9.Keys | law16.Good | law16.Few
def kb : Nat -> List PV -> List PV := hid fun i b => pu .u8 [107, 48 + i] ++ b.take 60
theorem JzH (i : Nat) (b : List PV) : kb i b = pu .u8 [107, 48 + i] ++ b.take 60 := by rw [kb, hid_eq]
theorem JJL (i : Nat) {b : List PV} (h : Jl .u8 b = true) : kOk (kb i b) = true := by
 rw [JzH]; unfold kOk
 have h2 : Jl .u8 (b.take 60) = true := by
  rw [Qy h, Yd]; simp
 rw [Q6, h2, JO]
 simp; omega
def Jnr : Jz
 | [.ro 5 z f b], [], k => k ⟨.st 31 [.ro 5 false false (kb 0 b), .ro 5 false false (kb 1 b), .ro 5 false false (kb 2 b)], [], []⟩
 | _, _, _ => none
def JJM : Sig := { own := [], run := Jnr }
theorem JJN (n m : Nat) : (Qf (zi n) m).toNat = min n m := by unfold Qf; simp only [zi]; split <;> omega
theorem JJO : Jc tau Try.prog 12 JJM := JN2.of fun xs es k res hr => by
 change Jnr xs es k = some res at hr
 unfold Jnr at hr
 split at hr
 · rename_i z f b
   show g12 0 z f b k = some res
   have hm : (Qf (zi b.length) 60).toNat = min b.length 60 := JJN b.length 60
   have ht : List.take (min b.length 60) b = b.take 60 := by rw [Nat.min_comm, List.take_eq_take_iff]; omega
   have hl : (b.take 60).length <= 60 := by simp; omega
   have e : ∀ x y : Int, List.take (2 + (b.take 60).length) (.sc (.int .u8 x) :: .sc (.int .u8 y) :: id (b.take 60)) = .sc (.int .u8 x) :: .sc (.int .u8 y) :: b.take 60 := fun x y => List.take_of_length_le (by simp; omega)
   have hk : ∀ i, kb i b = .sc (.int .u8 107) :: .sc (.int .u8 (48 + i)) :: b.take 60 := fun i => by rw [JzH]; simp
   unfold g12 YB
   simp only [hm, ht, e]
   have hr4 : Je (2 + (b.take 60).length) 1 = true := by simp only [Je, Nat.mul_one, decide_eq_true_eq]; omega
   rw [Ja (by simp; unfold Qf; simp only [zi]; split <;> omega), hr4]
   simp only [hk] at hr
   exact hr
 · cases hr
def JDz : Nat -> C13 -> Int
 | 0, c => 1 + c.kd % 5
 | 1, c => c.fr % 3
 | 2, c => (c.fr % 3 + 1 + c.to % 2) % 3
 | 3, c => c.wh % 3
 | 4, c => c.wn % 100
 | 5, c => c.cd % 3
 | 6, c => c.cu % 8
 | 7, c => c.ve % 1073741824
 | 8, c => c.co % 1073741824
 | 9, c => c.ad % 3
 | 10, c => c.au % 8
 | 11, c => c.su % 1073741824
 | _, c => c.er % 256
def YU : Nat -> C13 -> Int := hid JDz
abbrev JO4 (c : C13) : C13 := ⟨YU 0 c, YU 1 c, YU 2 c, YU 3 c, YU 4 c, YU 5 c, YU 6 c, YU 7 c, YU 8 c, YU 9 c, YU 10 c, YU 11 c, YU 12 c⟩
def JtN (T : TypeId) : List TypeId := match tau.und T with | some (.struct fds) => fds.toList.map (·.type) | _ => []
theorem JtO {τ : Tab} {n : Nat} : ∀ (ts : List TypeId) (ps : List PV), ts.length = ps.length -> (∀ (i : Nat) (t : TypeId) (q : PV), ts[i]? = some t -> ps[i]? = some q -> Ty τ n t q) -> TyL τ n ts ps
 | [], [], _, _ => trivial
 | t :: ts, p :: ps, hl, h => ⟨h 0 t p rfl rfl, JtO ts ps (by simpa using hl) fun i t q h1 h2 => h (i + 1) t q (by simpa using h1) (by simpa using h2)⟩
 | [], _ :: _, hl, _ => by simp at hl
 | _ :: _, [], hl, _ => by simp at hl
theorem JtP {τ : Tab} {n : Nat} {t : TypeId} {ts : List TypeId} {ps : List PV} (h : TyL τ n (t :: ts) ps) : ∃ p r, ps = p :: r /\ Ty τ n t p /\ TyL τ n ts r := by
 cases ps with
 | nil => exact h.elim
 | cons p r => exact ⟨p, r, rfl, h.1, h.2⟩
theorem Jcq {n : Nat} {T : TypeId} {tys : List TypeId} {p : PV} (hc : JtN T = tys) (hne : tys ≠ []) (h : Ty tau (n + 1) T p) : ∃ fs, p = .st T fs /\ TyL tau n tys fs := by
 unfold JtN at hc
 split at hc
 · rename_i fds hu
   obtain ⟨fs, rfl, hl, hf⟩ := Jqs hu h
   refine ⟨fs, rfl, JtO tys fs (by rw [← hc]; simpa using hl.symm) fun i t q h1 h2 => ?_⟩
   rw [← hc, List.getElem?_map] at h1
   rw [Array.getElem?_toList] at h1
   cases hfi : fds[i]? with
   | none => rw [hfi] at h1; cases h1
   | some f =>
    rw [hfi] at h1
    obtain rfl := Option.some.inj h1
    exact hf i f q hfi h2
 · exact absurd hc.symm hne
theorem G2 {n : Nat} {p : PV} (h : Ty tau (n + 1) 3 p) : ∃ x, p = .sc (.int .i64 x) /\ i64B x = true := by
 have u : tau.und 3 = some (.int .i64) := by kernel_rfl
 obtain ⟨x, rfl, hx⟩ := Jre u h
 refine ⟨x, rfl, ?_⟩
 have e1 : IntKind.i64.min = -9223372036854775808 := rfl
 have e2 : IntKind.i64.max = 9223372036854775807 := rfl
 simp only [Lit.wf, e1, e2, Bool.and_eq_true, decide_eq_true_eq] at hx
 simp only [i64B, Bool.and_eq_true, decide_eq_true_eq]
 omega
theorem Jxe {n : Nat} {p : PV} (h : Ty tau (n + 2) 57 p) : ∃ z l, p = .ro 3 z false l /\ (z = true -> l = []) /\ l.length <= maxLen /\ Jl .i64 l = true := by
 have u : tau.und 57 = some (.slice 3) := by kernel_rfl
 have u2 : tau.und 3 = some (.int .i64) := by kernel_rfl
 obtain ⟨z, b, rfl, h1, h2, h3⟩ := JjC u h
 exact ⟨z, b, rfl, h1, h2, Joh u2 b h3⟩
-- FN
theorem JzI {n : Int} (h : 0 < n) (h2 : n < 1000000000000) : okW n = true := by rw [GV, Bool.and_eq_true, decide_eq_true_eq, decide_eq_true_eq]; exact ⟨h, h2⟩
theorem JqA (s : ByteArray) : XN s s = true := by rw [Jom]; exact decide_eq_true rfl
theorem Jkh {l : List PV} (h : Jl .u8 l = true) : J3 l l = true := by
 rw [Qy h, Jcd]; exact beq_self_eq_true _
structure EW where
 (b m : List PV) (at1 : Int) (o h mc : List PV)
theorem Yr (x : Int) {m : Int} (h : 0 < m) : 0 <= x % m /\ x % m < m := ⟨Int.emod_nonneg _ (by omega), Int.emod_lt_of_pos _ h⟩
-- FN ref13.Do
structure SV where
 (ih iN : Int) (doc : ByteArray) (l : List PV) (ver : Int) (hash : List PV)
structure DX where
 (s : SV) (e : EW)
def ZI (e : EW) : EV := ⟨e.b, e.m, e.at1, e.o⟩
def auA (b : List PV) : AV := ⟨dF 0 b, dF 1 b⟩
def whA (b : List PV) : AV := ⟨dF 5 b, dF 6 b⟩
def chE (x : DX) : Int := bif dF 4 x.e.b == 1 then (bif ckO x.e.o == 0 then apE ⟨x.s.doc, x.e.o⟩ else ckO x.e.o) else bif decide (zi x.e.o.length > 0) then 1 else bif dF 4 x.e.b == 2 then adE ⟨x.s.l, whA x.e.b⟩ else rmE ⟨x.s.l, whA x.e.b⟩
def chD (x : DX) : ByteArray := bif dF 4 x.e.b == 1 then apD ⟨x.s.doc, x.e.o⟩ else x.s.doc
def chL (x : DX) : List PV := bif dF 4 x.e.b == 1 then x.s.l else bif dF 4 x.e.b == 2 then adL ⟨x.s.l, whA x.e.b⟩ else rmL ⟨x.s.l, whA x.e.b⟩
def chZ (x : DX) (z : Bool) : Bool := bif dF 4 x.e.b == 1 then z else bif dF 4 x.e.b == 2 then (adF ⟨x.s.l, whA x.e.b⟩ && z) else rmZ ⟨x.s.l, whA x.e.b⟩ z
def chF (x : DX) (f : Bool) : Bool := bif dF 4 x.e.b == 1 then f else bif dF 4 x.e.b == 2 then (adF ⟨x.s.l, whA x.e.b⟩ && f) else rmF ⟨x.s.l, whA x.e.b⟩ f
def dsE0 (x : DX) : Int := bif dE x.e.b != 0 then dE x.e.b else bif x.e.at1 != x.s.ver then 15 else bif decide (dF 3 x.e.b > x.s.ver) then 15 else bif !hasP ⟨x.s.l, auA x.e.b⟩ then 13 else bif chE x != 0 then chE x else bif !J3 x.e.h (pu .u8 (nxP ⟨x.s.hash, ZI x.e⟩)) then 16 else 0
def dsE : DX -> Int := hid dsE0
def dsD : DX -> ByteArray := hid fun x => bif dsE0 x == 0 then chD x else x.s.doc
def dsL : DX -> List PV := hid fun x => bif dsE0 x == 0 then chL x else x.s.l
def dsZ : DX -> Bool -> Bool := hid fun x z => bif dsE0 x == 0 then chZ x z else z
def dsF : DX -> Bool -> Bool := hid fun x z => bif dsE0 x == 0 then chF x z else z
def dsV : DX -> Int := hid fun x => bif dsE0 x == 0 then x.s.ver + 1 else x.s.ver
def dsH : DX -> List PV := hid fun x => bif dsE0 x == 0 then x.e.h else x.s.hash
theorem JiA (x : DX) : dsE x = dsE0 x := by rw [dsE, hid_eq]
theorem JiB (x : DX) : dsD x = bif dsE0 x == 0 then chD x else x.s.doc := by rw [dsD, hid_eq]
theorem Jfo (x : DX) : dsL x = bif dsE0 x == 0 then chL x else x.s.l := by rw [dsL, hid_eq]
theorem Jfp (x : DX) (z : Bool) : dsZ x z = bif dsE0 x == 0 then chZ x z else z := by rw [dsZ, hid_eq]
theorem JtQ (x : DX) (z : Bool) : dsF x z = bif dsE0 x == 0 then chF x z else z := by rw [dsF, hid_eq]
theorem G3 (x : DX) : dsV x = bif dsE0 x == 0 then x.s.ver + 1 else x.s.ver := by rw [dsV, hid_eq]
theorem Jcr (x : DX) : dsH x = bif dsE0 x == 0 then x.e.h else x.s.hash := by rw [dsH, hid_eq]
def uOk (l : List PV) : Bool := l.all fun p => inA [(av p).d, 2, (av p).u, 7]
def sOk : SV -> Bool := hid fun s => pOk s.l && (h32 s.hash && (decide (0 <= s.ver) && (decide (s.ver <= 1000000) && (decide (s.doc.size <= 120) && uOk s.l))))
theorem Ys {s : SV} : sOk s = true ↔ pOk s.l = true /\ h32 s.hash = true /\ 0 <= s.ver /\ s.ver <= 1000000 /\ s.doc.size <= 120 /\ uOk s.l = true := by
 rw [sOk, hid_eq]; simp only [Bool.and_eq_true, decide_eq_true_eq]
def eD : EW -> Bool := hid fun e => byB e.b && (eOk (ZI e) && (cOk e.o && h32 e.h))
theorem Jcs {e : EW} : eD e = true ↔ byB e.b = true /\ eOk (ZI e) = true /\ cOk e.o = true /\ h32 e.h = true := by
 rw [eD, hid_eq]; simp only [Bool.and_eq_true]
def stP (s : SV) (z f : Bool) : PV := .st 58 [.st 34 [.sc (.int .i64 s.ih), .sc (.int .i64 s.iN)], .sc (.string s.doc), .ro 42 z f s.l, .sc (.int .i64 s.ver), .ar 37 s.hash]
def dsS (x : DX) : SV := ⟨x.s.ih, x.s.iN, dsD x, dsL x, dsV x, dsH x⟩
def dsP (x : DX) (z f : Bool) : PV := .tup [stP (dsS x) (dsZ x z) (dsF x f), .sc (.int .i64 (dsE x))]
theorem JiC {x : DX} (h0 : (dsE0 x == 0) = false) : dsS x = x.s := by
 unfold dsS; rw [JiB, Jfo, G3, Jcr, h0]; rfl
theorem VU {x : DX} {e : Int} (h : dsE0 x = e) (h0 : (e == 0) = false) (z f : Bool) : dsP x z f = .tup [stP x.s z f, .sc (.int .i64 e)] := by
 have h1 : (dsE0 x == 0) = false := by rw [h]; exact h0
 unfold dsP; rw [JiC h1, Jfp, JtQ, JiA, h, h0]; rfl
theorem JDA {x : DX} (h : dsE0 x = 0) (z f : Bool) : dsP x z f = .tup [stP ⟨x.s.ih, x.s.iN, chD x, chL x, x.s.ver + 1, x.e.h⟩ (chZ x z) (chF x f), .sc (.int .i64 0)] := by
 unfold dsP dsS; rw [JiB, Jfo, G3, Jcr, Jfp, JtQ, JiA, h]; rfl
def Jns : Jz
 | [.st 58 [.st 34 [.sc (.int .i64 ih), .sc (.int .i64 iN)], .sc (.string doc), .ro 42 z f l, .sc (.int .i64 ver), .ar 37 hash], .st 51 [.st 47 [.ro 5 bz bf b, .ar 37 m], .sc (.int .i64 at1), .ro 113 oz of o, .ar 37 h, .ar 37 mc]], [], k =>
  bif sOk ⟨ih, iN, doc, l, ver, hash⟩ && eD ⟨b, m, at1, o, h, mc⟩ then k ⟨.tup [.st 58 [.st 34 [.sc (.int .i64 ih), .sc (.int .i64 iN)], .sc (.string (dsD ⟨⟨ih, iN, doc, l, ver, hash⟩, ⟨b, m, at1, o, h, mc⟩⟩)), .ro 42 (dsZ ⟨⟨ih, iN, doc, l, ver, hash⟩, ⟨b, m, at1, o, h, mc⟩⟩ z) (dsF ⟨⟨ih, iN, doc, l, ver, hash⟩, ⟨b, m, at1, o, h, mc⟩⟩ f) (dsL ⟨⟨ih, iN, doc, l, ver, hash⟩, ⟨b, m, at1, o, h, mc⟩⟩), .sc (.int .i64 (dsV ⟨⟨ih, iN, doc, l, ver, hash⟩, ⟨b, m, at1, o, h, mc⟩⟩)), .ar 37 (dsH ⟨⟨ih, iN, doc, l, ver, hash⟩, ⟨b, m, at1, o, h, mc⟩⟩)], .sc (.int .i64 (dsE ⟨⟨ih, iN, doc, l, ver, hash⟩, ⟨b, m, at1, o, h, mc⟩⟩))], [], []⟩ else none
 | _, _, _ => none
def JJP : Sig := { own := [], run := Jns }
theorem JDB (x : DX) (z f bz bf oz of : Bool) (hs : sOk x.s = true) (he : eD x.e = true) (k : KR) :
  g24 0 x.s.ih x.s.iN x.s.doc z f x.s.l x.s.ver x.s.hash bz bf x.e.b x.e.m x.e.at1 oz of x.e.o x.e.h x.e.mc k = k ⟨dsP x z f, [], []⟩ := by
 obtain ⟨s1, s2, s3, s4, s5, s6⟩ := Ys.1 hs
 obtain ⟨e1, e2, e3, e4⟩ := Jcs.1 he
 have hbl : Nat.ble x.e.b.length 1000000000 = true := by have := (Xd.1 e2).2.1; rw [Nat.ble_eq]; show x.e.b.length <= _; have : x.e.b.length <= 65535 := this; omega
 have hev : EV.mk x.e.b x.e.m x.e.at1 x.e.o = ZI x.e := rfl
 have hau : AV.mk (dF 0 x.e.b) (dF 1 x.e.b) = auA x.e.b := rfl
 have hwh : AV.mk (dF 5 x.e.b) (dF 6 x.e.b) = whA x.e.b := rfl
 have w1 : IntKind.i64.wrap (x.s.ver + 1) = x.s.ver + 1 := wrap_i64 (by omega) (by omega)
 unfold g24 Jfn X6 W8 We
 simp only [hev, hau, hwh, w1]
 have hnl : (pu .u8 (nxP ⟨x.s.hash, ZI x.e⟩)).length = 32 := by rw [JI]; exact Zv _
 have HP : ∀ (A B : OR), (bif h32 x.s.hash && eOk (ZI x.e) then bif decide (x.e.h.length = 32) && decide ((pu .u8 (nxP ⟨x.s.hash, ZI x.e⟩)).length = 32) && Jl .u8 x.e.h && Jl .u8 (pu .u8 (nxP ⟨x.s.hash, ZI x.e⟩)) && true then bif !J3 x.e.h (pu .u8 (nxP ⟨x.s.hash, ZI x.e⟩)) then A else B else none else none) = bif !J3 x.e.h (pu .u8 (nxP ⟨x.s.hash, ZI x.e⟩)) then A else B := fun A B =>
  (Ja (by rw [s2, e2]; rfl)).trans (Ja (by rw [(h32_iff.1 e4).1, (h32_iff.1 e4).2, hnl, JO]; rfl))
 refine (Ja (by rw [e1, hbl]; rfl)).trans ?_
 cases h1 : (dE x.e.b != 0) with
 | true => exact (Ja rfl).trans (by rw [VU (e := dE x.e.b) (Ja h1) (by simpa [bne] using h1)]; rfl)
 | false =>
 refine (Jd rfl).trans ?_
 cases h2 : (x.e.at1 != x.s.ver) with
 | true => exact (Ja rfl).trans (by rw [VU (e := 15) ((Jd h1).trans (Ja h2)) rfl]; rfl)
 | false =>
 refine (Jd rfl).trans ?_
 cases h3 : decide (dF 3 x.e.b > x.s.ver) with
 | true => exact (Ja rfl).trans (by rw [VU (e := 15) ((Jd h1).trans ((Jd h2).trans (Ja h3))) rfl]; rfl)
 | false =>
 refine (Jd rfl).trans ((Ja s1).trans ?_)
 cases h4 : (!hasP ⟨x.s.l, auA x.e.b⟩) with
 | true => exact (Ja rfl).trans (by rw [VU (e := 13) ((Jd h1).trans ((Jd h2).trans ((Jd h3).trans (Ja h4)))) rfl]; rfl)
 | false =>
 refine (Jd rfl).trans ?_
 have pre : ∀ {r : Int}, (bif chE x != 0 then chE x else bif !J3 x.e.h (pu .u8 (nxP ⟨x.s.hash, ZI x.e⟩)) then 16 else 0) = r -> dsE0 x = r := fun h => (Jd h1).trans ((Jd h2).trans ((Jd h3).trans ((Jd h4).trans h)))
 have bad : ∀ {r : Int}, chE x = r -> (r != 0) = true -> dsP x z f = .tup [stP x.s z f, .sc (.int .i64 r)] := fun {r} h h0 => VU (pre ((Ja (by rw [h]; exact h0)).trans h)) (by simpa [bne] using h0) z f
 have fin : chE x = 0 -> (bif !J3 x.e.h (pu .u8 (nxP ⟨x.s.hash, ZI x.e⟩)) then k ⟨.tup [stP x.s z f, .sc (.int .i64 16)], [], []⟩ else k ⟨.tup [stP ⟨x.s.ih, x.s.iN, chD x, chL x, x.s.ver + 1, x.e.h⟩ (chZ x z) (chF x f), .sc (.int .i64 0)], [], []⟩) = k ⟨dsP x z f, [], []⟩ := fun h => by
  cases h6 : (!J3 x.e.h (pu .u8 (nxP ⟨x.s.hash, ZI x.e⟩))) with
  | true => rw [VU (pre ((Jd (by rw [h]; rfl)).trans (Ja h6))) rfl]; rfl
  | false => rw [JDA (pre ((Jd (by rw [h]; rfl)).trans (Jd h6)))]; rfl
 cases h5 : (dF 4 x.e.b == 1) with
 | true =>
  refine (Ja rfl).trans ((Ja e3).trans ?_)
  cases hc : (ckO x.e.o == 0) with
  | false =>
   have hE : chE x = ckO x.e.o := (Ja h5).trans (Jd hc)
   have hn : (ckO x.e.o != 0) = true := by simpa [bne] using hc
   refine (Jd rfl).trans ((Ja hn).trans ?_)
   rw [bad hE hn]; rfl
  | true =>
   refine (Ja rfl).trans ((Ja (Jnb e3 (by simpa using hc))).trans ?_)
   have hE : chE x = apE ⟨x.s.doc, x.e.o⟩ := (Ja h5).trans (Ja hc)
   cases ha : (apE ⟨x.s.doc, x.e.o⟩ != 0) with
   | true => refine (Ja rfl).trans ?_; rw [bad hE ha]; rfl
   | false =>
    have cd : chD x = apD ⟨x.s.doc, x.e.o⟩ := Ja h5
    have cl : chL x = x.s.l := Ja h5
    have cz : chZ x z = z := Ja h5
    have cf : chF x f = f := Ja h5
    refine (Jd rfl).trans ((HP _ _).trans (Eq.trans ?_ (fin (hE.trans (by simpa [bne] using ha)))))
    rw [cd, cl, cz, cf]; rfl
 | false =>
  refine (Jd rfl).trans ?_
  have cd : chD x = x.s.doc := Jd h5
  cases h6 : decide (zi x.e.o.length > 0) with
  | true =>
   have hE : chE x = 1 := (Jd h5).trans (Ja h6)
   refine (Ja rfl).trans ?_; rw [bad hE rfl]; rfl
  | false =>
   refine (Jd rfl).trans ?_
   cases h7 : (dF 4 x.e.b == 2) with
   | true =>
    have hE : chE x = adE ⟨x.s.l, whA x.e.b⟩ := (Jd h5).trans ((Jd h6).trans (Ja h7))
    refine (Ja rfl).trans ((Ja s1).trans ?_)
    cases ha : (adE ⟨x.s.l, whA x.e.b⟩ != 0) with
    | true => refine (Ja rfl).trans ?_; rw [bad hE ha]; rfl
    | false =>
     have cl : chL x = adL ⟨x.s.l, whA x.e.b⟩ := (Jd h5).trans (Ja h7)
     have cz : chZ x z = (adF ⟨x.s.l, whA x.e.b⟩ && z) := (Jd h5).trans (Ja h7)
     have cf : chF x f = (adF ⟨x.s.l, whA x.e.b⟩ && f) := (Jd h5).trans (Ja h7)
     refine (Jd rfl).trans ((HP _ _).trans (Eq.trans ?_ (fin (hE.trans (by simpa [bne] using ha)))))
     rw [cd, cl, cz, cf]; rfl
   | false =>
    have hE : chE x = rmE ⟨x.s.l, whA x.e.b⟩ := (Jd h5).trans ((Jd h6).trans (Jd h7))
    refine (Jd rfl).trans ((Ja s1).trans ?_)
    cases ha : (rmE ⟨x.s.l, whA x.e.b⟩ != 0) with
    | true => refine (Ja rfl).trans ?_; rw [bad hE ha]; rfl
    | false =>
     have cl : chL x = rmL ⟨x.s.l, whA x.e.b⟩ := (Jd h5).trans (Jd h7)
     have cz : chZ x z = rmZ ⟨x.s.l, whA x.e.b⟩ z := (Jd h5).trans (Jd h7)
     have cf : chF x f = rmF ⟨x.s.l, whA x.e.b⟩ f := (Jd h5).trans (Jd h7)
     refine (Jd rfl).trans ((HP _ _).trans (Eq.trans ?_ (fin (hE.trans (by simpa [bne] using ha)))))
     rw [cd, cl, cz, cf]; rfl
theorem JJQ : Jc tau Try.prog 24 JJP := JNZ.of fun xs es k res hr => by
 change Jns xs es k = some res at hr
 unfold Jns at hr
 split at hr
 · rename_i ih iN doc z f l ver hash bz bf b m at1 oz of o h mc
   obtain ⟨hc, hr⟩ := Jv hr
   rw [Bool.and_eq_true] at hc
   exact (JDB ⟨⟨ih, iN, doc, l, ver, hash⟩, ⟨b, m, at1, o, h, mc⟩⟩ z f bz bf oz of hc.1 hc.2 k).trans hr
 · cases hr
theorem Jxf {x : PH} (h : uOk x.l = true) : uOk (adL x) = true := by
 rw [Jco]
 cases he : (JbJ x == 0) with
 | false => exact h
 | true =>
  rw [cond_true]
  refine List.all_eq_true.2 fun q hq => ?_
  rcases JbK hq with rfl | hq
  · unfold JbJ at he
    cases hu : inA [x.a.d, 2, x.a.u, 7] with
    | false => rw [hu] at he; exact absurd (show false = true from he) (by decide)
    | true => exact hu
  · exact List.all_eq_true.1 h q hq
theorem Jxg {x : PH} (h : uOk x.l = true) : uOk (rmL x) = true := by
 rw [Jcp]
 cases hasL x.l x.a with
 | false => exact h
 | true => exact List.all_eq_true.2 fun q hq => List.all_eq_true.1 h q (List.mem_filter.1 hq).1
theorem Jpz {x : DX} (hs : sOk x.s = true) (he : eD x.e = true) (hv : x.s.ver < 1000000) : sOk (dsS x) = true := by
 cases h : (dsE0 x == 0) with
 | false => rw [JiC h]; exact hs
 | true =>
  obtain ⟨s1, s2, s3, s4, s5, s6⟩ := Ys.1 hs
  obtain ⟨e1, e2, e3, e4⟩ := Jcs.1 he
  have hE : dsE0 x = 0 := by simpa using h
  unfold dsS
  rw [JiB, Jfo, G3, Jcr, h]
  refine Ys.2 ⟨?_, e4, by show 0 <= x.s.ver + 1; omega, by show x.s.ver + 1 <= 1000000; omega, ?_, ?_⟩
  rotate_left 2
  · show uOk (chL x) = true
    unfold chL
    cases dF 4 x.e.b == 1 with
    | true => exact s6
    | false =>
     cases dF 4 x.e.b == 2 with
     | true => exact Jxf (x := ⟨x.s.l, whA x.e.b⟩) s6
     | false => exact Jxg (x := ⟨x.s.l, whA x.e.b⟩) s6
  · show pOk (chL x) = true
    unfold chL
    cases dF 4 x.e.b == 1 with
    | true => exact s1
    | false =>
     cases dF 4 x.e.b == 2 with
     | true => exact Jxc (x := ⟨x.s.l, whA x.e.b⟩) s1
     | false => exact Jxd (x := ⟨x.s.l, whA x.e.b⟩) s1
  · show (chD x).size <= 120
    unfold chD
    cases h5 : (dF 4 x.e.b == 1) with
    | false => exact s5
    | true =>
     show (apD ⟨x.s.doc, x.e.o⟩).size <= 120
     cases hc : (ckO x.e.o == 0) with
     | true => exact JtB (x := ⟨x.s.doc, x.e.o⟩) (Jnb e3 (by simpa using hc))
     | false =>
      have hn : ckO x.e.o ≠ 0 := by simpa using hc
      have hE2 : chE x = ckO x.e.o := (Ja h5).trans (Jd hc)
      exfalso
      unfold dsE0 at hE
      rw [hE2] at hE
      cases h1 : (dE x.e.b != 0) with
      | true => rw [h1] at hE; rw [show dE x.e.b = 0 from hE] at h1; exact absurd h1 (by decide)
      | false =>
       rw [h1] at hE
       cases h2 : (x.e.at1 != x.s.ver) with
       | true => rw [h2] at hE; exact absurd (show (15 : Int) = 0 from hE) (by decide)
       | false =>
        rw [h2] at hE
        cases h3 : decide (dF 3 x.e.b > x.s.ver) with
        | true => rw [h3] at hE; exact absurd (show (15 : Int) = 0 from hE) (by decide)
        | false =>
         rw [h3] at hE
         cases h4 : (!hasP ⟨x.s.l, auA x.e.b⟩) with
         | true => rw [h4] at hE; exact absurd (show (13 : Int) = 0 from hE) (by decide)
         | false =>
          rw [h4] at hE
          have hE : (bif ckO x.e.o != 0 then ckO x.e.o else bif !J3 x.e.h (pu .u8 (nxP ⟨x.s.hash, ZI x.e⟩)) then 16 else 0) = 0 := hE
          rw [show (ckO x.e.o != 0) = true from by simpa [bne] using hn] at hE
          exact hn hE
-- FN wavelet.Same | law13.known
structure SW where
 (a b : SV)
def JbL : SW -> Bool := hid fun x => (x.a.ih == x.b.ih && (x.a.iN == x.b.iN && true)) && (XN x.a.doc x.b.doc && (Jh8 ⟨x.a.l, x.b.l⟩ && (x.a.ver == x.b.ver && J3 x.a.hash x.b.hash)))
theorem Jfq (x : SW) : JbL x = ((x.a.ih == x.b.ih && (x.a.iN == x.b.iN && true)) && (XN x.a.doc x.b.doc && (Jh8 ⟨x.a.l, x.b.l⟩ && (x.a.ver == x.b.ver && J3 x.a.hash x.b.hash)))) := by rw [JbL, hid_eq]
def wOk : SV -> Bool := hid fun s => Zh s.l && h32 s.hash
theorem VV {s : SV} : wOk s = true ↔ Zh s.l = true /\ h32 s.hash = true := by rw [wOk, hid_eq, Bool.and_eq_true]
def Jnt : Jz
 | [.st 39 [.st 34 [.sc (.int .i64 ih), .sc (.int .i64 iN)], .sc (.string doc), .ro 42 z f l, .sc (.int .i64 ver), .ar 37 hash], .st 39 [.st 34 [.sc (.int .i64 ih2), .sc (.int .i64 iN2)], .sc (.string doc2), .ro 42 z2 f2 l2, .sc (.int .i64 ver2), .ar 37 hash2]], [], k =>
  bif wOk ⟨ih, iN, doc, l, ver, hash⟩ && wOk ⟨ih2, iN2, doc2, l2, ver2, hash2⟩ then k ⟨.sc (.bool (JbL ⟨⟨ih, iN, doc, l, ver, hash⟩, ⟨ih2, iN2, doc2, l2, ver2, hash2⟩⟩)), [], []⟩ else none
 | _, _, _ => none
def JJR : Sig := { own := [], run := Jnt }
theorem JJS : Jc tau Try.prog 25 JJR := JMX.of fun xs es k res hr => by
 change Jnt xs es k = some res at hr
 unfold Jnt at hr
 split at hr
 · rename_i ih iN doc z f l ver hash ih2 iN2 doc2 z2 f2 l2 ver2 hash2
   obtain ⟨hc, hr⟩ := Jv hr
   rw [Bool.and_eq_true, VV, VV, h32_iff, h32_iff] at hc
   obtain ⟨⟨a1, a2, a3⟩, b1, b2, b3⟩ := hc
   refine Eq.trans ?_ hr
   show g25 0 ih iN doc z f l ver hash ih2 iN2 doc2 z2 f2 l2 ver2 hash2 k = _
   rw [Jfq]
   unfold g25
   simp only [a1, a2, a3, b1, b2, b3, decide_true, Bool.and_true, Bool.and_self, cond_true]
   cases (ih == ih2 && iN == iN2) <;> cases (XN doc doc2) <;> cases (Jh8 ⟨l, l2⟩) <;> cases (ver == ver2) <;> rfl
 · cases hr
def JtR : Jz
 | [], [], k => k ⟨.sc (.bool true), [], []⟩
 | _, _, _ => none
def s9' : Sig := { own := [], run := JtR }
theorem JN3 : Jc tau Try.prog 9 s9' := ok9.of fun xs es k res hr => by
 change JtR xs es k = some res at hr
 unfold JtR at hr
 split at hr
 · refine Eq.trans ?_ hr
   show g9 0 _ = _
   unfold g9
   exact Ja (by rw [Vj, hid_eq]; rfl)
 · cases hr
def F10 : Fns := F0
theorem JDC : Jq tau Try.prog F10 := Js
def JDD : An := (.seq .leaf (.seq .leaf .leaf))
def g10 (f : Nat) (l_z l_f : Bool) (l : List PV) (k : KR) : OR := k (Res.mk (.sc (.bool (decide (zi l.length <= 25)))) [] [])
theorem e10 (f : Nat) (l_z l_f : Bool) (l : List PV) (k : KR) : JJ tau F10 Try.f10 (Try.f10.body.get!) JDD [.ro] 0 [.ro 69 l_z l_f l] [] k = g10 f l_z l_f l k := by kernel_rfl
theorem JN4 (f : Nat) : ∀ q ∈ Jf (Try.f10.body.get!) JDD, q.Ok tau Try.prog 0 := Jw (by kernel_rfl)
theorem JJT : Try.prog.funcs[10]? = some Try.f10 := by kernel_rfl
theorem JJU : Try.f10.body = some (Try.f10.body.get!) := by kernel_rfl
theorem JN5 : Enters Try.prog 10 := enters_of JJT (by kernel_rfl) JJU
def JtS : Jz
 | [.ro 69 l_z l_f l], [], k => g10 0 l_z l_f l k
 | _, _, _ => none
def s10 : Sig := { own := [], run := JtS }
theorem JN6 : Jc tau Try.prog 10 s10 := JN Jn JDC Jo JJT JJU JDD [.ro] 0 [] JtS (JN4 0) fun xs es k res hr => by
 unfold JtS at hr
 split at hr
 · exact ⟨rfl, 0, (e10 0 _ _ _  _).trans hr⟩
 · cases hr
def F86 : Fns := F0
theorem JDE : Jq tau Try.prog F86 := Js
def JDF : An := (.seq .leaf (.seq (.seq .leaf (.cond (.seq .leaf .leaf) .leaf)) (.seq .leaf .leaf)))
def g86 (f : Nat) (s_z s_f : Bool) (s : List PV) (k : KR) : OR := bif s_z then k (Res.mk (.ro 42 true true []) [] []) else bif Je (0 + s.length) 16 && true then k (Res.mk (.ow 42 16 [] 0 (0 + s.length) none) [] [.vec false 42 false s]) else none
theorem e86 (f : Nat) (s_z s_f : Bool) (s : List PV) (k : KR) : JJ tau F86 Try.f86 (Try.f86.body.get!) JDF [] 0 [.ro 42 s_z s_f s] [] k = g86 f s_z s_f s k := by kernel_rfl
theorem JN7 (f : Nat) : ∀ q ∈ Jf (Try.f86.body.get!) JDF, q.Ok tau Try.prog 0 := Jw (by kernel_rfl)
theorem JJV : Try.prog.funcs[86]? = some Try.f86 := by kernel_rfl
theorem JJW : Try.f86.body = some (Try.f86.body.get!) := by kernel_rfl
theorem JDG : Enters Try.prog 86 := enters_of JJV (by kernel_rfl) JJW
def JtT : Jz
 | [.ro 42 s_z s_f s], [], k => g86 0 s_z s_f s k
 | _, _, _ => none
def s86 : Sig := { own := [], run := JtT }
theorem JDH : Jc tau Try.prog 86 s86 := JN Jn JDE Jo JJV JJW JDF [] 0 [] JtT (JN7 0) fun xs es k res hr => by
 unfold JtT at hr
 split at hr
 · exact ⟨rfl, 0, (e86 0 _ _ _  _).trans hr⟩
 · cases hr
def F38 : Fns := Jt 86 s86 (F0)
theorem JDI : Jq tau Try.prog F38 := (Js).add JDH JDG
def JDJ : An := (.seq .leaf (.seq .leaf (.seq .leaf .leaf)))
def g38 (f : Nat) (y0 y1 : Int) (y2 : ByteArray) (y3 y4 : Bool) (y5 : List PV) (y6 : Int) (y7 : List PV) (k : KR) : OR := bif y3 then k (Res.mk (.st 39 [.st 34 [.sc (.int .i64 y0), .sc (.int .i64 y1)], .sc (.string y2), .ro 42 true true [], .sc (.int .i64 y6), .ar 37 y7]) [] []) else bif Je (0 + y5.length) 16 && true then k (Res.mk (.st 39 [.st 34 [.sc (.int .i64 y0), .sc (.int .i64 y1)], .sc (.string y2), .ro 42 false false (List.take (0 + y5.length) y5), .sc (.int .i64 y6), .ar 37 y7]) [] []) else none
theorem e38 (f : Nat) (y0 y1 : Int) (y2 : ByteArray) (y3 y4 : Bool) (y5 : List PV) (y6 : Int) (y7 : List PV) (k : KR) : JJ tau F38 Try.f38 (Try.f38.body.get!) JDJ [.ro] 0 [.st 39 [.st 34 [.sc (.int .i64 y0), .sc (.int .i64 y1)], .sc (.string y2), .ro 42 y3 y4 y5, .sc (.int .i64 y6), .ar 37 y7]] [] k = g38 f y0 y1 y2 y3 y4 y5 y6 y7 k := by kernel_rfl
theorem JN8 (f : Nat) : ∀ q ∈ Jf (Try.f38.body.get!) JDJ, q.Ok tau Try.prog 0 := Jw (by kernel_rfl)
theorem JJX : Try.prog.funcs[38]? = some Try.f38 := by kernel_rfl
theorem JJY : Try.f38.body = some (Try.f38.body.get!) := by kernel_rfl
theorem JN9 : Enters Try.prog 38 := enters_of JJX (by kernel_rfl) JJY
def JtU : Jz
 | [.st 39 [.st 34 [.sc (.int .i64 y0), .sc (.int .i64 y1)], .sc (.string y2), .ro 42 y3 y4 y5, .sc (.int .i64 y6), .ar 37 y7]], [], k => g38 0 y0 y1 y2 y3 y4 y5 y6 y7 k
 | _, _, _ => none
def s38 : Sig := { own := [], run := JtU }
theorem JOa : Jc tau Try.prog 38 s38 := JN Jn JDI Jo JJX JJY JDJ [.ro] 0 [] JtU (JN8 0) fun xs es k res hr => by
 unfold JtU at hr
 split at hr
 · exact ⟨rfl, 0, (e38 0 _ _ _ _ _ _ _ _  _).trans hr⟩
 · cases hr
def JJZ : Fns := F0
theorem Jxh : Jq tau Try.prog JJZ := Js
def JtV : An := (.seq .leaf (.seq .leaf .leaf))
def Jxi (f : Nat) (a_D a_U : Int) (k : KR) : OR := bif decide (a_D >= 0) then bif decide (a_D < 3) then bif decide (a_U >= 0) then k (Res.mk (.sc (.bool (decide (a_U < 8)))) [] []) else k (Res.mk (.sc (.bool false)) [] []) else k (Res.mk (.sc (.bool false)) [] []) else k (Res.mk (.sc (.bool false)) [] [])
theorem JOb (f : Nat) (a_D a_U : Int) (k : KR) : JJ tau JJZ Try.f128 (Try.f128.body.get!) JtV [.ro] 0 [.st 42 [.sc (.int .i64 a_D), .sc (.int .i64 a_U)]] [] k = Jxi f a_D a_U k := by kernel_rfl
theorem JJ0 (f : Nat) : ∀ q ∈ Jf (Try.f128.body.get!) JtV, q.Ok tau Try.prog 0 := Jw (by kernel_rfl)
theorem JzJ : Try.prog.funcs[128]? = some Try.f128 := by kernel_rfl
theorem JzK : Try.f128.body = some (Try.f128.body.get!) := by kernel_rfl
theorem JJ1 : Enters Try.prog 128 := enters_of JzJ (by kernel_rfl) JzK
def Jnu : Jz
 | [.st 42 [.sc (.int .i64 a_D), .sc (.int .i64 a_U)]], [], k => Jxi 0 a_D a_U k
 | _, _, _ => none
def JOc : Sig := { own := [], run := Jnu }
theorem JJ2 : Jc tau Try.prog 128 JOc := JN Jn Jxh Jo JzJ JzK JtV [.ro] 0 [] Jnu (JJ0 0) fun xs es k res hr => by
 unfold Jnu at hr
 split at hr
 · exact ⟨rfl, 0, (JOb 0 _ _  _).trans hr⟩
 · cases hr
def JqB : Nat := 19
def JDK : Fns := F0
theorem JpA : Jq tau Try.prog JDK := Js
def JiD : Code := Qd (Try.f123.body.get!) [1, 0, 1, 0, 0]
def JbM : Nm := [(0, .any), (3, .any), (7, .any), (8, .any)]
def Jdx : Nm := [(4, .any)]
def Jnv : An := (.seq .leaf (.seq (.cond .leaf .leaf) (.seq (.block none (.seq .leaf (.seq .leaf (.cond (.seq .leaf .leaf) .leaf)))) .leaf)))
def JpB (r0 : Qr) : An := (.seq .leaf (.seq (.seq .leaf (.block none (.sum JbM JqB r0))) (.seq .leaf .leaf)))
def Vv (f : Nat) (rc : Bool -> Bool -> List PV -> Int -> Int -> Int -> Int -> OR) (k0 : Int -> OR) (k1 : OR) (v0 v1 : Bool) (v2 : List PV) (v3 v4 v5 v6 : Int) : OR := bif decide (v4 < v3) then bif decide (0 <= v4) && decide (v4 < zi v2.length) && (PV.isSt 42 #[Field.mk "D" 3 0 false "" "" 0, Field.mk "U" 3 1 false "" "" 8].size (v2.getD v4.toNat PV.top) && (PV.isInt IntKind.i64 (PV.child 0 (v2.getD v4.toNat PV.top)) && (PV.isInt IntKind.i64 (PV.child (0 + 1) (v2.getD v4.toNat PV.top)) && true))) && true then bif v5 == (PV.child 0 (v2.getD v4.toNat PV.top)).int && (v6 == (PV.child (0 + 1) (v2.getD v4.toNat PV.top)).int && true) then k0 v4 else rc v0 v1 v2 v3 (IntKind.i64.wrap (v4 + 1)) v5 v6 else none else k1
def Zz (f : Nat) (k0 : Int -> OR) (k1 : OR) : Nat -> Bool -> Bool -> List PV -> Int -> Int -> Int -> Int -> OR
 | 0, _, _, _, _, _, _, _ => none
 | n + 1, v0, v1, v2, v3, v4, v5, v6 => Vv f (Zz f k0 k1 n) k0 k1 v0 v1 v2 v3 v4 v5 v6
def VW (k : Kont) := fun x0 => k Ex.ret (Ji Jdx JqB [.sc (.int .i64 x0)] [])
def VX (k : Kont) := k (Ex.exit 0) (Ji Jdx JqB [PV.top] [])
def JiE (f : Nat) (k : Kont) (n : Nat) (v0 v1 : Bool) (v2 : List PV) (v3 v4 v5 v6 : Int) : OR := Jy tau 0 JbM (fun s k => ev tau JDK 0 0 JiD (Jnv ) s k) n (Ji JbM JqB [.ro 42 v0 v1 v2, .ptr 320 [], .sc (.int .i64 v3), .sc (.int .i64 v4)] [(320, .box false 42 (PV.st 42 [.sc (.int .i64 v5), .sc (.int .i64 v6)]))]) (JG tau 0 Jdx k)
theorem JtW (f : Nat) (k : Kont) (n : Nat) (v0 v1 : Bool) (v2 : List PV) (v3 v4 v5 v6 : Int) : JiE f k (n + 1) v0 v1 v2 v3 v4 v5 v6 = Vv f (JiE f k n) (VW k) (VX k) v0 v1 v2 v3 v4 v5 v6 := by kernel_rfl
theorem Jki (f : Nat) (k : Kont) : ∀ (n : Nat) (v0 v1 : Bool) (v2 : List PV) (v3 v4 v5 v6 : Int), JiE f k n v0 v1 v2 v3 v4 v5 v6 = Zz f (VW k) (VX k) n v0 v1 v2 v3 v4 v5 v6 | 0, _, _, _, _, _, _, _ => rfl | n + 1, v0, v1, v2, v3, v4, v5, v6 => (JtW f k n v0 v1 v2 v3 v4 v5 v6).trans (congrArg (fun r => Vv f r (VW k) (VX k) v0 v1 v2 v3 v4 v5 v6) (by funext v0 v1 v2 v3 v4 v5 v6; exact Jki f k n v0 v1 v2 v3 v4 v5 v6))
def G4 (f : Nat) : List PV -> List (Nat × Ent) -> Kont -> OR
 | [.ro 42 v0 v1 v2, .ptr 320 [], .sc (.int .i64 v3),
 PV.sc
  (Value.int IntKind.i64
   v4)], [(320,
  Ent.box false 42
   (PV.st 42
    [.sc (.int .i64 v5),
     PV.sc
      (Value.int IntKind.i64
       v6)]))], k => Zz f (VW k) (VX k) f v0 v1 v2 v3 v4 v5 v6
 | _, _, _ => none
theorem Jxj (f : Nat) : Jf JiD Jnv = [] := by kernel_rfl
theorem Jxk (f : Nat) : (Item.l JiD JbM JqB (G4 f)).Ok tau Try.prog 0 := Ju Jn JpA Jo (x := Jnv) (nm2 := Jdx) (Jk _ _ (by rw [Jxj f]; intro q hq; cases hq)) fun vs hp k res hr => by
 unfold G4 at hr
 split at hr
 · exact ⟨f, 0, (Jki f _ f _ _ _ _ _ _ _ ).trans hr⟩
 · cases hr
def JDL (f : Nat) (s_z s_f : Bool) (s : List PV) (v_D v_U : Int) (k : KR) : OR := Zz f (fun x0_0 => k (Res.mk (.sc (.int .i64 x0_0)) [] [])) (k (Res.mk (.sc (.int .i64 (-1))) [] [])) f s_z s_f s (zi s.length) (0) v_D v_U
theorem JOd (f : Nat) (s_z s_f : Bool) (s : List PV) (v_D v_U : Int) (k : KR) : JJ tau JDK Try.f123 (Try.f123.body.get!) (JpB (G4 f)) [.ro] 0 [.ro 42 s_z s_f s, .st 42 [.sc (.int .i64 v_D), .sc (.int .i64 v_U)]] [] k = JDL f s_z s_f s v_D v_U k := by kernel_rfl
theorem JJ3 (f : Nat) : Jf (Try.f123.body.get!) (JpB (G4 f)) = [.l JiD JbM JqB (G4 f)] := by kernel_rfl
theorem JJ4 (f : Nat) : ∀ q ∈ Jf (Try.f123.body.get!) (JpB (G4 f)), q.Ok tau Try.prog 0 := by rw [JJ3 f]; exact JL (Jxk f) (fun _ h => nomatch h)
theorem JzL : Try.prog.funcs[123]? = some Try.f123 := by kernel_rfl
theorem JzM : Try.f123.body = some (Try.f123.body.get!) := by kernel_rfl
theorem JJ5 : Enters Try.prog 123 := enters_of JzL (by kernel_rfl) JzM
def JtX : Nat := 53
def JDM : Fns := F0
theorem JpC : Jq tau Try.prog JDM := Js
def Jfr : Code := Qd (Try.f127.body.get!) [1, 0]
def JbN : Nm := [(0, .any), (3, .any), (6, .any)]
def JiF : Nm := [(4, .any), (5, .any)]
def JiG : An := (.seq .leaf (.seq .leaf (.seq (.block none (.seq .leaf (.cond (.seq .leaf .leaf) (.seq .leaf (.cond (.seq .leaf .leaf) .leaf))))) (.seq .leaf .leaf))))
def JpD (r0 : Jrc) : An := (.seq .leaf (.ssum JbN JtX (JiG) r0))
abbrev QC (v2 : List PV) (v3 : Int) := (PV.isSt 42 #[Field.mk "D" 3 0 false "" "" 0, Field.mk "U" 3 1 false "" "" 8].size (v2.getD v3.toNat PV.top) && (PV.isInt IntKind.i64 (PV.child 0 (v2.getD v3.toNat PV.top)) && (PV.isInt IntKind.i64 (PV.child (0 + 1) (v2.getD v3.toNat PV.top)) && true)))
def WH (f : Nat) (rc : Bool -> Bool -> List PV -> Int -> Int -> Int -> OR) (k0 : Int -> Bool -> OR) (v0 v1 : Bool) (v2 : List PV) (v3 v4 v5 : Int) : OR := bif v3 == zi v2.length then k0 v3 false else bif decide (0 <= v3) && decide (v3 < zi v2.length) && (QC v2 v3) && true then bif decide ((PV.child 0 (v2.getD v3.toNat PV.top)).int > v4) then k0 v3 false else bif decide (0 <= v3) && decide (v3 < zi v2.length) && (QC v2 v3) && true then bif (PV.child 0 (v2.getD v3.toNat PV.top)).int == v4 then bif decide (0 <= v3) && decide (v3 < zi v2.length) && (QC v2 v3) && true then bif decide ((PV.child (0 + 1) (v2.getD v3.toNat PV.top)).int > v5) then k0 v3 false else bif decide (0 <= v3) && decide (v3 < zi v2.length) && (QC v2 v3) && true then bif (PV.child 0 (v2.getD v3.toNat PV.top)).int == v4 && ((PV.child (0 + 1) (v2.getD v3.toNat PV.top)).int == v5 && true) then k0 v3 true else rc v0 v1 v2 (IntKind.i64.wrap (v3 + 1)) v4 v5 else none else none else bif decide (0 <= v3) && decide (v3 < zi v2.length) && (QC v2 v3) && true then bif (PV.child 0 (v2.getD v3.toNat PV.top)).int == v4 && ((PV.child (0 + 1) (v2.getD v3.toNat PV.top)).int == v5 && true) then k0 v3 true else rc v0 v1 v2 (IntKind.i64.wrap (v3 + 1)) v4 v5 else none else none else none
def Xe (f : Nat) (k0 : Int -> Bool -> OR) : Nat -> Bool -> Bool -> List PV -> Int -> Int -> Int -> OR
 | 0, _, _, _, _, _, _ => none
 | n + 1, v0, v1, v2, v3, v4, v5 => WH f (Xe f k0 n) k0 v0 v1 v2 v3 v4 v5
def VY (k : Kont) := fun x0 x1 => k Ex.ret (Ji JiF JtX [.sc (.int .i64 x0), .sc (.bool x1)] [])
def JiH (f : Nat) (k : Kont) (n : Nat) (v0 v1 : Bool) (v2 : List PV) (v3 v4 v5 : Int) : OR := QZ tau 0 JbN (hasLabel Jfr) (fun l s k => Qg tau JDM 0 0 Jfr (JiG ) l s k) n 0 (Ji JbN JtX [.ro 42 v0 v1 v2, .ptr 864 [], .sc (.int .i64 v3)] [(864, .box false 42 (PV.st 42 [.sc (.int .i64 v4), .sc (.int .i64 v5)]))]) (JG tau 0 JiF k)
theorem JtY (f : Nat) (k : Kont) (n : Nat) (v0 v1 : Bool) (v2 : List PV) (v3 v4 v5 : Int) : JiH f k (n + 1) v0 v1 v2 v3 v4 v5 = WH f (JiH f k n) (VY k) v0 v1 v2 v3 v4 v5 := by kernel_rfl
theorem Jkj (f : Nat) (k : Kont) : ∀ (n : Nat) (v0 v1 : Bool) (v2 : List PV) (v3 v4 v5 : Int), JiH f k n v0 v1 v2 v3 v4 v5 = Xe f (VY k) n v0 v1 v2 v3 v4 v5 | 0, _, _, _, _, _, _ => rfl | n + 1, v0, v1, v2, v3, v4, v5 => (JtY f k n v0 v1 v2 v3 v4 v5).trans (congrArg (fun r => WH f r (VY k) v0 v1 v2 v3 v4 v5) (by funext v0 v1 v2 v3 v4 v5; exact Jkj f k n v0 v1 v2 v3 v4 v5))
def G5 (f : Nat) : Nat -> List PV -> List (Nat × Ent) -> Kont -> OR
 | 0, [.ro 42 v0 v1 v2, .ptr 864 [],
 PV.sc
  (Value.int IntKind.i64
   v3)], [(864,
  Ent.box false 42
   (PV.st 42
    [.sc (.int .i64 v4),
     .sc (.int .i64 v5)]))], k => Xe f (VY k) f v0 v1 v2 v3 v4 v5
 | _, _, _, _ => none
theorem Jxl (f : Nat) : Jf Jfr JiG = [] := by kernel_rfl
theorem Jxm (f : Nat) : (Item.s Jfr JbN JtX (G5 f)).Ok tau Try.prog 0 := XS Jn JpC Jo (x := JiG) (nm2 := JiF) (Jk _ _ (by rw [Jxl f]; intro q hq; cases hq)) fun l vs hp k res hr => by
 unfold G5 at hr
 split at hr
 · exact ⟨f, 0, (Jkj f _ f _ _ _ _ _ _ ).trans hr⟩
 · cases hr
abbrev VZ (l : List PV) := (PV.isSt 42 #[Field.mk "D" 3 0 false "" "" 0, Field.mk "U" 3 1 false "" "" 8].size (l.getD (Int.toNat 0) PV.top) && (PV.isInt IntKind.i64 (PV.child 0 (l.getD 0 PV.top)) && (PV.isInt IntKind.i64 (PV.child (0 + 1) (l.getD 0 PV.top)) && true)))
abbrev Jdy := (Res.mk (PV.tup [PV.sc (.int .i64 0), PV.sc (.bool false)]) [] [])
def Jxn (f : Nat) (l_z l_f : Bool) (l : List PV) (a_D a_U : Int) (k : KR) : OR := bif 0 == zi l.length then k Jdy else bif decide (0 < zi l.length) && (VZ l) && true then bif decide ((PV.child 0 (l.getD 0 PV.top)).int > a_D) then k Jdy else bif decide (0 < zi l.length) && (VZ l) && true then bif (PV.child 0 (l.getD 0 PV.top)).int == a_D then bif decide (0 < zi l.length) && (VZ l) && true then bif decide ((PV.child (0 + 1) (l.getD 0 PV.top)).int > a_U) then k Jdy else bif decide (0 < zi l.length) && (VZ l) && true then bif (PV.child 0 (l.getD 0 PV.top)).int == a_D && ((PV.child (0 + 1) (l.getD 0 PV.top)).int == a_U && true) then k (Res.mk (.tup [.sc (.int .i64 0), .sc (.bool true)]) [] []) else Xe f (fun x0_0 x1_0 => k (Res.mk (.tup [.sc (.int .i64 x0_0), .sc (.bool x1_0)]) [] [])) f l_z l_f l (IntKind.i64.wrap (0 + 1)) a_D a_U else none else none else bif decide (0 < zi l.length) && (VZ l) && true then bif (PV.child 0 (l.getD 0 PV.top)).int == a_D && ((PV.child (0 + 1) (l.getD 0 PV.top)).int == a_U && true) then k (Res.mk (.tup [.sc (.int .i64 0), .sc (.bool true)]) [] []) else Xe f (fun x0_1 x1_1 => k (Res.mk (.tup [.sc (.int .i64 x0_1), .sc (.bool x1_1)]) [] [])) f l_z l_f l (IntKind.i64.wrap (0 + 1)) a_D a_U else none else none else none
theorem JOe (f : Nat) (l_z l_f : Bool) (l : List PV) (a_D a_U : Int) (k : KR) : JJ tau JDM Try.f127 (Try.f127.body.get!) (JpD (G5 f)) [.ro, .ro] 0 [.ro 42 l_z l_f l, .st 42 [.sc (.int .i64 a_D), .sc (.int .i64 a_U)]] [] k = Jxn f l_z l_f l a_D a_U k := by kernel_rfl
theorem JJ6 (f : Nat) : Jf (Try.f127.body.get!) (JpD (G5 f)) = [.s Jfr JbN JtX (G5 f)] := by kernel_rfl
theorem JJ7 (f : Nat) : ∀ q ∈ Jf (Try.f127.body.get!) (JpD (G5 f)), q.Ok tau Try.prog 0 := by rw [JJ6 f]; exact JL (Jxm f) (fun _ h => nomatch h)
theorem JzN : Try.prog.funcs[127]? = some Try.f127 := by kernel_rfl
theorem JzO : Try.f127.body = some (Try.f127.body.get!) := by kernel_rfl
theorem JzP : Enters Try.prog 127 := enters_of JzN (by kernel_rfl) JzO
-- FN
def G6 (l : List PV) (a : AV) : Bool := Nat.blt (Q3 l a) l.length && eqA (av (l.getD (Q3 l a) .top)) a
theorem Jdz {a : AV} : ltA a a = false := by
 cases h : ltA a a with
 | false => rfl
 | true => rw [Yn] at h; omega
theorem hasL_above {a : AV} : ∀ {l : List PV}, (∀ q ∈ l, ltA a (av q) = true) -> hasL l a = false
 | [], _ => rfl
 | p :: l, h => by
  have h1 : eqA (av p) a = false := by
   cases he : eqA (av p) a with
   | false => rfl
   | true => have := h p List.mem_cons_self; rw [QE.1 he, Jdz] at this; cases this
  have h2 := hasL_above fun q hq => h q (List.mem_cons_of_mem _ hq)
  show (eqA (av p) a || hasL l a) = false
  rw [h1, h2]; rfl
theorem JgL {a : AV} : ∀ {l : List PV}, hasL l a = false -> rmA l a = l
 | [], _ => rfl
 | p :: l, h => by
  have h : (eqA (av p) a || hasL l a) = false := h
  rw [Bool.or_eq_false_iff] at h
  unfold rmA
  rw [List.filter_cons, h.1]
  exact congrArg (p :: ·) (JgL h.2)
theorem YV {a : AV} : ∀ {l : List PV}, srt l = true -> G6 l a = hasL l a
 | [], _ => rfl
 | p :: l, h => by
  obtain ⟨h1, h2⟩ := X5.1 h
  show G6 (p :: l) a = (eqA (av p) a || hasL l a)
  unfold G6
  simp only [Q3]
  cases hc : ltA (av p) a with
  | true =>
   have he : eqA (av p) a = false := by
    cases he : eqA (av p) a with
    | false => rfl
    | true => rw [QE.1 he, Jdz] at hc; cases hc
   have ih := YV (a := a) h2
   unfold G6 at ih
   rw [cond_true, he, Bool.false_or, ← ih, List.getD_cons_succ]
   rfl
  | false =>
   rw [cond_false]
   have hd : Nat.blt 0 (p :: l).length = true := rfl
   rw [hd, Bool.true_and, List.getD_cons_zero]
   cases he : eqA (av p) a with
   | true => rfl
   | false =>
    have hl := JtK hc he
    rw [hasL_above fun q hq => JgJ hl (h1 q hq)]; rfl
theorem JpE {a : AV} : ∀ {l : List PV}, srt l = true -> G6 l a = true -> l.take (Q3 l a) ++ l.drop (Q3 l a + 1) = rmA l a
 | [], _, h => by cases h
 | p :: l, h, hf => by
  obtain ⟨h1, h2⟩ := X5.1 h
  have hf2 := hf
  unfold G6 at hf
  simp only [Q3] at hf ⊢
  cases hc : ltA (av p) a with
  | true =>
   have he : eqA (av p) a = false := by
    cases he : eqA (av p) a with
    | false => rfl
    | true => rw [QE.1 he, Jdz] at hc; cases hc
   have hf' : G6 l a = true := by
    rw [YV h] at hf2
    rw [YV h2]
    have : (eqA (av p) a || hasL l a) = true := hf2
    rwa [he, Bool.false_or] at this
   have ih := JpE h2 hf'
   unfold rmA at ih ⊢
   rw [cond_true, List.take_succ_cons, List.drop_succ_cons, List.filter_cons, he, List.cons_append, ih]; rfl
  | false =>
   rw [hc, cond_false, Bool.and_eq_true] at hf
   have he : eqA (av p) a = true := hf.2
   rw [cond_false, List.take_zero, List.nil_append, List.drop_succ_cons, List.drop_zero]
   have ha := QE.1 he
   have := JgL (a := a) (hasL_above (l := l) fun q hq => by have := h1 q hq; rwa [ha] at this)
   unfold rmA at this ⊢
   rw [List.filter_cons, he]
   exact this.symm
-- FN people.find
theorem JtZ (a b : AV) : eqA a b = eqA b a := by
 cases h : eqA b a with
 | true => exact QE.2 (QE.1 h).symm
 | false =>
  cases h2 : eqA a b with
  | false => rfl
  | true => rw [QE.2 (QE.1 h2).symm] at h; cases h
theorem JqC (p : PV) (l : List PV) (a : AV) : G6 (p :: l) a = bif ltA (av p) a then G6 l a else eqA (av p) a := by
 unfold G6
 simp only [Q3]
 cases ltA (av p) a with
 | true => rfl
 | false => rfl
def V9 : PH -> Int := hid fun x => (Q3 x.l x.a : Int)
def JqD : PH -> Bool := hid fun x => G6 x.l x.a
theorem JiI (x : PH) : V9 x = (Q3 x.l x.a : Int) := by rw [V9, hid_eq]
theorem JiJ (x : PH) : JqD x = G6 x.l x.a := by rw [JqD, hid_eq]
theorem Jt0 (f : Nat) (rc : Bool -> Bool -> List PV -> Int -> Int -> Int -> OR) (k0 : Int -> Bool -> OR) (z fl : Bool) (l : List PV) (d u : Int) : WH f rc k0 z fl l (l.length : Int) d u = k0 (l.length : Int) false := by
 simp only [WH, QC]
 exact Ja (beq_self_eq_true _)
theorem JqE (f : Nat) (rc : Bool -> Bool -> List PV -> Int -> Int -> Int -> OR) (k0 : Int -> Bool -> OR) (z fl : Bool) (l : List PV) (hl : l.all X9 = true) (h2 : l.length <= 1000) (i : Nat) (hi : i < l.length) (d u : Int) :
   WH f rc k0 z fl l (i : Int) d u = bif ltA (av (l.getD i .top)) ⟨d, u⟩ then rc z fl l ((i + 1 : Nat) : Int) d u else k0 (i : Int) (eqA (av (l.getD i .top)) ⟨d, u⟩) := by
 have g1 : ((i : Int)).toNat = i := by omega
 have w1 : IntKind.i64.wrap ((i : Int) + 1) = ((i + 1 : Nat) : Int) := by rw [wrap_i64 (by omega) (by omega)]; omega
 have hc := Wm (Wn hl hi)
 unfold Zg at hc
 simp only [WH, QC, g1, w1]
 generalize l.getD i .top = p at *
 have hr : (decide (0 <= (i : Int)) && decide ((i : Int) < zi l.length) && (PV.isSt 42 #[Field.mk "D" 3 0 false "" "" 0, Field.mk "U" 3 1 false "" "" 8].size p && (PV.isInt IntKind.i64 (PV.child 0 p) && (PV.isInt IntKind.i64 (PV.child (0 + 1) p) && true))) && true) = true := by rw [hc]; simp [zi]; omega
 have e1 : (PV.child 0 p).int = (av p).d := rfl
 have e2 : (PV.child (0 + 1) p).int = (av p).u := rfl
 have e3 : ((av p).d == d && ((av p).u == u && true)) = eqA (av p) ⟨d, u⟩ := rfl
 rw [e1, e2, e3]
 refine (Jd (beq_false_of_ne (by simp only [zi]; omega))).trans ((Ja hr).trans ?_)
 by_cases h1 : (av p).d > d
 · have hlt : ltA (av p) ⟨d, u⟩ = false := Bool.eq_false_iff.2 fun h => by have h := Yn.1 h; simp only at h; omega
   have heq : eqA (av p) ⟨d, u⟩ = false := Bool.eq_false_iff.2 fun h => by have h := QE.1 h; rw [h] at h1; simp only at h1; omega
   rw [hlt, heq]
   exact Ja (decide_eq_true h1)
 refine (Jd (decide_eq_false h1)).trans ((Ja hr).trans ?_)
 by_cases h2 : (av p).d = d
 · refine (Ja (by simpa using h2)).trans ((Ja hr).trans ?_)
   by_cases h3 : (av p).u > u
   · have hlt : ltA (av p) ⟨d, u⟩ = false := Bool.eq_false_iff.2 fun h => by have h := Yn.1 h; simp only at h; omega
     have heq : eqA (av p) ⟨d, u⟩ = false := Bool.eq_false_iff.2 fun h => by have h := QE.1 h; rw [h] at h3; simp only at h3; omega
     rw [hlt, heq]
     exact Ja (decide_eq_true h3)
   · refine (Jd (decide_eq_false h3)).trans ((Ja hr).trans ?_)
     cases he : eqA (av p) ⟨d, u⟩ with
     | true =>
      have hlt : ltA (av p) ⟨d, u⟩ = false := by rw [QE.1 he]; exact Jdz
      rw [hlt]; rfl
     | false =>
      have hlt : ltA (av p) ⟨d, u⟩ = true := Yn.2 (by
       rcases Int.lt_or_le (av p).u u with g | g
       · exact .inr ⟨h2, g⟩
       · exfalso
         have : eqA (av p) ⟨d, u⟩ = true := QE.2 (by
          have : (av p).u = u := by omega
          cases hp : av p with
          | mk x y => rw [hp] at h2 this; simp only at h2 this; rw [h2, this])
         rw [this] at he; cases he)
      rw [hlt]; rfl
 · refine (Jd (by simpa using h2)).trans ((Ja hr).trans ?_)
   have hlt : ltA (av p) ⟨d, u⟩ = true := Yn.2 (.inl (by show (av p).d < d; omega))
   have heq : eqA (av p) ⟨d, u⟩ = false := Bool.eq_false_iff.2 fun h => by have h := QE.1 h; rw [h] at h2; exact h2 rfl
   rw [hlt, heq]; rfl
theorem Jt1 (l : List PV) (hl : l.all X9 = true) (h2 : l.length <= 1000) (d u : Int) (f : Nat) (k0 : Int -> Bool -> OR) (z fl : Bool) : ∀ (e i n : Nat), i + e = l.length -> e < n ->
  Xe f k0 n z fl l (i : Int) d u = k0 ((i + Q3 (l.drop i) ⟨d, u⟩ : Nat) : Int) (G6 (l.drop i) ⟨d, u⟩)
 | 0, i, n + 1, hi, hn => by
   rw [List.drop_of_length_le (by omega)]
   obtain rfl : i = l.length := by omega
   simp only [Xe]
   exact Jt0 f _ k0 z fl l d u
 | e + 1, i, n + 1, hi, hn => by
   simp only [Xe]
   rw [JqE f _ k0 z fl l hl h2 i (by omega) d u, JW (by omega), JqC, Q3]
   cases ltA (av (l.getD i .top)) ⟨d, u⟩ with
   | false => rfl
   | true =>
    simp only [cond_true]
    rw [Jt1 l hl h2 d u f k0 z fl e (i + 1) n (by omega) (by omega)]
    rw [show i + 1 + Q3 (l.drop (i + 1)) ⟨d, u⟩ = i + (Q3 (l.drop (i + 1)) ⟨d, u⟩ + 1) from by omega]
theorem Jxo (f : Nat) (z fl : Bool) (l : List PV) (d u : Int) (k : KR) : Jxn f z fl l d u k = WH f (Xe f (fun x y => k ⟨.tup [.sc (.int .i64 x), .sc (.bool y)], [], []⟩) f) (fun x y => k ⟨.tup [.sc (.int .i64 x), .sc (.bool y)], [], []⟩) z fl l 0 d u := by
 unfold Jxn Jdy VZ WH QC
 rfl
def JiK : Jz
 | [.ro 42 z f l, .st 42 [.sc (.int .i64 d), .sc (.int .i64 u)]], [], k => bif Zh l then k ⟨.tup [.sc (.int .i64 (V9 ⟨l, ⟨d, u⟩⟩)), .sc (.bool (JqD ⟨l, ⟨d, u⟩⟩))], [], []⟩ else none
 | _, _, _ => none
def Jt2 : Sig := { own := [], run := JiK }
theorem Jxp (z f : Bool) (l : List PV) (d u : Int) (h : Zh l = true) (k : KR) : Jxn (l.length + 1) z f l d u k = k ⟨.tup [.sc (.int .i64 (V9 ⟨l, ⟨d, u⟩⟩)), .sc (.bool (JqD ⟨l, ⟨d, u⟩⟩))], [], []⟩ := by
 obtain ⟨h1, h2⟩ := Xm.1 h
 rw [Jxo, JiI, JiJ]
 have := Jt1 l h1 h2 d u (l.length + 1) (fun x y => k ⟨.tup [.sc (.int .i64 x), .sc (.bool y)], [], []⟩) z f l.length 0 (l.length + 1 + 1) (by omega) (by omega)
 simp only [Xe, List.drop_zero, Nat.zero_add] at this
 exact this
theorem Jt3 : Jc tau Try.prog 127 Jt2 := Jc.mk' fun xs es k res hl hr => by
 change JiK xs es k = some res at hr
 unfold JiK at hr
 split at hr
 · rename_i z f l d u
   obtain ⟨hc, hr⟩ := Jv hr
   exact J2 Jn JpC Jo JzN JzO (JpD (G5 (l.length + 1))) [.ro, .ro] 0 0 (JJ7 (l.length + 1)) hl rfl ((JOe (l.length + 1) z f l d u k).trans ((Jxp z f l d u hc k).trans hr))
 · cases hr
-- FN people.user | slices.Index[[]api.Addr,api.Addr]
def Jnw : List PV -> AV -> Nat
 | [], _ => 0
 | p :: ps, a => bif eqA a (av p) then 0 else Jnw ps a + 1
def Jnx : PH -> Int := hid fun x => bif hasL x.l x.a then (Jnw x.l x.a : Int) else -1
theorem JpF (x : PH) : Jnx x = bif hasL x.l x.a then (Jnw x.l x.a : Int) else -1 := by rw [Jnx, hid_eq]
theorem Jt4 (x : PH) : decide (Jnx x >= 0) = hasP x := by
 rw [JpF, hasP_eq]
 cases hasL x.l x.a with
 | true => exact decide_eq_true (Int.natCast_nonneg _)
 | false => rfl
theorem Jt5 (l : List PV) (hl : l.all X9 = true) (h2 : l.length <= 1000) (d u : Int) (f : Nat) (k0 : Int -> OR) (k1 : OR) (z fl : Bool) : ∀ (e i n : Nat), i + e = l.length -> e < n ->
  Zz f k0 k1 n z fl l (zi l.length) (i : Int) d u = bif hasL (l.drop i) ⟨d, u⟩ then k0 ((i + Jnw (l.drop i) ⟨d, u⟩ : Nat) : Int) else k1
 | 0, i, n + 1, hi, hn => by
   rw [List.drop_of_length_le (by omega)]
   simp only [Zz, Vv]
   exact Jd (by simp [zi]; omega)
 | e + 1, i, n + 1, hi, hn => by
   have g1 : ((i : Int)).toNat = i := by omega
   have w1 : IntKind.i64.wrap ((i : Int) + 1) = ((i + 1 : Nat) : Int) := by rw [wrap_i64 (by omega) (by omega)]; omega
   have hc := Wm (Wn hl (i := i) (by omega))
   unfold Zg at hc
   rw [JW (by omega)]
   simp only [Zz, Vv, g1, w1]
   refine (Ja (by simp [zi]; omega)).trans ((Ja (by rw [hc]; simp [zi]; omega)).trans ?_)
   have he : (d == (PV.child 0 (l.getD i PV.top)).int && (u == (PV.child (0 + 1) (l.getD i PV.top)).int && true)) = eqA ⟨d, u⟩ (av (l.getD i .top)) := rfl
   have hh : hasL (l.getD i .top :: l.drop (i + 1)) ⟨d, u⟩ = (eqA ⟨d, u⟩ (av (l.getD i .top)) || hasL (l.drop (i + 1)) ⟨d, u⟩) := by
    rw [JtZ]; rfl
   rw [he, hh, Jnw]
   cases eqA ⟨d, u⟩ (av (l.getD i .top)) with
   | true => rfl
   | false =>
    refine (Jd rfl).trans ((Jt5 l hl h2 d u f k0 k1 z fl e (i + 1) n (by omega) (by omega)).trans ?_)
    rw [Bool.false_or, cond_false, show i + 1 + Jnw (l.drop (i + 1)) ⟨d, u⟩ = i + (Jnw (l.drop (i + 1)) ⟨d, u⟩ + 1) from by omega]
def JiL : Jz
 | [.ro 42 z f l, .st 42 [.sc (.int .i64 d), .sc (.int .i64 u)]], [], k => bif Zh l then k ⟨.sc (.int .i64 (Jnx ⟨l, ⟨d, u⟩⟩)), [], []⟩ else none
 | _, _, _ => none
def JzQ : Sig := { own := [], run := JiL }
theorem Jxq (z f : Bool) (l : List PV) (d u : Int) (h : Zh l = true) (k : KR) : JDL (l.length + 1) z f l d u k = k ⟨.sc (.int .i64 (Jnx ⟨l, ⟨d, u⟩⟩)), [], []⟩ := by
 obtain ⟨h1, h2⟩ := Xm.1 h
 unfold JDL
 rw [JpF]
 refine (Jt5 l h1 h2 d u (l.length + 1) _ _ z f l.length 0 (l.length + 1) (by omega) (by omega)).trans ?_
 rw [List.drop_zero, Nat.zero_add]
 cases hasL l ⟨d, u⟩ <;> rfl
theorem JDN : Jc tau Try.prog 123 JzQ := Jc.mk' fun xs es k res hl hr => by
 change JiL xs es k = some res at hr
 unfold JiL at hr
 split at hr
 · rename_i z f l d u
   obtain ⟨hc, hr⟩ := Jv hr
   exact J2 Jn JpA Jo JzL JzM (JpB (G4 (l.length + 1))) [.ro] 0 0 (JJ4 (l.length + 1)) hl rfl ((JOd (l.length + 1) z f l d u k).trans ((Jxq z f l d u hc k).trans hr))
 · cases hr
def JiM : Jz
 | [.st 42 [.sc (.int .i64 a), .sc (.int .i64 b)]], [], k => k ⟨.sc (.bool (inA [a, 2, b, 7])), [], []⟩
 | _, _, _ => none
def JzR : Sig := { own := [], run := JiM }
theorem JDO : Jc tau Try.prog 128 JzR := JJ2.of fun xs es k res hr => by
 change JiM xs es k = some res at hr
 unfold JiM at hr
 split at hr
 · rename_i a b
   show Jxi 0 a b k = some res
   rw [JjH] at hr
   unfold Jxi
   unfold inZ at hr
   by_cases h1 : a >= 0 <;> by_cases h2 : a < 3 <;> by_cases h3 : b >= 0 <;> by_cases h4 : b < 8 <;> simp [h1, h2, h3, h4, show (a <= 2) ↔ (a < 3) from by omega, show (b <= 7) ↔ (b < 8) from by omega] at hr ⊢ <;> exact hr
 · cases hr
def F87 : Fns := Jt 123 JzQ (F0)
theorem JDP : Jq tau Try.prog F87 := (Js).add JDN JJ5
def JDQ : An := (.seq .leaf (.seq .leaf .leaf))
def g87 (f : Nat) (s_z s_f : Bool) (s : List PV) (v_D v_U : Int) (k : KR) : OR := bif Zh s then k (Res.mk (.sc (.bool (decide (Jnx (PH.mk s (AV.mk v_D v_U)) >= 0)))) [] []) else none
theorem e87 (f : Nat) (s_z s_f : Bool) (s : List PV) (v_D v_U : Int) (k : KR) : JJ tau F87 Try.f87 (Try.f87.body.get!) JDQ [.ro] 0 [.ro 42 s_z s_f s, .st 42 [.sc (.int .i64 v_D), .sc (.int .i64 v_U)]] [] k = g87 f s_z s_f s v_D v_U k := by kernel_rfl
theorem JOf (f : Nat) : ∀ q ∈ Jf (Try.f87.body.get!) JDQ, q.Ok tau Try.prog 0 := Jw (by kernel_rfl)
theorem JJ8 : Try.prog.funcs[87]? = some Try.f87 := by kernel_rfl
theorem JJ9 : Try.f87.body = some (Try.f87.body.get!) := by kernel_rfl
theorem JOg : Enters Try.prog 87 := enters_of JJ8 (by kernel_rfl) JJ9
def Jt6 : Jz
 | [.ro 42 s_z s_f s, .st 42 [.sc (.int .i64 v_D), .sc (.int .i64 v_U)]], [], k => g87 0 s_z s_f s v_D v_U k
 | _, _, _ => none
def s87 : Sig := { own := [], run := Jt6 }
theorem JOh : Jc tau Try.prog 87 s87 := JN Jn JDP Jo JJ8 JJ9 JDQ [.ro] 0 [] Jt6 (JOf 0) fun xs es k res hr => by
 unfold Jt6 at hr
 split at hr
 · exact ⟨rfl, 0, (e87 0 _ _ _ _ _  _).trans hr⟩
 · cases hr
def F39 : Fns := Jt 87 s87 (F0)
theorem JDR : Jq tau Try.prog F39 := (Js).add JOh JOg
def JDS : An := (.seq .leaf (.seq .leaf .leaf))
def g39 (f : Nat) (l_z l_f : Bool) (l : List PV) (a_D a_U : Int) (k : KR) : OR := bif Zh l then k (Res.mk (.sc (.bool (decide (Jnx (PH.mk l (AV.mk a_D a_U)) >= 0)))) [] []) else none
theorem e39 (f : Nat) (l_z l_f : Bool) (l : List PV) (a_D a_U : Int) (k : KR) : JJ tau F39 Try.f39 (Try.f39.body.get!) JDS [.ro] 0 [.ro 42 l_z l_f l, .st 42 [.sc (.int .i64 a_D), .sc (.int .i64 a_U)]] [] k = g39 f l_z l_f l a_D a_U k := by kernel_rfl
theorem JOi (f : Nat) : ∀ q ∈ Jf (Try.f39.body.get!) JDS, q.Ok tau Try.prog 0 := Jw (by kernel_rfl)
theorem JKa : Try.prog.funcs[39]? = some Try.f39 := by kernel_rfl
theorem JKb : Try.f39.body = some (Try.f39.body.get!) := by kernel_rfl
theorem JOj : Enters Try.prog 39 := enters_of JKa (by kernel_rfl) JKb
def Jt7 : Jz
 | [.ro 42 l_z l_f l, .st 42 [.sc (.int .i64 a_D), .sc (.int .i64 a_U)]], [], k => g39 0 l_z l_f l a_D a_U k
 | _, _, _ => none
def s39 : Sig := { own := [], run := Jt7 }
theorem JOk : Jc tau Try.prog 39 s39 := JN Jn JDR Jo JKa JKb JDS [.ro] 0 [] Jt7 (JOi 0) fun xs es k res hr => by
 unfold Jt7 at hr
 split at hr
 · exact ⟨rfl, 0, (e39 0 _ _ _ _ _  _).trans hr⟩
 · cases hr
def JKc : Fns := F0
theorem Jxr : Jq tau Try.prog JKc := Js
def Jt8 : An := (.seq .leaf (.seq (.seq .leaf (.cond .leaf .leaf)) (.seq (.seq .leaf (.seq .leaf (.cond .leaf .leaf))) (.seq .leaf .leaf))))
def JKd (f : Nat) (n : Int) (k : KR) : OR := bif decide (n < 0) then none else bif decide (IntKind.i64.wrap (n - IntKind.i64.wrap (zi 0 - zi 0)) > 0) then bif decide (0 <= IntKind.i64.wrap (n - IntKind.i64.wrap (zi 0 - zi 0))) && Je (IntKind.i64.wrap (n - IntKind.i64.wrap (zi 0 - zi 0))).toNat 16 && true then k (Res.mk (.ow 42 16 [] 0 0 none) [] [.vec false 42 (IntKind.i64.wrap (n - IntKind.i64.wrap (zi 0 - zi 0)) == 0) (List.replicate (IntKind.i64.wrap (n - IntKind.i64.wrap (zi 0 - zi 0))).toNat (PV.st 42 [.sc (.int .i64 0), .sc (.int .i64 0)]))]) else none else k (Res.mk (.ro 42 true true []) [] [])
theorem JOl (f : Nat) (n : Int) (k : KR) : JJ tau JKc Try.f135 (Try.f135.body.get!) Jt8 [] 0 [.ro 42 true true [], .sc (.int .i64 n)] [] k = JKd f n k := by kernel_rfl
theorem JKe (f : Nat) : ∀ q ∈ Jf (Try.f135.body.get!) Jt8, q.Ok tau Try.prog 0 := Jw (by kernel_rfl)
theorem JzS : Try.prog.funcs[135]? = some Try.f135 := by kernel_rfl
theorem JzT : Try.f135.body = some (Try.f135.body.get!) := by kernel_rfl
theorem JKf : Enters Try.prog 135 := enters_of JzS (by kernel_rfl) JzT
def Jny : Jz
 | [.ro 42 true true [], .sc (.int .i64 n)], [], k => JKd 0 n k
 | _, _, _ => none
def JKg : Sig := { own := [], run := Jny }
theorem JKh : Jc tau Try.prog 135 JKg := JN Jn Jxr Jo JzS JzT Jt8 [] 0 [] Jny (JKe 0) fun xs es k res hr => by
 unfold Jny at hr
 split at hr
 · exact ⟨rfl, 0, (JOl 0 _  _).trans hr⟩
 · cases hr
def G7 : Nat := 36
def JqF : Fns := Jt 135 JKg (F0)
theorem JiN : Jq tau Try.prog JqF := (Js).add JKh JKf
def JiO : Code := Qd (Try.f129.body.get!) [1, 1, 0, 1, 0, 0]
def JbO : Nm := [(0, .any), (3, .any), (9, .any), (10, .any), (11, .any)]
def JiP : Nm := [(0, .any), (3, .any)]
def Jnz : An := (.seq .leaf (.seq (.cond .leaf .leaf) (.seq (.block none (.seq .leaf (.seq .leaf (.seq .leaf (.cond .leaf .leaf))))) .leaf)))
def Jct : Code := Qd (Try.f129.body.get!) [1, 1, 1, 1, 0, 1, 0, 0]
def XD : Nm := [(6, .own), (25, .any), (26, .any), (27, .any)]
def Yt : Nm := [(6, .any)]
def Jfs : An := (.seq .leaf (.seq (.cond .leaf .leaf) (.seq (.block none (.seq .leaf .leaf)) .leaf)))
def JpG (r0 : Qr) (r1 : Qr) : An := (.seq .leaf (.seq .leaf (.seq (.seq .leaf (.block none (.sum JbO G7 r0))) (.seq .leaf (.seq (.seq .leaf (.block none (.sum XD G7 r1))) (.seq .leaf .leaf))))))
def Vw (f : Nat) (rc : Bool -> Bool -> List PV -> Int -> Bool -> Bool -> List PV -> Int -> Int -> OR) (k0 : Bool -> Bool -> List PV -> Int -> OR) (v0 v1 : Bool) (v2 : List PV) (v3 : Int) (v4 v5 : Bool) (v6 : List PV) (v7 v8 : Int) : OR := bif decide (v8 < v7) then bif decide (0 <= v8) && decide (v8 < zi v6.length) && PV.isRo 42 (v6.getD v8.toNat PV.top) && true then bif decide (IntKind.i64.wrap (v3 + zi (v6.getD v8.toNat PV.top).els.length) < 0) then none else rc v0 v1 v2 (IntKind.i64.wrap (v3 + zi (v6.getD v8.toNat PV.top).els.length)) v4 v5 v6 v7 (IntKind.i64.wrap (v8 + 1)) else none else k0 v0 v1 v2 v3
def ZA (f : Nat) (k0 : Bool -> Bool -> List PV -> Int -> OR) : Nat -> Bool -> Bool -> List PV -> Int -> Bool -> Bool -> List PV -> Int -> Int -> OR
 | 0, _, _, _, _, _, _, _, _, _ => none
 | n + 1, v0, v1, v2, v3, v4, v5, v6, v7, v8 => Vw f (ZA f k0 n) k0 v0 v1 v2 v3 v4 v5 v6 v7 v8
def V0 (k : Kont) := fun x0 x1 x2 x3 => k (Ex.exit 0) (Ji JiP G7 [.ro 35 x0 x1 x2, .sc (.int .i64 x3)] [])
def JiQ (f : Nat) (k : Kont) (n : Nat) (v0 v1 : Bool) (v2 : List PV) (v3 : Int) (v4 v5 : Bool) (v6 : List PV) (v7 v8 : Int) : OR := Jy tau 0 JbO (fun s k => ev tau JqF 0 0 JiO (Jnz ) s k) n (Ji JbO G7 [.ro 35 v0 v1 v2, .sc (.int .i64 v3), .ro 35 v4 v5 v6, .sc (.int .i64 v7), .sc (.int .i64 v8)] []) (JG tau 0 JiP k)
theorem Jt9 (f : Nat) (k : Kont) (n : Nat) (v0 v1 : Bool) (v2 : List PV) (v3 : Int) (v4 v5 : Bool) (v6 : List PV) (v7 v8 : Int) : JiQ f k (n + 1) v0 v1 v2 v3 v4 v5 v6 v7 v8 = Vw f (JiQ f k n) (V0 k) v0 v1 v2 v3 v4 v5 v6 v7 v8 := by kernel_rfl
theorem Jkk (f : Nat) (k : Kont) : ∀ (n : Nat) (v0 v1 : Bool) (v2 : List PV) (v3 : Int) (v4 v5 : Bool) (v6 : List PV) (v7 v8 : Int), JiQ f k n v0 v1 v2 v3 v4 v5 v6 v7 v8 = ZA f (V0 k) n v0 v1 v2 v3 v4 v5 v6 v7 v8 | 0, _, _, _, _, _, _, _, _, _ => rfl | n + 1, v0, v1, v2, v3, v4, v5, v6, v7, v8 => (Jt9 f k n v0 v1 v2 v3 v4 v5 v6 v7 v8).trans (congrArg (fun r => Vw f r (V0 k) v0 v1 v2 v3 v4 v5 v6 v7 v8) (by funext v0 v1 v2 v3 v4 v5 v6 v7 v8; exact Jkk f k n v0 v1 v2 v3 v4 v5 v6 v7 v8))
def G8 (f : Nat) : List PV -> List (Nat × Ent) -> Kont -> OR
 | [.ro 35 v0 v1 v2, .sc (.int .i64 v3), .ro 35 v4 v5 v6, .sc (.int .i64 v7),
 .sc (.int .i64 v8)], [], k => ZA f (V0 k) f v0 v1 v2 v3 v4 v5 v6 v7 v8
 | _, _, _ => none
theorem Jxs (f : Nat) : Jf JiO Jnz = [] := by kernel_rfl
theorem Jxt (f : Nat) : (Item.l JiO JbO G7 (G8 f)).Ok tau Try.prog 0 := Ju Jn JiN Jo (x := Jnz) (nm2 := JiP) (Jk _ _ (by rw [Jxs f]; intro q hq; cases hq)) fun vs hp k res hr => by
 unfold G8 at hr
 split at hr
 · exact ⟨f, 0, (Jkk f _ f _ _ _ _ _ _ _ _ _ ).trans hr⟩
 · cases hr
def Vx (f : Nat) (rc : Nat -> Bool -> Bool -> List PV -> Int -> Int -> Bool -> List PV -> OR) (k0 : Nat -> Bool -> List PV -> OR) (v0 : Nat) (v1 v2 : Bool) (v3 : List PV) (v4 v5 : Int) (v6 : Bool) (v7 : List PV) : OR := bif decide (v5 < v4) then bif decide (0 <= v5) && decide (v5 < zi v3.length) && PV.isRo 42 (v3.getD v5.toNat PV.top) && true then bif Je (v0 + (v3.getD v5.toNat PV.top).els.length) 16 && true then rc (v0 + (v3.getD v5.toNat PV.top).els.length) v1 v2 v3 v4 (IntKind.i64.wrap (v5 + 1)) (v6 && (v3.getD v5.toNat PV.top).els.isEmpty) (List.take v0 v7 ++ (v3.getD v5.toNat PV.top).els) else none else none else k0 v0 v6 v7
def Xf (f : Nat) (k0 : Nat -> Bool -> List PV -> OR) : Nat -> Nat -> Bool -> Bool -> List PV -> Int -> Int -> Bool -> List PV -> OR
 | 0, _, _, _, _, _, _, _, _ => none
 | n + 1, v0, v1, v2, v3, v4, v5, v6, v7 => Vx f (Xf f k0 n) k0 v0 v1 v2 v3 v4 v5 v6 v7
theorem Jua (f : Nat) (k : Kont) (n v0 : Nat) (v1 v2 : Bool) (v3 : List PV) (v4 v5 : Int) (v6 : Bool) (v7 : List PV) : Jy tau 0 XD (fun s k => ev tau JqF 0 0 Jct (Jfs ) s k) (n + 1) (Ji XD G7 [.ow 42 592 [] 0 v0 none, .ro 35 v1 v2 v3, .sc (.int .i64 v4), .sc (.int .i64 v5)] [(592, .vec false 42 v6 v7)]) (JG tau 0 Yt k) = Vx f (fun v0 v1 v2 v3 v4 v5 v6 v7 => Jy tau 0 XD (fun s k => ev tau JqF 0 0 Jct (Jfs ) s k) n (Ji XD G7 [.ow 42 592 [] 0 v0 none, .ro 35 v1 v2 v3, .sc (.int .i64 v4), .sc (.int .i64 v5)] [(592, .vec false 42 v6 v7)]) (JG tau 0 Yt k)) (fun x0 x1 x2 => k (Ex.exit 2) (Ji Yt G7 [.ow 42 592 [] 0 x0 none] [(592, .vec false 42 x1 x2)])) v0 v1 v2 v3 v4 v5 v6 v7 := by kernel_rfl
theorem Jkl (f : Nat) (k : Kont) : ∀ (n v0 : Nat) (v1 v2 : Bool) (v3 : List PV) (v4 v5 : Int) (v6 : Bool) (v7 : List PV), Jy tau 0 XD (fun s k => ev tau JqF 0 0 Jct (Jfs ) s k) n (Ji XD G7 [.ow 42 592 [] 0 v0 none, .ro 35 v1 v2 v3, .sc (.int .i64 v4), .sc (.int .i64 v5)] [(592, .vec false 42 v6 v7)]) (JG tau 0 Yt k) = Xf f (fun x0 x1 x2 => k (Ex.exit 2) (Ji Yt G7 [.ow 42 592 [] 0 x0 none] [(592, .vec false 42 x1 x2)])) n v0 v1 v2 v3 v4 v5 v6 v7 | 0, _, _, _, _, _, _, _, _ => rfl | n + 1, v0, v1, v2, v3, v4, v5, v6, v7 => (Jua f k n v0 v1 v2 v3 v4 v5 v6 v7).trans (congrArg (fun r => Vx f r (fun x0 x1 x2 => k (Ex.exit 2) (Ji Yt G7 [.ow 42 592 [] 0 x0 none] [(592, .vec false 42 x1 x2)])) v0 v1 v2 v3 v4 v5 v6 v7) (by funext v0 v1 v2 v3 v4 v5 v6 v7; exact Jkl f k n v0 v1 v2 v3 v4 v5 v6 v7))
def G9 (f : Nat) : List PV -> List (Nat × Ent) -> Kont -> OR
 | [.ow 42 592 [] 0 v0 none, .ro 35 v1 v2 v3, .sc (.int .i64 v4),
 PV.sc
  (Value.int IntKind.i64
   v5)], [(592, .vec false 42 v6 v7)], k => Xf f (fun x0 x1 x2 => k (Ex.exit 2) (Ji Yt G7 [.ow 42 592 [] 0 x0 none] [(592, .vec false 42 x1 x2)])) f v0 v1 v2 v3 v4 v5 v6 v7
 | _, _, _ => none
theorem Jxu (f : Nat) : Jf Jct Jfs = [] := by kernel_rfl
theorem Jxv (f : Nat) : (Item.l Jct XD G7 (G9 f)).Ok tau Try.prog 0 := Ju Jn JiN Jo (x := Jfs) (nm2 := Yt) (Jk _ _ (by rw [Jxu f]; intro q hq; cases hq)) fun vs hp k res hr => by
 unfold G9 at hr
 split at hr
 · exact ⟨f, 0, (Jkl f _ f _ _ _ _ _ _ _ _ ).trans hr⟩
 · cases hr
def JKi (f : Nat) (y0 y1 : Bool) (slices : List PV) (k : KR) : OR := ZA f (fun x0_0 x1_0 x2_0 x3_0 => bif decide (x3_0 < 0) then none else bif decide (IntKind.i64.wrap (x3_0 - IntKind.i64.wrap (zi 0 - zi 0)) > 0) then bif decide (0 <= IntKind.i64.wrap (x3_0 - IntKind.i64.wrap (zi 0 - zi 0))) && Je (IntKind.i64.wrap (x3_0 - IntKind.i64.wrap (zi 0 - zi 0))).toNat 16 && true then Xf f (fun x0_1 x1_1 x2_1 => k (Res.mk (.ow 42 16 [] 0 x0_1 none) [] [.vec false 42 x1_1 x2_1])) f (0) x0_0 x1_0 x2_0 (zi x2_0.length) (0) (IntKind.i64.wrap (x3_0 - IntKind.i64.wrap (zi 0 - zi 0)) == 0) (List.replicate (IntKind.i64.wrap (x3_0 - IntKind.i64.wrap (zi 0 - zi 0))).toNat (PV.st 42 [.sc (.int .i64 0), .sc (.int .i64 0)])) else none else Xf f (fun x0_2 x1_2 x2_2 => k (Res.mk (.ow 42 16 [] 0 x0_2 none) [] [.vec false 42 x1_2 x2_2])) f (0) x0_0 x1_0 x2_0 (zi x2_0.length) (0) true ([])) f y0 y1 slices (0) y0 y1 slices (zi slices.length) (0)
theorem JOm (f : Nat) (y0 y1 : Bool) (slices : List PV) (k : KR) : JJ tau JqF Try.f129 (Try.f129.body.get!) (JpG (G8 f) (G9 f)) [] 0 [.ro 35 y0 y1 slices] [] k = JKi f y0 y1 slices k := by kernel_rfl
theorem JKj (f : Nat) : Jf (Try.f129.body.get!) (JpG (G8 f) (G9 f)) = [.l JiO JbO G7 (G8 f), .l Jct XD G7 (G9 f)] := by kernel_rfl
theorem JKk (f : Nat) : ∀ q ∈ Jf (Try.f129.body.get!) (JpG (G8 f) (G9 f)), q.Ok tau Try.prog 0 := by rw [JKj f]; exact JL (Jxt f) (JL (Jxv f) (fun _ h => nomatch h))
theorem JzU : Try.prog.funcs[129]? = some Try.f129 := by kernel_rfl
theorem JzV : Try.f129.body = some (Try.f129.body.get!) := by kernel_rfl
theorem JzW : Enters Try.prog 129 := enters_of JzU (by kernel_rfl) JzV
-- FN slices.Concat[[]api.Addr,api.Addr]
theorem Jft {l : List PV} (h : l.all (PV.isRo 42) = true) {i : Nat} (hi : i < l.length) : (l.getD i .top).isRo 42 = true := by
 rw [List.getD_eq_getElem?_getD, List.getElem?_eq_getElem hi]
 exact List.all_eq_true.1 h _ (List.getElem_mem hi)
theorem Jub (f : Nat) (k0 : Bool -> Bool -> List PV -> Int -> OR) (a b : Bool) (c : List PV) (nl fl : Bool) (l : List PV) (hl : l.all (PV.isRo 42) = true) (hs : (JH l).length <= 8000000000000) (hn : l.length <= 8000000000000) : ∀ (d i n : Nat), i + d = l.length -> d < n ->
  ZA f k0 n a b c ((JH (l.take i)).length : Int) nl fl l (l.length : Int) (i : Int) = k0 a b c ((JH l).length : Int)
 | 0, i, n + 1, h, hd => by
   obtain rfl : i = l.length := by omega
   simp only [ZA, Vw]
   exact (Jd (by simp)).trans (by rw [List.take_length])
 | d + 1, i, n + 1, h, hd => by
   have hle := Xz l (i + 1)
   have hadd : (JH (l.take (i + 1))).length = (JH (l.take i)).length + (l.getD i .top).els.length := by rw [XK l i (by omega), List.length_append]
   have h1 : IntKind.i64.wrap ((i : Int) + 1) = ((i + 1 : Nat) : Int) := by rw [wrap_i64 (by omega) (by omega)]; omega
   have h2 : IntKind.i64.wrap (((JH (l.take i)).length : Int) + ((l.getD i .top).els.length : Int)) = ((JH (l.take (i + 1))).length : Int) := by rw [wrap_i64 (by omega) (by omega)]; omega
   simp only [ZA, Vw, zi, Int.toNat_natCast, h1, h2]
   refine (Ja (by simp <;> omega)).trans ?_
   refine (Ja (by rw [Jft hl (by omega)]; simp; omega)).trans ?_
   refine (Jd (by simp <;> omega)).trans ?_
   exact Jub f k0 a b c nl fl l hl hs hn d (i + 1) n (by omega) (by omega)
theorem JnA (f : Nat) (k0 : Nat -> Bool -> List PV -> OR) (nl fl : Bool) (l : List PV) (hl : l.all (PV.isRo 42) = true) (hs : (JH l).length <= 8000000000000) (hn : l.length <= 8000000000000) : ∀ (d i n : Nat) (z : Bool) (v : List PV), i + d = l.length -> d < n -> v.take (JH (l.take i)).length = JH (l.take i) -> (d = 0 -> v = JH l) ->
  Xf f k0 n (JH (l.take i)).length nl fl l (l.length : Int) (i : Int) z v = k0 (JH l).length (z && (JH (l.drop i)).isEmpty) (JH l)
 | 0, i, n + 1, z, v, h, hd, hv, h0 => by
   obtain rfl : i = l.length := by omega
   simp only [Xf, Vx]
   refine (Jd (by simp)).trans ?_
   rw [List.take_length, h0 rfl, List.drop_length]; simp
 | d + 1, i, n + 1, z, v, h, hd, hv, h0 => by
   have hle := Xz l (i + 1)
   have hadd : (JH (l.take (i + 1))).length = (JH (l.take i)).length + (l.getD i .top).els.length := by rw [XK l i (by omega), List.length_append]
   have h1 : IntKind.i64.wrap ((i : Int) + 1) = ((i + 1 : Nat) : Int) := by rw [wrap_i64 (by omega) (by omega)]; omega
   simp only [Xf, Vx, zi, Int.toNat_natCast, h1, hv]
   refine (Ja (by simp <;> omega)).trans ?_
   refine (Ja (by rw [Jft hl (by omega)]; simp; omega)).trans ?_
   refine (Ja (by simp only [Je, Bool.and_true, decide_eq_true_eq]; omega)).trans ?_
   have := JnA f k0 nl fl l hl hs hn d (i + 1) n (z && (l.getD i .top).els.isEmpty) (JH (l.take (i + 1))) (by omega) (by omega) (List.take_length) (fun hd0 => by rw [show i + 1 = l.length from by omega, List.take_length])
   rw [hadd, XK l i (by omega)] at this
   rw [this, Jey l i (by omega), XJ, Jc1, Bool.and_assoc]
def JiR : Jz
 | [.ro 35 nl fl l], [], k => bif l.all (PV.isRo 42) && (decide ((JH l).length <= 8000000000000) && decide (l.length <= 8000000000000)) then k ⟨.ow 42 16 [] 0 (JH l).length none, [], [.vec false 42 (JH l).isEmpty (JH l)]⟩ else none
 | _, _, _ => none
def Juc : Sig := { own := [], run := JiR }
theorem Jxw (nl fl : Bool) (l : List PV) (k : KR) (hl : l.all (PV.isRo 42) = true) (hs : (JH l).length <= 8000000000000) (hn : l.length <= 8000000000000) :
  JKi (l.length + 1) nl fl l k = k ⟨.ow 42 16 [] 0 (JH l).length none, [], [.vec false 42 (JH l).isEmpty (JH l)]⟩ := by
 have h0 := Jub (l.length + 1) (fun x0_0 x1_0 x2_0 x3_0 =>
  bif decide (x3_0 < 0) then
   none
  else bif decide (IntKind.i64.wrap (x3_0 - IntKind.i64.wrap (zi 0 - zi 0)) > 0) then
   bif decide (0 <= IntKind.i64.wrap (x3_0 - IntKind.i64.wrap (zi 0 - zi 0))) && Je (IntKind.i64.wrap (x3_0 - IntKind.i64.wrap (zi 0 - zi 0))).toNat 16 && true then
    Xf (l.length + 1) (fun x0_1 x1_1 x2_1 =>
     k (Res.mk (PV.ow 42 16 [] 0 x0_1 none) []
      [Ent.vec false 42 x1_1
       x2_1])) (l.length + 1) (0) x0_0 x1_0 x2_0 (zi
     x2_0.length) (0) (IntKind.i64.wrap (x3_0 - IntKind.i64.wrap (zi 0 - zi 0)) ==
     0) (List.replicate (IntKind.i64.wrap (x3_0 - IntKind.i64.wrap (zi 0 - zi 0))).toNat (PV.st 42 [.sc (.int .i64 0), .sc (.int .i64 0)]))
   else none
  else Xf (l.length + 1) (fun x0_2 x1_2 x2_2 =>
   k (Res.mk (PV.ow 42 16 [] 0 x0_2 none) [] [Ent.vec false 42 x1_2 x2_2])) (l.length + 1) (0) x0_0 x1_0 x2_0 (zi x2_0.length) (0) true ([])) nl fl l nl fl l hl hs hn l.length 0 (l.length + 1) (by omega) (by omega)
 refine h0.trans ?_
 have hw : IntKind.i64.wrap (((JH l).length : Int) - IntKind.i64.wrap (zi 0 - zi 0)) = ((JH l).length : Int) := by
  have : IntKind.i64.wrap (zi 0 - zi 0) = 0 := by decide
  rw [this, wrap_i64 (by omega) (by omega)]; omega
 simp only [hw]
 refine (Jd (by simp <;> omega)).trans ?_
 cases he : (JH l).isEmpty with
 | true =>
  have he' : JH l = [] := by simpa using he
  refine (Jd (by simp [he'])).trans ?_
  have := JnA (l.length + 1) (fun x0_2 x1_2 x2_2 => k (Res.mk (PV.ow 42 16 [] 0 x0_2 none) [] [Ent.vec false 42 x1_2 x2_2])) nl fl l hl hs hn l.length 0 (l.length + 1) true [] (by omega) (by omega) (by simp) (fun _ => he'.symm)
  refine this.trans ?_
  simp [he']
 | false =>
  have he' : JH l ≠ [] := by simpa using he
  have hpos : 0 < (JH l).length := List.length_pos_iff.2 he'
  have hl0 : l.length ≠ 0 := by
   intro h; rw [List.length_eq_zero_iff] at h; subst h; simp at he'
  refine (Ja (by simp <;> omega)).trans ?_
  refine (Ja (by simp [Je] <;> omega)).trans ?_
  have := JnA (l.length + 1) (fun x0_2 x1_2 x2_2 => k (Res.mk (PV.ow 42 16 [] 0 x0_2 none) [] [Ent.vec false 42 x1_2 x2_2])) nl fl l hl hs hn l.length 0 (l.length + 1) (((JH l).length : Int) == 0) (List.replicate (((JH l).length : Int)).toNat (PV.st 42 [.sc (.int .i64 0), .sc (.int .i64 0)])) (by omega) (by omega) (by simp) (fun h => absurd h hl0)
  refine this.trans ?_
  have hz : (((JH l).length : Int) == 0) = false := by simp [he']
  rw [hz]; rfl
theorem Jud : Jc tau Try.prog 129 Juc := Jhg Jn JiN Jo JzU JzV (fun n => JpG (G8 n) (G9 n)) [] 0 [] JiR (fun n => JKk n) fun xs es k res hr => by
 unfold JiR at hr
 split at hr
 · rename_i nl fl l
   obtain ⟨hc, hr⟩ := Jv hr
   simp only [Bool.and_eq_true, decide_eq_true_eq] at hc
   refine ⟨rfl, l.length + 1, 0, (JOm _ _ _ _ _).trans ?_⟩
   rw [Jxw _ _ _ _ hc.1 hc.2.1 hc.2.2]; exact hr
 · cases hr
def F90 : Fns := Jt 129 Juc (Jt 128 JzR (Jt 127 Jt2 (Jt 86 s86 (F0))))
theorem JDT : Jq tau Try.prog F90 := ((((Js).add JDH JDG).add Jt3 JzP).add JDO JJ1).add Jud JzW
def JDU : An := (.seq .leaf (.seq .leaf (.seq (.block none (.seq .leaf (.cond (.seq .leaf .leaf) (.seq .leaf (.cond (.seq .leaf .leaf) (.seq .leaf (.cond (.seq .leaf .leaf) .leaf))))))) (.seq .leaf .leaf))))
abbrev Jcu (l_z : Bool) (l_f : Bool) (l : List PV) (a_D : Int) (a_U : Int) := (JH [PV.ro 42 l_z (l_z || l_f && false) (List.take (V9 (PH.mk l (AV.mk a_D a_U))).toNat l), PV.ro 42 false false [PV.st 42 [PV.sc (.int .i64 a_D), PV.sc (.int .i64 a_U)]], PV.ro 42 l_z (l_z || l_f && true) (List.drop (V9 (PH.mk l (AV.mk a_D a_U))).toNat (List.take l.length l))])
def g90 (f : Nat) (l_z l_f : Bool) (l : List PV) (a_D a_U : Int) (k : KR) : OR := bif Zh l then bif !inA [a_D, 2, a_U, 7] then bif l_z then k (Res.mk (.tup [.ro 42 true true [], .sc (.int .i64 1)]) [] []) else bif Je (0 + l.length) 16 && true then k (Res.mk (.tup [.ro 42 false false (List.take (0 + l.length) l), .sc (.int .i64 1)]) [] []) else none else bif JqD (PH.mk l (AV.mk a_D a_U)) then bif l_z then k (Res.mk (.tup [.ro 42 true true [], .sc (.int .i64 12)]) [] []) else bif Je (0 + l.length) 16 && true then k (Res.mk (.tup [.ro 42 false false (List.take (0 + l.length) l), .sc (.int .i64 12)]) [] []) else none else bif decide (zi l.length >= 8) then bif l_z then k (Res.mk (.tup [.ro 42 true true [], .sc (.int .i64 4)]) [] []) else bif Je (0 + l.length) 16 && true then k (Res.mk (.tup [.ro 42 false false (List.take (0 + l.length) l), .sc (.int .i64 4)]) [] []) else none else bif decide (0 <= V9 (PH.mk l (AV.mk a_D a_U))) && true && decide ((V9 (PH.mk l (AV.mk a_D a_U))).toNat <= l.length) && true then bif decide (0 <= V9 (PH.mk l (AV.mk a_D a_U))) && true && decide ((V9 (PH.mk l (AV.mk a_D a_U))).toNat <= l.length) && decide (l.length <= l.length) && true then bif decide ((Jcu l_z l_f l a_D a_U).length <= 8000000000000) && true then k (Res.mk (.tup [.ro 42 (Ent.vec false 42 (Jcu l_z l_f l a_D a_U).isEmpty (Jcu l_z l_f l a_D a_U)).nil false (List.take (Jcu l_z l_f l a_D a_U).length (Jcu l_z l_f l a_D a_U)), .sc (.int .i64 0)]) [] []) else none else none else none else none
theorem e90 (f : Nat) (l_z l_f : Bool) (l : List PV) (a_D a_U : Int) (k : KR) : JJ tau F90 Try.f90 (Try.f90.body.get!) JDU [.ro, .ro] 0 [.ro 42 l_z l_f l, .st 42 [.sc (.int .i64 a_D), .sc (.int .i64 a_U)]] [] k = g90 f l_z l_f l a_D a_U k := by kernel_rfl
theorem JOn (f : Nat) : ∀ q ∈ Jf (Try.f90.body.get!) JDU, q.Ok tau Try.prog 0 := Jw (by kernel_rfl)
theorem JKl : Try.prog.funcs[90]? = some Try.f90 := by kernel_rfl
theorem JKm : Try.f90.body = some (Try.f90.body.get!) := by kernel_rfl
theorem JOo : Enters Try.prog 90 := enters_of JKl (by kernel_rfl) JKm
def Jue : Jz
 | [.ro 42 l_z l_f l, .st 42 [.sc (.int .i64 a_D), .sc (.int .i64 a_U)]], [], k => g90 0 l_z l_f l a_D a_U k
 | _, _, _ => none
def s90 : Sig := { own := [], run := Jue }
theorem JOp : Jc tau Try.prog 90 s90 := JN Jn JDT Jo JKl JKm JDU [.ro, .ro] 0 [] Jue (JOn 0) fun xs es k res hr => by
 unfold Jue at hr
 split at hr
 · exact ⟨rfl, 0, (e90 0 _ _ _ _ _  _).trans hr⟩
 · cases hr
def F91 : Fns := Jt 129 Juc (Jt 127 Jt2 (Jt 86 s86 (F0)))
theorem JDV : Jq tau Try.prog F91 := (((Js).add JDH JDG).add Jt3 JzP).add Jud JzW
def JDW : An := (.seq .leaf (.seq .leaf (.seq (.seq .leaf (.cond (.seq .leaf .leaf) .leaf)) (.seq .leaf .leaf))))
abbrev Jcv (l_z : Bool) (l_f : Bool) (l : List PV) (a_D : Int) (a_U : Int) := (JH [PV.ro 42 l_z (l_z || l_f && false) (List.take (V9 (PH.mk l (AV.mk a_D a_U))).toNat l), PV.ro 42 l_z (l_z || l_f && true) (List.drop (IntKind.i64.wrap (V9 (PH.mk l (AV.mk a_D a_U)) + 1)).toNat (List.take l.length l))])
def g91 (f : Nat) (l_z l_f : Bool) (l : List PV) (a_D a_U : Int) (k : KR) : OR := bif Zh l then bif !JqD (PH.mk l (AV.mk a_D a_U)) then bif l_z then k (Res.mk (.tup [.ro 42 true true [], .sc (.int .i64 2)]) [] []) else bif Je (0 + l.length) 16 && true then k (Res.mk (.tup [.ro 42 false false (List.take (0 + l.length) l), .sc (.int .i64 2)]) [] []) else none else bif decide (0 <= V9 (PH.mk l (AV.mk a_D a_U))) && true && decide ((V9 (PH.mk l (AV.mk a_D a_U))).toNat <= l.length) && true then bif decide (0 <= IntKind.i64.wrap (V9 (PH.mk l (AV.mk a_D a_U)) + 1)) && true && decide ((IntKind.i64.wrap (V9 (PH.mk l (AV.mk a_D a_U)) + 1)).toNat <= l.length) && decide (l.length <= l.length) && true then bif decide ((Jcv l_z l_f l a_D a_U).length <= 8000000000000) && true then k (Res.mk (.tup [.ro 42 (Ent.vec false 42 (Jcv l_z l_f l a_D a_U).isEmpty (Jcv l_z l_f l a_D a_U)).nil false (List.take (Jcv l_z l_f l a_D a_U).length (Jcv l_z l_f l a_D a_U)), .sc (.int .i64 0)]) [] []) else none else none else none else none
theorem e91 (f : Nat) (l_z l_f : Bool) (l : List PV) (a_D a_U : Int) (k : KR) : JJ tau F91 Try.f91 (Try.f91.body.get!) JDW [.ro, .ro] 0 [.ro 42 l_z l_f l, .st 42 [.sc (.int .i64 a_D), .sc (.int .i64 a_U)]] [] k = g91 f l_z l_f l a_D a_U k := by kernel_rfl
theorem JOq (f : Nat) : ∀ q ∈ Jf (Try.f91.body.get!) JDW, q.Ok tau Try.prog 0 := Jw (by kernel_rfl)
theorem JKn : Try.prog.funcs[91]? = some Try.f91 := by kernel_rfl
theorem JKo : Try.f91.body = some (Try.f91.body.get!) := by kernel_rfl
theorem JOr : Enters Try.prog 91 := enters_of JKn (by kernel_rfl) JKo
def Juf : Jz
 | [.ro 42 l_z l_f l, .st 42 [.sc (.int .i64 a_D), .sc (.int .i64 a_U)]], [], k => g91 0 l_z l_f l a_D a_U k
 | _, _, _ => none
def s91 : Sig := { own := [], run := Juf }
theorem JOs : Jc tau Try.prog 91 s91 := JN Jn JDV Jo JKn JKo JDW [.ro, .ro] 0 [] Juf (JOq 0) fun xs es k res hr => by
 unfold Juf at hr
 split at hr
 · exact ⟨rfl, 0, (e91 0 _ _ _ _ _  _).trans hr⟩
 · cases hr
-- FN people.Has | people.Add | people.Remove
def zOk : Bool -> List PV -> Bool := hid fun z l => !z || l.isEmpty
theorem JdA {z : Bool} {l : List PV} : zOk z l = true ↔ (z = true -> l = []) := by
 rw [zOk, hid_eq]
 cases z <;> simp
theorem Jfu {l : List PV} (h : pOk l = true) : Zh l = true := by
 obtain ⟨h1, _, h3⟩ := QF.1 h
 exact Xm.2 ⟨h1, by omega⟩
theorem JpH {z : Bool} {l : List PV} (hz : z = true -> l = []) (hl : l.length <= 1000) (e : Int) (k : KR) : (bif z then k ⟨.tup [.ro 42 true true [], .sc (.int .i64 e)], [], []⟩ else bif Je (0 + l.length) 16 && true then k ⟨.tup [.ro 42 false false (List.take (0 + l.length) l), .sc (.int .i64 e)], [], []⟩ else none) = k ⟨.tup [.ro 42 z z l, .sc (.int .i64 e)], [], []⟩ := by
 cases z with
 | true => rw [hz rfl]; rfl
 | false =>
  refine (Jd rfl).trans ((Ja (by simp [Je]; omega)).trans ?_)
  rw [List.take_of_length_le (by omega)]
def JnB : Jz
 | [.ro 42 z f l, .st 42 [.sc (.int .i64 d), .sc (.int .i64 u)]], [], k => bif pOk l then k ⟨.sc (.bool (hasP ⟨l, ⟨d, u⟩⟩)), [], []⟩ else none
 | _, _, _ => none
def JKp : Sig := { own := [], run := JnB }
theorem JKq : Jc tau Try.prog 39 JKp := JOk.of fun xs es k res hr => by
 change JnB xs es k = some res at hr
 unfold JnB at hr
 split at hr
 · rename_i z f l d u
   obtain ⟨hc, hr⟩ := Jv hr
   refine Eq.trans ?_ hr
   show g39 0 z f l d u k = _
   unfold g39
   rw [Jt4]
   exact Ja (Jfu hc)
 · cases hr
def JnC : Jz
 | [.ro 42 z f l, .st 42 [.sc (.int .i64 d), .sc (.int .i64 u)]], [], k => bif pOk l && zOk z l then k ⟨.tup [.ro 42 (adF ⟨l, ⟨d, u⟩⟩ && z) (adF ⟨l, ⟨d, u⟩⟩ && z) (adL ⟨l, ⟨d, u⟩⟩), .sc (.int .i64 (adE ⟨l, ⟨d, u⟩⟩))], [], []⟩ else none
 | _, _, _ => none
def JKr : Sig := { own := [], run := JnC }
theorem JDX (z f : Bool) (l : List PV) (d u : Int) (h : pOk l = true) (hz : z = true -> l = []) (k : KR) : g90 0 z f l d u k = k ⟨.tup [.ro 42 (adF ⟨l, ⟨d, u⟩⟩ && z) (adF ⟨l, ⟨d, u⟩⟩ && z) (adL ⟨l, ⟨d, u⟩⟩), .sc (.int .i64 (adE ⟨l, ⟨d, u⟩⟩))], [], []⟩ := by
 obtain ⟨h1, h2, h3⟩ := QF.1 h
 unfold g90 Jcu
 rw [JiJ, JtG, Jco, Jnn]
 simp only [YV h2]
 unfold JbJ
 refine (Ja (Jfu h)).trans ?_
 cases hu : inA [d, 2, u, 7] with
 | false => exact (Ja rfl).trans (JpH hz (by omega) 1 k)
 | true =>
  refine (Jd rfl).trans ?_
  cases hh : hasL l ⟨d, u⟩ with
  | true => exact (Ja rfl).trans (JpH hz (by omega) 12 k)
  | false =>
   refine (Jd rfl).trans ?_
   by_cases h8 : l.length >= 8
   · refine (Ja (by simp [zi]; omega)).trans ((JpH hz (by omega) 4 k).trans ?_)
     simp only [decide_eq_true h8, Bool.not_true, cond_false, cond_true]; rfl
   · refine (Jd (by simp [zi]; omega)).trans ?_
     simp only [decide_eq_false h8, Bool.not_true, cond_false]
     have hc := JbI l ⟨d, u⟩
     rw [JiI]
     simp only [Int.toNat_natCast]
     have e0 : List.take l.length l = l := List.take_length
     have hfl : ∀ (a b c e x y : Bool), JH [.ro 42 a b (List.take (Q3 l ⟨d, u⟩) l), .ro 42 x y [.st 42 [.sc (.int .i64 d), .sc (.int .i64 u)]], .ro 42 c e (List.drop (Q3 l ⟨d, u⟩) l)] = G0 l ⟨d, u⟩ := fun _ _ _ _ _ _ => by
      simp only [XJ, JaS, PV.els, List.append_nil]; rfl
     have hil := Vu l ⟨d, u⟩
     have hne : (G0 l ⟨d, u⟩).isEmpty = false := by
      cases hx : G0 l ⟨d, u⟩ with
      | nil => rw [hx] at hil; simp at hil
      | cons _ _ => rfl
     simp only [e0, hfl, List.take_length, hne, Ent.nil]
     exact (Ja (by simp; omega)).trans ((Ja (by simp; omega)).trans (Ja (by simp; omega)))
theorem JKs : Jc tau Try.prog 90 JKr := JOp.of fun xs es k res hr => by
 change JnC xs es k = some res at hr
 unfold JnC at hr
 split at hr
 · rename_i z f l d u
   obtain ⟨hc, hr⟩ := Jv hr
   rw [Bool.and_eq_true, JdA] at hc
   exact (JDX z f l d u hc.1 hc.2 k).trans hr
 · cases hr
def JnD : Jz
 | [.ro 42 z f l, .st 42 [.sc (.int .i64 d), .sc (.int .i64 u)]], [], k => bif pOk l && zOk z l then k ⟨.tup [.ro 42 (rmZ ⟨l, ⟨d, u⟩⟩ z) (rmF ⟨l, ⟨d, u⟩⟩ z) (rmL ⟨l, ⟨d, u⟩⟩), .sc (.int .i64 (rmE ⟨l, ⟨d, u⟩⟩))], [], []⟩ else none
 | _, _, _ => none
def JKt : Sig := { own := [], run := JnD }
theorem JDY (z f : Bool) (l : List PV) (d u : Int) (h : pOk l = true) (hz : z = true -> l = []) (k : KR) : g91 0 z f l d u k = k ⟨.tup [.ro 42 (rmZ ⟨l, ⟨d, u⟩⟩ z) (rmF ⟨l, ⟨d, u⟩⟩ z) (rmL ⟨l, ⟨d, u⟩⟩), .sc (.int .i64 (rmE ⟨l, ⟨d, u⟩⟩))], [], []⟩ := by
 obtain ⟨h1, h2, h3⟩ := QF.1 h
 unfold g91 Jcv
 rw [JiJ, JtH, Jcp, Jno, JtI]
 simp only [YV h2]
 unfold Jxb
 refine (Ja (Jfu h)).trans ?_
 cases hh : hasL l ⟨d, u⟩ with
 | false => exact (Ja rfl).trans (JpH hz (by omega) 2 k)
 | true =>
  refine (Jd rfl).trans ?_
  have hf : G6 l ⟨d, u⟩ = true := by rw [YV h2]; exact hh
  have hc := JbI l ⟨d, u⟩
  have hlt : Q3 l ⟨d, u⟩ < l.length := by
   unfold G6 at hf
   rw [Bool.and_eq_true, Nat.blt_eq] at hf
   exact hf.1
  rw [JiI]
  have w1 : IntKind.i64.wrap ((Q3 l ⟨d, u⟩ : Int) + 1) = ((Q3 l ⟨d, u⟩ + 1 : Nat) : Int) := by rw [wrap_i64 (by omega) (by omega)]; omega
  simp only [w1, Int.toNat_natCast]
  have e0 : List.take l.length l = l := List.take_length
  have hfl : ∀ (a b c e : Bool), JH [.ro 42 a b (List.take (Q3 l ⟨d, u⟩) l), .ro 42 c e (List.drop (Q3 l ⟨d, u⟩ + 1) l)] = rmA l ⟨d, u⟩ := fun _ _ _ _ => by
   simp only [XJ, JaS, PV.els, List.append_nil]; exact JpE h2 hf
  have hrl : (rmA l ⟨d, u⟩).length <= 8 := by
   have := List.length_filter_le (fun p => !eqA (av p) ⟨d, u⟩) l
   unfold rmA; omega
  simp only [e0, hfl, List.take_length, Ent.nil]
  exact (Ja (by simp; omega)).trans ((Ja (by simp; omega)).trans (Ja (by simp; omega)))
theorem JKu : Jc tau Try.prog 91 JKt := JOs.of fun xs es k res hr => by
 change JnD xs es k = some res at hr
 unfold JnD at hr
 split at hr
 · rename_i z f l d u
   obtain ⟨hc, hr⟩ := Jv hr
   rw [Bool.and_eq_true, JdA] at hc
   exact (JDY z f l d u hc.1 hc.2 k).trans hr
 · cases hr
def JKv : Fns := F0
theorem Jxx : Jq tau Try.prog JKv := Js
def Jug : An := (.seq .leaf (.seq (.seq .leaf (.cond (.seq .leaf .leaf) .leaf)) (.seq .leaf .leaf)))
def JKw (f : Nat) (y0 c_N : Int) (c_S : ByteArray) (k : KR) : OR := bif y0 == 2 then k (Res.mk (.sc (.int .i64 (zi c_S.size))) [] []) else k (Res.mk (.sc (.int .i64 c_N)) [] [])
theorem JOt (f : Nat) (y0 c_N : Int) (c_S : ByteArray) (k : KR) : JJ tau JKv Try.f126 (Try.f126.body.get!) Jug [.ro] 0 [.st 113 [.sc (.int .i64 y0), .sc (.int .i64 c_N), .sc (.string c_S)]] [] k = JKw f y0 c_N c_S k := by kernel_rfl
theorem JKx (f : Nat) : ∀ q ∈ Jf (Try.f126.body.get!) Jug, q.Ok tau Try.prog 0 := Jw (by kernel_rfl)
theorem JzX : Try.prog.funcs[126]? = some Try.f126 := by kernel_rfl
theorem JzY : Try.f126.body = some (Try.f126.body.get!) := by kernel_rfl
theorem JzZ : Enters Try.prog 126 := enters_of JzX (by kernel_rfl) JzY
def JnE : Jz
 | [.st 113 [.sc (.int .i64 y0), .sc (.int .i64 c_N), .sc (.string c_S)]], [], k => JKw 0 y0 c_N c_S k
 | _, _, _ => none
def JDZ : Sig := { own := [], run := JnE }
theorem Jz0 : Jc tau Try.prog 126 JDZ := JN Jn Jxx Jo JzX JzY Jug [.ro] 0 [] JnE (JKx 0) fun xs es k res hr => by
 unfold JnE at hr
 split at hr
 · exact ⟨rfl, 0, (JOt 0 _ _ _  _).trans hr⟩
 · cases hr
def JfX : Nat := 39
def Juh : Fns := Jt 126 JDZ (F0)
theorem JpI : Jq tau Try.prog Juh := (Js).add Jz0 JzZ
def Jcw : Code := Qd (Try.f125.body.get!) [1, 1, 0, 1, 0, 0]
def XE : Nm := [(3, .any), (7, .any), (8, .any), (9, .any)]
def Yu : Nm := [(3, .any)]
def Jfv : An := (.seq .leaf (.seq (.cond .leaf .leaf) (.seq (.block none (.seq .leaf (.seq .leaf (.seq .leaf (.block none (.seq .leaf (.cond .leaf (.seq .leaf (.cond .leaf (.seq .leaf (.cond .leaf .leaf))))))))))) .leaf)))
def JpJ (r0 : Qr) : An := (.seq .leaf (.seq .leaf (.seq (.seq .leaf (.block none (.sum XE JfX r0))) (.seq .leaf .leaf))))
abbrev Wq (v4 : List PV) (v6 : Int) := (fOf FloatKind.f64 (zi (PV.child (0 + 1 + 1) (v4.getD v6.toNat PV.top)).str.size))
abbrev Wr (v4 : List PV) (v6 : Int) := (fOf FloatKind.f64 (PV.child (0 + 1) (v4.getD v6.toNat PV.top)).int)
abbrev JE (v0 : Nat) (v1 : Nat) := (PV.sc (Value.complex FloatKind.f64 v0 v1))
abbrev Ws (v4 : List PV) (v6 : Int) := (PV.sc (Value.complex FloatKind.f64 (Wq v4 v6) (Wq v4 v6)))
abbrev Wt (v4 : List PV) (v6 : Int) := (PV.sc (Value.complex FloatKind.f64 (Wr v4 v6) (Wr v4 v6)))
abbrev Wu (v4 : List PV) (v6 : Int) := (PV.sc (Value.complex FloatKind.f64 0 (Wq v4 v6)))
abbrev Wv (v4 : List PV) (v6 : Int) := (PV.sc (Value.complex FloatKind.f64 (Wq v4 v6) 0))
abbrev Ww (v4 : List PV) (v6 : Int) := (PV.sc (Value.complex FloatKind.f64 0 (Wr v4 v6)))
abbrev Wx (v4 : List PV) (v6 : Int) := (PV.sc (Value.complex FloatKind.f64 (Wr v4 v6) 0))
def Vy (f : Nat) (rc : Nat -> Nat -> Bool -> Bool -> List PV -> Int -> Int -> OR) (k0 : Nat -> Nat -> OR) (v0 v1 : Nat) (v2 v3 : Bool) (v4 : List PV) (v5 v6 : Int) : OR := bif decide (v6 < v5) then bif decide (0 <= v6) && decide (v6 < zi v4.length) && (PV.isSt 113 #[Field.mk "Kind" 3 0 false "" "" 0, Field.mk "N" 3 1 false "" "" 8, Field.mk "S" 9 2 false "" "" 16].size (v4.getD v6.toNat PV.top) && (PV.isInt IntKind.i64 (PV.child 0 (v4.getD v6.toNat PV.top)) && (PV.isInt IntKind.i64 (PV.child (0 + 1) (v4.getD v6.toNat PV.top)) && ((PV.child (0 + 1 + 1) (v4.getD v6.toNat PV.top)).isStr && true)))) && true then bif (PV.child 0 (v4.getD v6.toNat PV.top)).int == 2 then bif (PV.child 0 (v4.getD v6.toNat PV.top)).int == 1 then bif (FloatKind.f64.format.add (JE v0 v1).cre (Ws v4 v6).cre).isSome && (FloatKind.f64.format.add (JE v0 v1).cim (Ws v4 v6).cim).isSome && true then rc ((FloatKind.f64.format.add (JE v0 v1).cre (Ws v4 v6).cre).getD 0) ((FloatKind.f64.format.add (JE v0 v1).cim (Ws v4 v6).cim).getD 0) v2 v3 v4 v5 (IntKind.i64.wrap (v6 + 1)) else none else bif (PV.child 0 (v4.getD v6.toNat PV.top)).int == 2 then bif (FloatKind.f64.format.add (JE v0 v1).cre (Wu v4 v6).cre).isSome && (FloatKind.f64.format.add (JE v0 v1).cim (Wu v4 v6).cim).isSome && true then rc ((FloatKind.f64.format.add (JE v0 v1).cre (Wu v4 v6).cre).getD 0) ((FloatKind.f64.format.add (JE v0 v1).cim (Wu v4 v6).cim).getD 0) v2 v3 v4 v5 (IntKind.i64.wrap (v6 + 1)) else none else bif (PV.child 0 (v4.getD v6.toNat PV.top)).int == 3 then bif (FloatKind.f64.format.add (JE v0 v1).cre (Wv v4 v6).cre).isSome && (FloatKind.f64.format.add (JE v0 v1).cim (Wv v4 v6).cim).isSome && true then rc ((FloatKind.f64.format.add (JE v0 v1).cre (Wv v4 v6).cre).getD 0) ((FloatKind.f64.format.add (JE v0 v1).cim (Wv v4 v6).cim).getD 0) v2 v3 v4 v5 (IntKind.i64.wrap (v6 + 1)) else none else rc v0 v1 v2 v3 v4 v5 (IntKind.i64.wrap (v6 + 1)) else bif (PV.child 0 (v4.getD v6.toNat PV.top)).int == 1 then bif (FloatKind.f64.format.add (JE v0 v1).cre (Wt v4 v6).cre).isSome && (FloatKind.f64.format.add (JE v0 v1).cim (Wt v4 v6).cim).isSome && true then rc ((FloatKind.f64.format.add (JE v0 v1).cre (Wt v4 v6).cre).getD 0) ((FloatKind.f64.format.add (JE v0 v1).cim (Wt v4 v6).cim).getD 0) v2 v3 v4 v5 (IntKind.i64.wrap (v6 + 1)) else none else bif (PV.child 0 (v4.getD v6.toNat PV.top)).int == 2 then bif (FloatKind.f64.format.add (JE v0 v1).cre (Ww v4 v6).cre).isSome && (FloatKind.f64.format.add (JE v0 v1).cim (Ww v4 v6).cim).isSome && true then rc ((FloatKind.f64.format.add (JE v0 v1).cre (Ww v4 v6).cre).getD 0) ((FloatKind.f64.format.add (JE v0 v1).cim (Ww v4 v6).cim).getD 0) v2 v3 v4 v5 (IntKind.i64.wrap (v6 + 1)) else none else bif (PV.child 0 (v4.getD v6.toNat PV.top)).int == 3 then bif (FloatKind.f64.format.add (JE v0 v1).cre (Wx v4 v6).cre).isSome && (FloatKind.f64.format.add (JE v0 v1).cim (Wx v4 v6).cim).isSome && true then rc ((FloatKind.f64.format.add (JE v0 v1).cre (Wx v4 v6).cre).getD 0) ((FloatKind.f64.format.add (JE v0 v1).cim (Wx v4 v6).cim).getD 0) v2 v3 v4 v5 (IntKind.i64.wrap (v6 + 1)) else none else rc v0 v1 v2 v3 v4 v5 (IntKind.i64.wrap (v6 + 1)) else none else k0 v0 v1
def ZB (f : Nat) (k0 : Nat -> Nat -> OR) : Nat -> Nat -> Nat -> Bool -> Bool -> List PV -> Int -> Int -> OR
 | 0, _, _, _, _, _, _, _ => none
 | n + 1, v0, v1, v2, v3, v4, v5, v6 => Vy f (ZB f k0 n) k0 v0 v1 v2 v3 v4 v5 v6
theorem Jui (f : Nat) (k : Kont) (n v0 v1 : Nat) (v2 v3 : Bool) (v4 : List PV) (v5 v6 : Int) : Jy tau 0 XE (fun s k => ev tau Juh 0 0 Jcw (Jfv ) s k) (n + 1) (Ji XE JfX [.sc (Value.complex FloatKind.f64 v0 v1), .ro 113 v2 v3 v4, .sc (.int .i64 v5), .sc (.int .i64 v6)] []) (JG tau 0 Yu k) = Vy f (fun v0 v1 v2 v3 v4 v5 v6 => Jy tau 0 XE (fun s k => ev tau Juh 0 0 Jcw (Jfv ) s k) n (Ji XE JfX [.sc (Value.complex FloatKind.f64 v0 v1), .ro 113 v2 v3 v4, .sc (.int .i64 v5), .sc (.int .i64 v6)] []) (JG tau 0 Yu k)) (fun x0 x1 => k (Ex.exit 0) (Ji Yu JfX [.sc (Value.complex FloatKind.f64 x0 x1)] [])) v0 v1 v2 v3 v4 v5 v6 := by kernel_rfl
theorem Jkm (f : Nat) (k : Kont) : ∀ (n v0 v1 : Nat) (v2 v3 : Bool) (v4 : List PV) (v5 v6 : Int), Jy tau 0 XE (fun s k => ev tau Juh 0 0 Jcw (Jfv ) s k) n (Ji XE JfX [.sc (Value.complex FloatKind.f64 v0 v1), .ro 113 v2 v3 v4, .sc (.int .i64 v5), .sc (.int .i64 v6)] []) (JG tau 0 Yu k) = ZB f (fun x0 x1 => k (Ex.exit 0) (Ji Yu JfX [.sc (Value.complex FloatKind.f64 x0 x1)] [])) n v0 v1 v2 v3 v4 v5 v6 | 0, _, _, _, _, _, _, _ => rfl | n + 1, v0, v1, v2, v3, v4, v5, v6 => (Jui f k n v0 v1 v2 v3 v4 v5 v6).trans (congrArg (fun r => Vy f r (fun x0 x1 => k (Ex.exit 0) (Ji Yu JfX [.sc (Value.complex FloatKind.f64 x0 x1)] [])) v0 v1 v2 v3 v4 v5 v6) (by funext v0 v1 v2 v3 v4 v5 v6; exact Jkm f k n v0 v1 v2 v3 v4 v5 v6))
def Jaa (f : Nat) : List PV -> List (Nat × Ent) -> Kont -> OR
 | [.sc (Value.complex FloatKind.f64 v0 v1), .ro 113 v2 v3 v4, .sc (.int .i64 v5),
 .sc (.int .i64 v6)], [], k => ZB f (fun x0 x1 => k (Ex.exit 0) (Ji Yu JfX [.sc (Value.complex FloatKind.f64 x0 x1)] [])) f v0 v1 v2 v3 v4 v5 v6
 | _, _, _ => none
theorem Jxy (f : Nat) : Jf Jcw Jfv = [] := by kernel_rfl
theorem Jxz (f : Nat) : (Item.l Jcw XE JfX (Jaa f)).Ok tau Try.prog 0 := Ju Jn JpI Jo (x := Jfv) (nm2 := Yu) (Jk _ _ (by rw [Jxy f]; intro q hq; cases hq)) fun vs hp k res hr => by
 unfold Jaa at hr
 split at hr
 · exact ⟨f, 0, (Jkm f _ f _ _ _ _ _ _ _ ).trans hr⟩
 · cases hr
def JKy (f : Nat) (o_z o_f : Bool) (o : List PV) (k : KR) : OR := ZB f (fun x0_0 x1_0 => k (Res.mk (.sc (Value.complex FloatKind.f64 x0_0 x1_0)) [] [])) f (0) (0) o_z o_f o (zi o.length) (0)
theorem JOu (f : Nat) (o_z o_f : Bool) (o : List PV) (k : KR) : JJ tau Juh Try.f125 (Try.f125.body.get!) (JpJ (Jaa f)) [.ro] 0 [.ro 113 o_z o_f o] [] k = JKy f o_z o_f o k := by kernel_rfl
theorem JKz (f : Nat) : Jf (Try.f125.body.get!) (JpJ (Jaa f)) = [.l Jcw XE JfX (Jaa f)] := by kernel_rfl
theorem JKA (f : Nat) : ∀ q ∈ Jf (Try.f125.body.get!) (JpJ (Jaa f)), q.Ok tau Try.prog 0 := by rw [JKz f]; exact JL (Jxz f) (fun _ h => nomatch h)
theorem Jz1 : Try.prog.funcs[125]? = some Try.f125 := by kernel_rfl
theorem Jz2 : Try.f125.body = some (Try.f125.body.get!) := by kernel_rfl
theorem JKB : Enters Try.prog 125 := enters_of Jz1 (by kernel_rfl) Jz2
end
end Go.Proofs.Ythpmachmnoljeaa.Rx
