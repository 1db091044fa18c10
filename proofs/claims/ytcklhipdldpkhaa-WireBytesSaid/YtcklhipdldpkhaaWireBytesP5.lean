/- What the functions of this law compute, and their plain laws. Conditions: none. -/
import Derived.Test.YtcklhipdldpkhaaWireBytesP4
namespace Go.Proofs.Ytcklhipdldpkhaa.Rx
open Go
set_option linter.unusedVariables false
set_option maxRecDepth 100000
set_option maxHeartbeats 0
noncomputable def F40 : Fns := addF 95 s95 (addF 94 s94' (addF 93 s93 (F0)))
theorem F40_ok : FnsOk tau Try.prog F40 := (((F0_ok).add ok93 en93).add ok94' en94).add ok95 en95
def nm40_0 : Nm := [(2, .any), (3, .any), (5, .any), (6, .any), (11, .any), (12, .any)]
def x40_0 : An := (.seq .leaf (.seq (.cond .leaf .leaf) (.seq (.block none (.seq .leaf (.seq .leaf (.cond (.seq .leaf .leaf) .leaf)))) .leaf)))
def an40 : An := (.seq .leaf (.seq .leaf (.seq (.seq .leaf (.block none (.loop nm40_0 x40_0))) (.seq .leaf .leaf))))
noncomputable def g40 (f : Nat) (a_Kind : Int) (a_From : Int) (a_To : Int) (a_W_Host : Int) (a_W_N : Int) (a_Creator_D : Int) (a_Creator_U : Int) (a_Version : Int) (a_Commit : Int) (a_Author_D : Int) (a_Author_U : Int) (a_Sub : Int) (a_Err : Int) (a_Body_z : Bool) (a_Body_f : Bool) (a_Body : List PV) (b_Kind : Int) (b_From : Int) (b_To : Int) (b_W_Host : Int) (b_W_N : Int) (b_Creator_D : Int) (b_Creator_U : Int) (b_Version : Int) (b_Commit : Int) (b_Author_D : Int) (b_Author_U : Int) (b_Sub : Int) (b_Err : Int) (b_Body_z : Bool) (b_Body_f : Bool) (b_Body : List PV) (k : Res → Option Res) : Option Res := bif a_From != b_From then k (Res.mk (.sc (.bool false)) [] []) else bif a_To != b_To then k (Res.mk (.sc (.bool false)) [] []) else bif a_W_Host != b_W_Host then k (Res.mk (.sc (.bool false)) [] []) else bif a_W_N != b_W_N then k (Res.mk (.sc (.bool false)) [] []) else bif a_Creator_D != b_Creator_D then k (Res.mk (.sc (.bool false)) [] []) else bif a_Creator_U != b_Creator_U then k (Res.mk (.sc (.bool false)) [] []) else bif a_Version != b_Version then k (Res.mk (.sc (.bool false)) [] []) else bif a_Commit != b_Commit then k (Res.mk (.sc (.bool false)) [] []) else bif a_Author_D != b_Author_D then k (Res.mk (.sc (.bool false)) [] []) else bif a_Author_U != b_Author_U then k (Res.mk (.sc (.bool false)) [] []) else bif a_Sub != b_Sub then k (Res.mk (.sc (.bool false)) [] []) else bif a_Err != b_Err then k (Res.mk (.sc (.bool false)) [] []) else bif a_Kind == b_Kind then bif rOk a_Body && rOk b_Body then k (Res.mk (.sc (.bool (eqR a_Body b_Body))) [] []) else none else k (Res.mk (.sc (.bool false)) [] [])
theorem e40 (f : Nat) (a_Kind : Int) (a_From : Int) (a_To : Int) (a_W_Host : Int) (a_W_N : Int) (a_Creator_D : Int) (a_Creator_U : Int) (a_Version : Int) (a_Commit : Int) (a_Author_D : Int) (a_Author_U : Int) (a_Sub : Int) (a_Err : Int) (a_Body_z : Bool) (a_Body_f : Bool) (a_Body : List PV) (b_Kind : Int) (b_From : Int) (b_To : Int) (b_W_Host : Int) (b_W_N : Int) (b_Creator_D : Int) (b_Creator_U : Int) (b_Version : Int) (b_Commit : Int) (b_Author_D : Int) (b_Author_U : Int) (b_Sub : Int) (b_Err : Int) (b_Body_z : Bool) (b_Body_f : Bool) (b_Body : List PV) (k : Res → Option Res) : evFn tau F40 Try.f40 (Try.f40.body.get!) an40 [.ro] 13 [.st 54 [.sc (.int .i64 a_Kind), .sc (.int .i64 a_From), .sc (.int .i64 a_To), .st 34 [.sc (.int .i64 a_W_Host), .sc (.int .i64 a_W_N)], .st 45 [.sc (.int .i64 a_Creator_D), .sc (.int .i64 a_Creator_U)], .sc (.int .i64 a_Version), .sc (.int .i64 a_Commit), .st 45 [.sc (.int .i64 a_Author_D), .sc (.int .i64 a_Author_U)], .sc (.int .i64 a_Sub), .sc (.int .i64 a_Err), .ro 29 a_Body_z a_Body_f a_Body], .st 54 [.sc (.int .i64 b_Kind), .sc (.int .i64 b_From), .sc (.int .i64 b_To), .st 34 [.sc (.int .i64 b_W_Host), .sc (.int .i64 b_W_N)], .st 45 [.sc (.int .i64 b_Creator_D), .sc (.int .i64 b_Creator_U)], .sc (.int .i64 b_Version), .sc (.int .i64 b_Commit), .st 45 [.sc (.int .i64 b_Author_D), .sc (.int .i64 b_Author_U)], .sc (.int .i64 b_Sub), .sc (.int .i64 b_Err), .ro 29 b_Body_z b_Body_f b_Body]] [] k = g40 f a_Kind a_From a_To a_W_Host a_W_N a_Creator_D a_Creator_U a_Version a_Commit a_Author_D a_Author_U a_Sub a_Err a_Body_z a_Body_f a_Body b_Kind b_From b_To b_W_Host b_W_N b_Creator_D b_Creator_U b_Version b_Commit b_Author_D b_Author_U b_Sub b_Err b_Body_z b_Body_f b_Body k := by kernel_rfl
theorem it40 (f : Nat) : items (Try.f40.body.get!) an40 = [] := by kernel_rfl
theorem ia40 (f : Nat) : ∀ q ∈ items (Try.f40.body.get!) an40, q.Ok tau Try.prog 0 := by
  rw [it40 f]; intro q hq; cases hq
theorem fo40 : Try.prog.funcs[40]? = some Try.f40 := by kernel_rfl
theorem bo40 : Try.f40.body = some (Try.f40.body.get!) := by kernel_rfl
theorem en40 : Enters Try.prog 40 := enters_of fo40 (by kernel_rfl) bo40
end Go.Proofs.Ytcklhipdldpkhaa.Rx

-- FN wire.Same
namespace Go.Proofs.Ytcklhipdldpkhaa.Rx
open Go
set_option linter.unusedVariables false
set_option linter.unusedSimpArgs false
set_option maxRecDepth 100000
set_option maxHeartbeats 1000000
theorem g40_eq (kd1 fr1 to1 wh1 wn1 cd1 cu1 ve1 co1 ad1 au1 su1 er1 : Int) (z1 f1 : Bool) (a : List PV) (kd2 fr2 to2 wh2 wn2 cd2 cu2 ve2 co2 ad2 au2 su2 er2 : Int) (z2 f2 : Bool) (b : List PV) (ha : rOk a = true) (hb : rOk b = true) (k : Res → Option Res) : g40 0 kd1 fr1 to1 wh1 wn1 cd1 cu1 ve1 co1 ad1 au1 su1 er1 z1 f1 a kd2 fr2 to2 wh2 wn2 cd2 cu2 ve2 co2 ad2 au2 su2 er2 z2 f2 b k = k ⟨.sc (.bool (sameM ⟨⟨kd1, fr1, to1, wh1, wn1, cd1, cu1, ve1, co1, ad1, au1, su1, er1⟩, a⟩ ⟨⟨kd2, fr2, to2, wh2, wn2, cd2, cu2, ve2, co2, ad2, au2, su2, er2⟩, b⟩)), [], []⟩ := by
  unfold g40
  have hsm : sameM ⟨⟨kd1, fr1, to1, wh1, wn1, cd1, cu1, ve1, co1, ad1, au1, su1, er1⟩, a⟩ ⟨⟨kd2, fr2, to2, wh2, wn2, cd2, cu2, ve2, co2, ad2, au2, su2, er2⟩, b⟩ = (eqC ⟨kd1, fr1, to1, wh1, wn1, cd1, cu1, ve1, co1, ad1, au1, su1, er1⟩ ⟨kd2, fr2, to2, wh2, wn2, cd2, cu2, ve2, co2, ad2, au2, su2, er2⟩ && eqR a b) := sameM_eq _ _
  have bad : eqC ⟨kd1, fr1, to1, wh1, wn1, cd1, cu1, ve1, co1, ad1, au1, su1, er1⟩ ⟨kd2, fr2, to2, wh2, wn2, cd2, cu2, ve2, co2, ad2, au2, su2, er2⟩ = false → k ⟨.sc (.bool false), [], []⟩ = k ⟨.sc (.bool (sameM ⟨⟨kd1, fr1, to1, wh1, wn1, cd1, cu1, ve1, co1, ad1, au1, su1, er1⟩, a⟩ ⟨⟨kd2, fr2, to2, wh2, wn2, cd2, cu2, ve2, co2, ad2, au2, su2, er2⟩, b⟩)), [], []⟩ := fun h => by rw [hsm, h]; rfl
  by_cases hfr : ¬ (fr1 = fr2)
  · exact (bif_t (by simpa using hfr)).trans (bad (by simp [eqC, hfr]))
  replace hfr := Decidable.not_not.1 hfr
  refine (bif_f (by simpa using hfr)).trans ?_
  by_cases hto : ¬ (to1 = to2)
  · exact (bif_t (by simpa using hto)).trans (bad (by simp [eqC, hto]))
  replace hto := Decidable.not_not.1 hto
  refine (bif_f (by simpa using hto)).trans ?_
  by_cases hwh : ¬ (wh1 = wh2)
  · exact (bif_t (by simpa using hwh)).trans (bad (by simp [eqC, hwh]))
  replace hwh := Decidable.not_not.1 hwh
  refine (bif_f (by simpa using hwh)).trans ?_
  by_cases hwn : ¬ (wn1 = wn2)
  · exact (bif_t (by simpa using hwn)).trans (bad (by simp [eqC, hwn]))
  replace hwn := Decidable.not_not.1 hwn
  refine (bif_f (by simpa using hwn)).trans ?_
  by_cases hcd : ¬ (cd1 = cd2)
  · exact (bif_t (by simpa using hcd)).trans (bad (by simp [eqC, hcd]))
  replace hcd := Decidable.not_not.1 hcd
  refine (bif_f (by simpa using hcd)).trans ?_
  by_cases hcu : ¬ (cu1 = cu2)
  · exact (bif_t (by simpa using hcu)).trans (bad (by simp [eqC, hcu]))
  replace hcu := Decidable.not_not.1 hcu
  refine (bif_f (by simpa using hcu)).trans ?_
  by_cases hve : ¬ (ve1 = ve2)
  · exact (bif_t (by simpa using hve)).trans (bad (by simp [eqC, hve]))
  replace hve := Decidable.not_not.1 hve
  refine (bif_f (by simpa using hve)).trans ?_
  by_cases hco : ¬ (co1 = co2)
  · exact (bif_t (by simpa using hco)).trans (bad (by simp [eqC, hco]))
  replace hco := Decidable.not_not.1 hco
  refine (bif_f (by simpa using hco)).trans ?_
  by_cases had : ¬ (ad1 = ad2)
  · exact (bif_t (by simpa using had)).trans (bad (by simp [eqC, had]))
  replace had := Decidable.not_not.1 had
  refine (bif_f (by simpa using had)).trans ?_
  by_cases hau : ¬ (au1 = au2)
  · exact (bif_t (by simpa using hau)).trans (bad (by simp [eqC, hau]))
  replace hau := Decidable.not_not.1 hau
  refine (bif_f (by simpa using hau)).trans ?_
  by_cases hsu : ¬ (su1 = su2)
  · exact (bif_t (by simpa using hsu)).trans (bad (by simp [eqC, hsu]))
  replace hsu := Decidable.not_not.1 hsu
  refine (bif_f (by simpa using hsu)).trans ?_
  by_cases her : ¬ (er1 = er2)
  · exact (bif_t (by simpa using her)).trans (bad (by simp [eqC, her]))
  replace her := Decidable.not_not.1 her
  refine (bif_f (by simpa using her)).trans ?_
  by_cases hkd : ¬ (kd1 = kd2)
  · exact (bif_f (by simpa using hkd)).trans (bad (by simp [eqC, hkd]))
  replace hkd := Decidable.not_not.1 hkd
  refine (bif_t (by simpa using hkd)).trans ((bif_t (by rw [ha, hb]; rfl)).trans ?_)
  obtain rfl := hkd
  obtain rfl := hfr
  obtain rfl := hto
  obtain rfl := hwh
  obtain rfl := hwn
  obtain rfl := hcd
  obtain rfl := hcu
  obtain rfl := hve
  obtain rfl := hco
  obtain rfl := had
  obtain rfl := hau
  obtain rfl := hsu
  obtain rfl := her
  have hcc : eqC ⟨kd1, fr1, to1, wh1, wn1, cd1, cu1, ve1, co1, ad1, au1, su1, er1⟩ ⟨kd1, fr1, to1, wh1, wn1, cd1, cu1, ve1, co1, ad1, au1, su1, er1⟩ = true := eqC_iff.2 rfl
  rw [hcc, Bool.true_and] at hsm
  rw [hsm]
noncomputable def run40' : List PV → List Ent → (Res → Option Res) → Option Res
  | [.st 54 [.sc (.int .i64 kd1), .sc (.int .i64 fr1), .sc (.int .i64 to1), .st 34 [.sc (.int .i64 wh1), .sc (.int .i64 wn1)], .st 45 [.sc (.int .i64 cd1), .sc (.int .i64 cu1)], .sc (.int .i64 ve1), .sc (.int .i64 co1), .st 45 [.sc (.int .i64 ad1), .sc (.int .i64 au1)], .sc (.int .i64 su1), .sc (.int .i64 er1), .ro 29 z1 f1 a], .st 54 [.sc (.int .i64 kd2), .sc (.int .i64 fr2), .sc (.int .i64 to2), .st 34 [.sc (.int .i64 wh2), .sc (.int .i64 wn2)], .st 45 [.sc (.int .i64 cd2), .sc (.int .i64 cu2)], .sc (.int .i64 ve2), .sc (.int .i64 co2), .st 45 [.sc (.int .i64 ad2), .sc (.int .i64 au2)], .sc (.int .i64 su2), .sc (.int .i64 er2), .ro 29 z2 f2 b]], [], k => bif rOk a && rOk b then k ⟨.sc (.bool (sameM ⟨⟨kd1, fr1, to1, wh1, wn1, cd1, cu1, ve1, co1, ad1, au1, su1, er1⟩, a⟩ ⟨⟨kd2, fr2, to2, wh2, wn2, cd2, cu2, ve2, co2, ad2, au2, su2, er2⟩, b⟩)), [], []⟩ else none
  | _, _, _ => none
noncomputable def s40' : Sig := { own := [], run := run40' }
theorem ok40' : CallOk tau Try.prog 40 s40' := CallOk.mk' fun xs es k res hl hr => by
  change run40' xs es k = some res at hr
  unfold run40' at hr
  split at hr
  · rename_i kd1 fr1 to1 wh1 wn1 cd1 cu1 ve1 co1 ad1 au1 su1 er1 z1 f1 a kd2 fr2 to2 wh2 wn2 cd2 cu2 ve2 co2 ad2 au2 su2 er2 z2 f2 b
    obtain ⟨hc, hr⟩ := of_bif hr
    rw [Bool.and_eq_true] at hc
    have hg := (g40_eq kd1 fr1 to1 wh1 wn1 cd1 cu1 ve1 co1 ad1 au1 su1 er1 z1 f1 a kd2 fr2 to2 wh2 wn2 cd2 cu2 ve2 co2 ad2 au2 su2 er2 z2 f2 b hc.1 hc.2 k).trans hr
    exact fn_at tabOk F40_ok mixed fo40 bo40 an40 [.ro] 0 13 (ia40 0) hl rfl ((e40 0 kd1 fr1 to1 wh1 wn1 cd1 cu1 ve1 co1 ad1 au1 su1 er1 z1 f1 a kd2 fr2 to2 wh2 wn2 cd2 cu2 ve2 co2 ad2 au2 su2 er2 z2 f2 b k).trans hg)
  · cases hr
end Go.Proofs.Ytcklhipdldpkhaa.Rx

namespace Go.Proofs.Ytcklhipdldpkhaa.Rx
open Go
set_option linter.unusedVariables false
set_option maxRecDepth 100000
set_option maxHeartbeats 0
noncomputable def F12 : Fns := addF 41 s41' (addF 40 s40' (addF 39 s39' (addF 38 s38' (addF 37 s37' (addF 35 s35' (addF 34 s34' (addF 33 s33' (addF 32 s32' (addF 31 s31' (addF 21 s21' (F0)))))))))))
theorem F12_ok : FnsOk tau Try.prog F12 := (((((((((((F0_ok).add ok21' en21).add ok31' en31).add ok32' en32).add ok33' en33).add ok34' en34).add ok35' en35).add ok37' en37).add ok38' en38).add ok39' en39).add ok40' en40).add ok41' en41
def an12 : An := (.seq .leaf (.seq (.seq .leaf (.cond (.seq .leaf .leaf) .leaf)) (.seq (.seq .leaf (.cond (.seq .leaf .leaf) .leaf)) (.seq .leaf (.seq .leaf (.seq .leaf (.seq (.seq .leaf (.cond (.seq .leaf .leaf) .leaf)) (.seq .leaf (.seq (.seq .leaf (.cond (.seq .leaf .leaf) .leaf)) (.seq .leaf (.seq .leaf (.seq .leaf (.seq .leaf (.seq (.seq .leaf (.cond (.seq .leaf .leaf) .leaf)) (.seq .leaf (.seq .leaf (.seq .leaf (.seq .leaf .leaf))))))))))))))))))
noncomputable abbrev q12_1 (m_Kind : Int) (m_From : Int) (m_To : Int) (m_W_Host : Int) (m_W_N : Int) (m_Creator_D : Int) (m_Creator_U : Int) (m_Version : Int) (m_Commit : Int) (m_Author_D : Int) (m_Author_U : Int) (m_Sub : Int) (m_Err : Int) (which : Int) (n : Int) := ([PV.sc (.int .i64 (goodF 0 (C13.mk m_Kind m_From m_To m_W_Host m_W_N m_Creator_D m_Creator_U m_Version m_Commit m_Author_D m_Author_U m_Sub m_Err))), PV.sc (.int .i64 (goodF 1 (C13.mk m_Kind m_From m_To m_W_Host m_W_N m_Creator_D m_Creator_U m_Version m_Commit m_Author_D m_Author_U m_Sub m_Err))), PV.sc (.int .i64 (goodF 2 (C13.mk m_Kind m_From m_To m_W_Host m_W_N m_Creator_D m_Creator_U m_Version m_Commit m_Author_D m_Author_U m_Sub m_Err))), PV.sc (.int .i64 (goodF 3 (C13.mk m_Kind m_From m_To m_W_Host m_W_N m_Creator_D m_Creator_U m_Version m_Commit m_Author_D m_Author_U m_Sub m_Err))), PV.sc (.int .i64 (goodF 4 (C13.mk m_Kind m_From m_To m_W_Host m_W_N m_Creator_D m_Creator_U m_Version m_Commit m_Author_D m_Author_U m_Sub m_Err))), PV.sc (.int .i64 (goodF 5 (C13.mk m_Kind m_From m_To m_W_Host m_W_N m_Creator_D m_Creator_U m_Version m_Commit m_Author_D m_Author_U m_Sub m_Err))), PV.sc (.int .i64 (goodF 6 (C13.mk m_Kind m_From m_To m_W_Host m_W_N m_Creator_D m_Creator_U m_Version m_Commit m_Author_D m_Author_U m_Sub m_Err))), PV.sc (.int .i64 (goodF 7 (C13.mk m_Kind m_From m_To m_W_Host m_W_N m_Creator_D m_Creator_U m_Version m_Commit m_Author_D m_Author_U m_Sub m_Err))), PV.sc (.int .i64 (goodF 8 (C13.mk m_Kind m_From m_To m_W_Host m_W_N m_Creator_D m_Creator_U m_Version m_Commit m_Author_D m_Author_U m_Sub m_Err))), PV.sc (.int .i64 (goodF 9 (C13.mk m_Kind m_From m_To m_W_Host m_W_N m_Creator_D m_Creator_U m_Version m_Commit m_Author_D m_Author_U m_Sub m_Err))), PV.sc (.int .i64 (goodF 10 (C13.mk m_Kind m_From m_To m_W_Host m_W_N m_Creator_D m_Creator_U m_Version m_Commit m_Author_D m_Author_U m_Sub m_Err))), PV.sc (.int .i64 (goodF 11 (C13.mk m_Kind m_From m_To m_W_Host m_W_N m_Creator_D m_Creator_U m_Version m_Commit m_Author_D m_Author_U m_Sub m_Err))), PV.sc (.int .i64 (goodF 12 (C13.mk m_Kind m_From m_To m_W_Host m_W_N m_Creator_D m_Creator_U m_Version m_Commit m_Author_D m_Author_U m_Sub m_Err)))].set (0 + (which % zi 13).toNat) (PV.sc (.int .i64 n)))
noncomputable abbrev q12_0 (m_Kind : Int) (m_From : Int) (m_To : Int) (m_W_Host : Int) (m_W_N : Int) (m_Creator_D : Int) (m_Creator_U : Int) (m_Version : Int) (m_Commit : Int) (m_Author_D : Int) (m_Author_U : Int) (m_Sub : Int) (m_Err : Int) (m_Body : List PV) (which : Int) (n : Int) := (wB (WM.mk [PV.ro 5 false false (kb 0 []), PV.ro 5 false false (kb 1 []), PV.ro 5 false false (kb 2 [])] (C13.mk (getP ((q12_1 m_Kind m_From m_To m_W_Host m_W_N m_Creator_D m_Creator_U m_Version m_Commit m_Author_D m_Author_U m_Sub m_Err which n).getD 0 PV.top) []).int (getP ((q12_1 m_Kind m_From m_To m_W_Host m_W_N m_Creator_D m_Creator_U m_Version m_Commit m_Author_D m_Author_U m_Sub m_Err which n).getD 1 PV.top) []).int (getP ((q12_1 m_Kind m_From m_To m_W_Host m_W_N m_Creator_D m_Creator_U m_Version m_Commit m_Author_D m_Author_U m_Sub m_Err which n).getD 2 PV.top) []).int (getP ((q12_1 m_Kind m_From m_To m_W_Host m_W_N m_Creator_D m_Creator_U m_Version m_Commit m_Author_D m_Author_U m_Sub m_Err which n).getD 3 PV.top) []).int (getP ((q12_1 m_Kind m_From m_To m_W_Host m_W_N m_Creator_D m_Creator_U m_Version m_Commit m_Author_D m_Author_U m_Sub m_Err which n).getD 4 PV.top) []).int (getP ((q12_1 m_Kind m_From m_To m_W_Host m_W_N m_Creator_D m_Creator_U m_Version m_Commit m_Author_D m_Author_U m_Sub m_Err which n).getD 5 PV.top) []).int (getP ((q12_1 m_Kind m_From m_To m_W_Host m_W_N m_Creator_D m_Creator_U m_Version m_Commit m_Author_D m_Author_U m_Sub m_Err which n).getD 6 PV.top) []).int (getP ((q12_1 m_Kind m_From m_To m_W_Host m_W_N m_Creator_D m_Creator_U m_Version m_Commit m_Author_D m_Author_U m_Sub m_Err which n).getD 7 PV.top) []).int (getP ((q12_1 m_Kind m_From m_To m_W_Host m_W_N m_Creator_D m_Creator_U m_Version m_Commit m_Author_D m_Author_U m_Sub m_Err which n).getD 8 PV.top) []).int (getP ((q12_1 m_Kind m_From m_To m_W_Host m_W_N m_Creator_D m_Creator_U m_Version m_Commit m_Author_D m_Author_U m_Sub m_Err which n).getD 9 PV.top) []).int (getP ((q12_1 m_Kind m_From m_To m_W_Host m_W_N m_Creator_D m_Creator_U m_Version m_Commit m_Author_D m_Author_U m_Sub m_Err which n).getD 10 PV.top) []).int (getP ((q12_1 m_Kind m_From m_To m_W_Host m_W_N m_Creator_D m_Creator_U m_Version m_Commit m_Author_D m_Author_U m_Sub m_Err which n).getD 11 PV.top) []).int (getP ((q12_1 m_Kind m_From m_To m_W_Host m_W_N m_Creator_D m_Creator_U m_Version m_Commit m_Author_D m_Author_U m_Sub m_Err which n).getD 12 PV.top) []).int) (gB m_Body)))
noncomputable abbrev q12_5 (m_Kind : Int) (m_From : Int) (m_To : Int) (m_W_Host : Int) (m_W_N : Int) (m_Creator_D : Int) (m_Creator_U : Int) (m_Version : Int) (m_Commit : Int) (m_Author_D : Int) (m_Author_U : Int) (m_Sub : Int) (m_Err : Int) (m_Body : List PV) := (wB (WM.mk [PV.ro 5 false false (kb 0 []), PV.ro 5 false false (kb 1 []), PV.ro 5 false false (kb 2 [])] (gcOf (C13.mk m_Kind m_From m_To m_W_Host m_W_N m_Creator_D m_Creator_U m_Version m_Commit m_Author_D m_Author_U m_Sub m_Err)) (gB m_Body)))
noncomputable abbrev q12_2 (m_Kind : Int) (m_From : Int) (m_To : Int) (m_W_Host : Int) (m_W_N : Int) (m_Creator_D : Int) (m_Creator_U : Int) (m_Version : Int) (m_Commit : Int) (m_Author_D : Int) (m_Author_U : Int) (m_Sub : Int) (m_Err : Int) (m_Body : List PV) := (PA.mk [PV.ro 5 false false (kb 0 []), PV.ro 5 false false (kb 1 []), PV.ro 5 false false (kb 2 [])] (List.take (q12_5 m_Kind m_From m_To m_W_Host m_W_N m_Creator_D m_Creator_U m_Version m_Commit m_Author_D m_Author_U m_Sub m_Err m_Body).length (pu IntKind.u8 (q12_5 m_Kind m_From m_To m_W_Host m_W_N m_Creator_D m_Creator_U m_Version m_Commit m_Author_D m_Author_U m_Sub m_Err m_Body))))
noncomputable abbrev q12_3 (m_Kind : Int) (m_From : Int) (m_To : Int) (m_W_Host : Int) (m_W_N : Int) (m_Creator_D : Int) (m_Creator_U : Int) (m_Version : Int) (m_Commit : Int) (m_Author_D : Int) (m_Author_U : Int) (m_Sub : Int) (m_Err : Int) (m_Body : List PV) (which : Int) (n : Int) := (PA.mk [PV.ro 5 false false (kb 0 []), PV.ro 5 false false (kb 1 []), PV.ro 5 false false (kb 2 [])] (List.take (q12_0 m_Kind m_From m_To m_W_Host m_W_N m_Creator_D m_Creator_U m_Version m_Commit m_Author_D m_Author_U m_Sub m_Err m_Body which n).length (pu IntKind.u8 (q12_0 m_Kind m_From m_To m_W_Host m_W_N m_Creator_D m_Creator_U m_Version m_Commit m_Author_D m_Author_U m_Sub m_Err m_Body which n))))
noncomputable abbrev q12_4 (m_Kind : Int) (m_From : Int) (m_To : Int) (m_W_Host : Int) (m_W_N : Int) (m_Creator_D : Int) (m_Creator_U : Int) (m_Version : Int) (m_Commit : Int) (m_Author_D : Int) (m_Author_U : Int) (m_Sub : Int) (m_Err : Int) (m_Body : List PV) (which : Int) (n : Int) := (MS.mk (C13.mk (pfld 0 (q12_3 m_Kind m_From m_To m_W_Host m_W_N m_Creator_D m_Creator_U m_Version m_Commit m_Author_D m_Author_U m_Sub m_Err m_Body which n)) (pfld 1 (q12_3 m_Kind m_From m_To m_W_Host m_W_N m_Creator_D m_Creator_U m_Version m_Commit m_Author_D m_Author_U m_Sub m_Err m_Body which n)) (pfld 2 (q12_3 m_Kind m_From m_To m_W_Host m_W_N m_Creator_D m_Creator_U m_Version m_Commit m_Author_D m_Author_U m_Sub m_Err m_Body which n)) (pfld 3 (q12_3 m_Kind m_From m_To m_W_Host m_W_N m_Creator_D m_Creator_U m_Version m_Commit m_Author_D m_Author_U m_Sub m_Err m_Body which n)) (pfld 4 (q12_3 m_Kind m_From m_To m_W_Host m_W_N m_Creator_D m_Creator_U m_Version m_Commit m_Author_D m_Author_U m_Sub m_Err m_Body which n)) (pfld 5 (q12_3 m_Kind m_From m_To m_W_Host m_W_N m_Creator_D m_Creator_U m_Version m_Commit m_Author_D m_Author_U m_Sub m_Err m_Body which n)) (pfld 6 (q12_3 m_Kind m_From m_To m_W_Host m_W_N m_Creator_D m_Creator_U m_Version m_Commit m_Author_D m_Author_U m_Sub m_Err m_Body which n)) (pfld 7 (q12_3 m_Kind m_From m_To m_W_Host m_W_N m_Creator_D m_Creator_U m_Version m_Commit m_Author_D m_Author_U m_Sub m_Err m_Body which n)) (pfld 8 (q12_3 m_Kind m_From m_To m_W_Host m_W_N m_Creator_D m_Creator_U m_Version m_Commit m_Author_D m_Author_U m_Sub m_Err m_Body which n)) (pfld 9 (q12_3 m_Kind m_From m_To m_W_Host m_W_N m_Creator_D m_Creator_U m_Version m_Commit m_Author_D m_Author_U m_Sub m_Err m_Body which n)) (pfld 10 (q12_3 m_Kind m_From m_To m_W_Host m_W_N m_Creator_D m_Creator_U m_Version m_Commit m_Author_D m_Author_U m_Sub m_Err m_Body which n)) (pfld 11 (q12_3 m_Kind m_From m_To m_W_Host m_W_N m_Creator_D m_Creator_U m_Version m_Commit m_Author_D m_Author_U m_Sub m_Err m_Body which n)) (pfld 12 (q12_3 m_Kind m_From m_To m_W_Host m_W_N m_Creator_D m_Creator_U m_Version m_Commit m_Author_D m_Author_U m_Sub m_Err m_Body which n))) (pbod (q12_3 m_Kind m_From m_To m_W_Host m_W_N m_Creator_D m_Creator_U m_Version m_Commit m_Author_D m_Author_U m_Sub m_Err m_Body which n)))
noncomputable abbrev q12_6 (m_Kind : Int) (m_From : Int) (m_To : Int) (m_W_Host : Int) (m_W_N : Int) (m_Creator_D : Int) (m_Creator_U : Int) (m_Version : Int) (m_Commit : Int) (m_Author_D : Int) (m_Author_U : Int) (m_Sub : Int) (m_Err : Int) (m_Body : List PV) := (MS.mk (C13.mk (pfld 0 (q12_2 m_Kind m_From m_To m_W_Host m_W_N m_Creator_D m_Creator_U m_Version m_Commit m_Author_D m_Author_U m_Sub m_Err m_Body)) (pfld 1 (q12_2 m_Kind m_From m_To m_W_Host m_W_N m_Creator_D m_Creator_U m_Version m_Commit m_Author_D m_Author_U m_Sub m_Err m_Body)) (pfld 2 (q12_2 m_Kind m_From m_To m_W_Host m_W_N m_Creator_D m_Creator_U m_Version m_Commit m_Author_D m_Author_U m_Sub m_Err m_Body)) (pfld 3 (q12_2 m_Kind m_From m_To m_W_Host m_W_N m_Creator_D m_Creator_U m_Version m_Commit m_Author_D m_Author_U m_Sub m_Err m_Body)) (pfld 4 (q12_2 m_Kind m_From m_To m_W_Host m_W_N m_Creator_D m_Creator_U m_Version m_Commit m_Author_D m_Author_U m_Sub m_Err m_Body)) (pfld 5 (q12_2 m_Kind m_From m_To m_W_Host m_W_N m_Creator_D m_Creator_U m_Version m_Commit m_Author_D m_Author_U m_Sub m_Err m_Body)) (pfld 6 (q12_2 m_Kind m_From m_To m_W_Host m_W_N m_Creator_D m_Creator_U m_Version m_Commit m_Author_D m_Author_U m_Sub m_Err m_Body)) (pfld 7 (q12_2 m_Kind m_From m_To m_W_Host m_W_N m_Creator_D m_Creator_U m_Version m_Commit m_Author_D m_Author_U m_Sub m_Err m_Body)) (pfld 8 (q12_2 m_Kind m_From m_To m_W_Host m_W_N m_Creator_D m_Creator_U m_Version m_Commit m_Author_D m_Author_U m_Sub m_Err m_Body)) (pfld 9 (q12_2 m_Kind m_From m_To m_W_Host m_W_N m_Creator_D m_Creator_U m_Version m_Commit m_Author_D m_Author_U m_Sub m_Err m_Body)) (pfld 10 (q12_2 m_Kind m_From m_To m_W_Host m_W_N m_Creator_D m_Creator_U m_Version m_Commit m_Author_D m_Author_U m_Sub m_Err m_Body)) (pfld 11 (q12_2 m_Kind m_From m_To m_W_Host m_W_N m_Creator_D m_Creator_U m_Version m_Commit m_Author_D m_Author_U m_Sub m_Err m_Body)) (pfld 12 (q12_2 m_Kind m_From m_To m_W_Host m_W_N m_Creator_D m_Creator_U m_Version m_Commit m_Author_D m_Author_U m_Sub m_Err m_Body))) (pbod (q12_2 m_Kind m_From m_To m_W_Host m_W_N m_Creator_D m_Creator_U m_Version m_Commit m_Author_D m_Author_U m_Sub m_Err m_Body)))
noncomputable def g12 (f : Nat) (m_Kind : Int) (m_From : Int) (m_To : Int) (m_W_Host : Int) (m_W_N : Int) (m_Creator_D : Int) (m_Creator_U : Int) (m_Version : Int) (m_Commit : Int) (m_Author_D : Int) (m_Author_U : Int) (m_Sub : Int) (m_Err : Int) (m_Body_z : Bool) (m_Body_f : Bool) (m_Body : List PV) (which : Int) (n : Int) (k : Res → Option Res) : Option Res := bif m_Body.all (PV.isRo 5) && m_Body.length.ble 9223372036854775807 then bif !fewB m_Body then k (Res.mk (.sc (.bool true)) [] []) else bif rOk (gB m_Body) && (kOk (kb 0 []) && (kOk (kb 1 []) && kOk (kb 2 []))) then bif allInt IntKind.u8 (List.take (q12_5 m_Kind m_From m_To m_W_Host m_W_N m_Creator_D m_Creator_U m_Version m_Commit m_Author_D m_Author_U m_Sub m_Err m_Body).length (pu IntKind.u8 (q12_5 m_Kind m_From m_To m_W_Host m_W_N m_Creator_D m_Creator_U m_Version m_Commit m_Author_D m_Author_U m_Sub m_Err m_Body))) && true then bif inA [goodF 1 (C13.mk m_Kind m_From m_To m_W_Host m_W_N m_Creator_D m_Creator_U m_Version m_Commit m_Author_D m_Author_U m_Sub m_Err), 2] && (rOk (gB m_Body) && (kOk (kb 0 []) && (kOk (kb 1 []) && kOk (kb 2 [])))) then bif allInt IntKind.u8 (List.take (q12_5 m_Kind m_From m_To m_W_Host m_W_N m_Creator_D m_Creator_U m_Version m_Commit m_Author_D m_Author_U m_Sub m_Err m_Body).length (pu IntKind.u8 (q12_5 m_Kind m_From m_To m_W_Host m_W_N m_Creator_D m_Creator_U m_Version m_Commit m_Author_D m_Author_U m_Sub m_Err m_Body))) && true then bif !beqB (ByteArray.mk (Array.mk (toBytes ((Ent.vec false 5 false (pu IntKind.u8 (q12_5 m_Kind m_From m_To m_W_Host m_W_N m_Creator_D m_Creator_U m_Version m_Commit m_Author_D m_Author_U m_Sub m_Err m_Body))).nil, List.take (q12_5 m_Kind m_From m_To m_W_Host m_W_N m_Creator_D m_Creator_U m_Version m_Commit m_Author_D m_Author_U m_Sub m_Err m_Body).length (List.drop 0 (pu IntKind.u8 (q12_5 m_Kind m_From m_To m_W_Host m_W_N m_Creator_D m_Creator_U m_Version m_Commit m_Author_D m_Author_U m_Sub m_Err m_Body)))).snd))) (ByteArray.mk (Array.mk (toBytes ((Ent.vec false 5 false (pu IntKind.u8 (q12_5 m_Kind m_From m_To m_W_Host m_W_N m_Creator_D m_Creator_U m_Version m_Commit m_Author_D m_Author_U m_Sub m_Err m_Body))).nil, List.take (q12_5 m_Kind m_From m_To m_W_Host m_W_N m_Creator_D m_Creator_U m_Version m_Commit m_Author_D m_Author_U m_Sub m_Err m_Body).length (List.drop 0 (pu IntKind.u8 (q12_5 m_Kind m_From m_To m_W_Host m_W_N m_Creator_D m_Creator_U m_Version m_Commit m_Author_D m_Author_U m_Sub m_Err m_Body)))).snd))) then k (Res.mk (.sc (.bool false)) [] []) else bif slB (Ent.vec false 5 false (pu IntKind.u8 (q12_5 m_Kind m_From m_To m_W_Host m_W_N m_Creator_D m_Creator_U m_Version m_Commit m_Author_D m_Author_U m_Sub m_Err m_Body))).nil (List.take (q12_5 m_Kind m_From m_To m_W_Host m_W_N m_Creator_D m_Creator_U m_Version m_Commit m_Author_D m_Author_U m_Sub m_Err m_Body).length (List.drop 0 (pu IntKind.u8 (q12_5 m_Kind m_From m_To m_W_Host m_W_N m_Creator_D m_Creator_U m_Version m_Commit m_Author_D m_Author_U m_Sub m_Err m_Body)))) && byB (List.take (q12_5 m_Kind m_From m_To m_W_Host m_W_N m_Creator_D m_Creator_U m_Version m_Commit m_Author_D m_Author_U m_Sub m_Err m_Body).length (pu IntKind.u8 (q12_5 m_Kind m_From m_To m_W_Host m_W_N m_Creator_D m_Creator_U m_Version m_Commit m_Author_D m_Author_U m_Sub m_Err m_Body))) && (kOk (kb 0 []) && (kOk (kb 1 []) && kOk (kb 2 []))) then bif parE (q12_2 m_Kind m_From m_To m_W_Host m_W_N m_Creator_D m_Creator_U m_Version m_Commit m_Author_D m_Author_U m_Sub m_Err m_Body) != 0 then k (Res.mk (.sc (.bool false)) [] []) else bif rOk (pbod (q12_2 m_Kind m_From m_To m_W_Host m_W_N m_Creator_D m_Creator_U m_Version m_Commit m_Author_D m_Author_U m_Sub m_Err m_Body)) && rOk (gB m_Body) then bif !sameM (q12_6 m_Kind m_From m_To m_W_Host m_W_N m_Creator_D m_Creator_U m_Version m_Commit m_Author_D m_Author_U m_Sub m_Err m_Body) (MS.mk (gcOf (C13.mk m_Kind m_From m_To m_W_Host m_W_N m_Creator_D m_Creator_U m_Version m_Commit m_Author_D m_Author_U m_Sub m_Err)) (gB m_Body)) then k (Res.mk (.sc (.bool false)) [] []) else bif rOk (pbod (q12_2 m_Kind m_From m_To m_W_Host m_W_N m_Creator_D m_Creator_U m_Version m_Commit m_Author_D m_Author_U m_Sub m_Err m_Body)) && rOk (gB m_Body) then bif !sameM (q12_6 m_Kind m_From m_To m_W_Host m_W_N m_Creator_D m_Creator_U m_Version m_Commit m_Author_D m_Author_U m_Sub m_Err m_Body) (MS.mk (gcOf (C13.mk m_Kind m_From m_To m_W_Host m_W_N m_Creator_D m_Creator_U m_Version m_Commit m_Author_D m_Author_U m_Sub m_Err)) (gB m_Body)) then k (Res.mk (.sc (.bool false)) [] []) else bif okW (zi 13) then bif decide (0 ≤ which % zi 13) && decide (which % zi 13 < zi 13) && true then bif PV.isInt IntKind.i64 (getP ((q12_1 m_Kind m_From m_To m_W_Host m_W_N m_Creator_D m_Creator_U m_Version m_Commit m_Author_D m_Author_U m_Sub m_Err which n).getD 0 PV.top) []) && true then bif PV.isInt IntKind.i64 (getP ((q12_1 m_Kind m_From m_To m_W_Host m_W_N m_Creator_D m_Creator_U m_Version m_Commit m_Author_D m_Author_U m_Sub m_Err which n).getD 1 PV.top) []) && true then bif PV.isInt IntKind.i64 (getP ((q12_1 m_Kind m_From m_To m_W_Host m_W_N m_Creator_D m_Creator_U m_Version m_Commit m_Author_D m_Author_U m_Sub m_Err which n).getD 2 PV.top) []) && true then bif PV.isInt IntKind.i64 (getP ((q12_1 m_Kind m_From m_To m_W_Host m_W_N m_Creator_D m_Creator_U m_Version m_Commit m_Author_D m_Author_U m_Sub m_Err which n).getD 3 PV.top) []) && true then bif PV.isInt IntKind.i64 (getP ((q12_1 m_Kind m_From m_To m_W_Host m_W_N m_Creator_D m_Creator_U m_Version m_Commit m_Author_D m_Author_U m_Sub m_Err which n).getD 4 PV.top) []) && true then bif PV.isInt IntKind.i64 (getP ((q12_1 m_Kind m_From m_To m_W_Host m_W_N m_Creator_D m_Creator_U m_Version m_Commit m_Author_D m_Author_U m_Sub m_Err which n).getD 5 PV.top) []) && true then bif PV.isInt IntKind.i64 (getP ((q12_1 m_Kind m_From m_To m_W_Host m_W_N m_Creator_D m_Creator_U m_Version m_Commit m_Author_D m_Author_U m_Sub m_Err which n).getD 6 PV.top) []) && true then bif PV.isInt IntKind.i64 (getP ((q12_1 m_Kind m_From m_To m_W_Host m_W_N m_Creator_D m_Creator_U m_Version m_Commit m_Author_D m_Author_U m_Sub m_Err which n).getD 7 PV.top) []) && true then bif PV.isInt IntKind.i64 (getP ((q12_1 m_Kind m_From m_To m_W_Host m_W_N m_Creator_D m_Creator_U m_Version m_Commit m_Author_D m_Author_U m_Sub m_Err which n).getD 8 PV.top) []) && true then bif PV.isInt IntKind.i64 (getP ((q12_1 m_Kind m_From m_To m_W_Host m_W_N m_Creator_D m_Creator_U m_Version m_Commit m_Author_D m_Author_U m_Sub m_Err which n).getD 9 PV.top) []) && true then bif PV.isInt IntKind.i64 (getP ((q12_1 m_Kind m_From m_To m_W_Host m_W_N m_Creator_D m_Creator_U m_Version m_Commit m_Author_D m_Author_U m_Sub m_Err which n).getD 10 PV.top) []) && true then bif PV.isInt IntKind.i64 (getP ((q12_1 m_Kind m_From m_To m_W_Host m_W_N m_Creator_D m_Creator_U m_Version m_Commit m_Author_D m_Author_U m_Sub m_Err which n).getD 11 PV.top) []) && true then bif PV.isInt IntKind.i64 (getP ((q12_1 m_Kind m_From m_To m_W_Host m_W_N m_Creator_D m_Creator_U m_Version m_Commit m_Author_D m_Author_U m_Sub m_Err which n).getD 12 PV.top) []) && true then bif decide ((getP ((q12_1 m_Kind m_From m_To m_W_Host m_W_N m_Creator_D m_Creator_U m_Version m_Commit m_Author_D m_Author_U m_Sub m_Err which n).getD 1 PV.top) []).int < 0) then k (Res.mk (.sc (.bool true)) [] []) else bif decide ((getP ((q12_1 m_Kind m_From m_To m_W_Host m_W_N m_Creator_D m_Creator_U m_Version m_Commit m_Author_D m_Author_U m_Sub m_Err which n).getD 1 PV.top) []).int > 2) then k (Res.mk (.sc (.bool true)) [] []) else bif inA [(getP ((q12_1 m_Kind m_From m_To m_W_Host m_W_N m_Creator_D m_Creator_U m_Version m_Commit m_Author_D m_Author_U m_Sub m_Err which n).getD 1 PV.top) []).int, 2] && (rOk (gB m_Body) && (kOk (kb 0 []) && (kOk (kb 1 []) && kOk (kb 2 [])))) then bif slB (Ent.vec false 5 false (pu IntKind.u8 (q12_0 m_Kind m_From m_To m_W_Host m_W_N m_Creator_D m_Creator_U m_Version m_Commit m_Author_D m_Author_U m_Sub m_Err m_Body which n))).nil (List.take (q12_0 m_Kind m_From m_To m_W_Host m_W_N m_Creator_D m_Creator_U m_Version m_Commit m_Author_D m_Author_U m_Sub m_Err m_Body which n).length (List.drop 0 (pu IntKind.u8 (q12_0 m_Kind m_From m_To m_W_Host m_W_N m_Creator_D m_Creator_U m_Version m_Commit m_Author_D m_Author_U m_Sub m_Err m_Body which n)))) && byB (List.take (q12_0 m_Kind m_From m_To m_W_Host m_W_N m_Creator_D m_Creator_U m_Version m_Commit m_Author_D m_Author_U m_Sub m_Err m_Body which n).length (pu IntKind.u8 (q12_0 m_Kind m_From m_To m_W_Host m_W_N m_Creator_D m_Creator_U m_Version m_Commit m_Author_D m_Author_U m_Sub m_Err m_Body which n))) && (kOk (kb 0 []) && (kOk (kb 1 []) && kOk (kb 2 []))) then bif byB (List.take (q12_0 m_Kind m_From m_To m_W_Host m_W_N m_Creator_D m_Creator_U m_Version m_Commit m_Author_D m_Author_U m_Sub m_Err m_Body which n).length (pu IntKind.u8 (q12_0 m_Kind m_From m_To m_W_Host m_W_N m_Creator_D m_Creator_U m_Version m_Commit m_Author_D m_Author_U m_Sub m_Err m_Body which n))) && (kOk (kb 0 []) && (kOk (kb 1 []) && kOk (kb 2 []))) then bif parE (q12_3 m_Kind m_From m_To m_W_Host m_W_N m_Creator_D m_Creator_U m_Version m_Commit m_Author_D m_Author_U m_Sub m_Err m_Body which n) == parE (q12_3 m_Kind m_From m_To m_W_Host m_W_N m_Creator_D m_Creator_U m_Version m_Commit m_Author_D m_Author_U m_Sub m_Err m_Body which n) then bif rOk (pbod (q12_3 m_Kind m_From m_To m_W_Host m_W_N m_Creator_D m_Creator_U m_Version m_Commit m_Author_D m_Author_U m_Sub m_Err m_Body which n)) && rOk (pbod (q12_3 m_Kind m_From m_To m_W_Host m_W_N m_Creator_D m_Creator_U m_Version m_Commit m_Author_D m_Author_U m_Sub m_Err m_Body which n)) then k (Res.mk (.sc (.bool (sameM (q12_4 m_Kind m_From m_To m_W_Host m_W_N m_Creator_D m_Creator_U m_Version m_Commit m_Author_D m_Author_U m_Sub m_Err m_Body which n) (q12_4 m_Kind m_From m_To m_W_Host m_W_N m_Creator_D m_Creator_U m_Version m_Commit m_Author_D m_Author_U m_Sub m_Err m_Body which n)))) [] []) else none else k (Res.mk (.sc (.bool false)) [] []) else none else none else none else none else none else none else none else none else none else none else none else none else none else none else none else none else none else none else none else none else none else none else none else none else none else none
theorem e12 (f : Nat) (m_Kind : Int) (m_From : Int) (m_To : Int) (m_W_Host : Int) (m_W_N : Int) (m_Creator_D : Int) (m_Creator_U : Int) (m_Version : Int) (m_Commit : Int) (m_Author_D : Int) (m_Author_U : Int) (m_Sub : Int) (m_Err : Int) (m_Body_z : Bool) (m_Body_f : Bool) (m_Body : List PV) (which : Int) (n : Int) (k : Res → Option Res) : evFn tau F12 Try.f12 (Try.f12.body.get!) an12 [.ro] 0 [.st 54 [.sc (.int .i64 m_Kind), .sc (.int .i64 m_From), .sc (.int .i64 m_To), .st 34 [.sc (.int .i64 m_W_Host), .sc (.int .i64 m_W_N)], .st 45 [.sc (.int .i64 m_Creator_D), .sc (.int .i64 m_Creator_U)], .sc (.int .i64 m_Version), .sc (.int .i64 m_Commit), .st 45 [.sc (.int .i64 m_Author_D), .sc (.int .i64 m_Author_U)], .sc (.int .i64 m_Sub), .sc (.int .i64 m_Err), .ro 29 m_Body_z m_Body_f m_Body], .sc (.int .i64 which), .sc (.int .i64 n)] [] k = g12 f m_Kind m_From m_To m_W_Host m_W_N m_Creator_D m_Creator_U m_Version m_Commit m_Author_D m_Author_U m_Sub m_Err m_Body_z m_Body_f m_Body which n k := by kernel_rfl
theorem it12 (f : Nat) : items (Try.f12.body.get!) an12 = [] := by kernel_rfl
theorem ia12 (f : Nat) : ∀ q ∈ items (Try.f12.body.get!) an12, q.Ok tau Try.prog 0 := by
  rw [it12 f]; intro q hq; cases hq
theorem fo12 : Try.prog.funcs[12]? = some Try.f12 := by kernel_rfl
theorem bo12 : Try.f12.body = some (Try.f12.body.get!) := by kernel_rfl
end Go.Proofs.Ytcklhipdldpkhaa.Rx

namespace Go.Proofs.Ytcklhipdldpkhaa.Rx
open Go
set_option linter.unusedVariables false
set_option linter.unusedSimpArgs false
set_option maxRecDepth 100000
noncomputable def fldsOf (T : TypeId) : List TypeId := match tau.und T with | some (.struct fds) => fds.toList.map (·.type) | _ => []
theorem tyL_of {τ : Tab} {n : Nat} : ∀ (ts : List TypeId) (ps : List PV), ts.length = ps.length → (∀ (i : Nat) (t : TypeId) (q : PV), ts[i]? = some t → ps[i]? = some q → Ty τ n t q) → TyL τ n ts ps
  | [], [], _, _ => trivial
  | t :: ts, p :: ps, hl, h => ⟨h 0 t p rfl rfl, tyL_of ts ps (by simpa using hl) fun i t q h1 h2 => h (i + 1) t q (by simpa using h1) (by simpa using h2)⟩
  | [], _ :: _, hl, _ => by simp at hl
  | _ :: _, [], hl, _ => by simp at hl
theorem tyL_cons {τ : Tab} {n : Nat} {t : TypeId} {ts : List TypeId} {ps : List PV} (h : TyL τ n (t :: ts) ps) : ∃ p r, ps = p :: r ∧ Ty τ n t p ∧ TyL τ n ts r := by
  cases ps with
  | nil => exact h.elim
  | cons p r => exact ⟨p, r, rfl, h.1, h.2⟩
theorem tyL_nil {τ : Tab} {n : Nat} {ps : List PV} (h : TyL τ n [] ps) : ps = [] := by
  cases ps with
  | nil => rfl
  | cons p r => exact h.elim
theorem ty_fields {n : Nat} {T : TypeId} {tys : List TypeId} {p : PV} (hc : fldsOf T = tys) (hne : tys ≠ []) (h : Ty tau (n + 1) T p) : ∃ fs, p = .st T fs ∧ TyL tau n tys fs := by
  unfold fldsOf at hc
  split at hc
  · rename_i fds hu
    obtain ⟨fs, rfl, hl, hf⟩ := ty_struct hu h
    refine ⟨fs, rfl, tyL_of tys fs (by rw [← hc]; simpa using hl.symm) fun i t q h1 h2 => ?_⟩
    rw [← hc, List.getElem?_map] at h1
    rw [Array.getElem?_toList] at h1
    cases hfi : fds[i]? with
    | none => rw [hfi] at h1; cases h1
    | some f =>
      rw [hfi] at h1
      obtain rfl := Option.some.inj h1
      exact hf i f q hfi h2
  · exact absurd hc.symm hne
theorem ty_i64 {n : Nat} {p : PV} (h : Ty tau (n + 1) 3 p) : ∃ x, p = .sc (.int .i64 x) ∧ i64B x = true := by
  have u : tau.und 3 = some (.int .i64) := by kernel_rfl
  obtain ⟨x, rfl, hx⟩ := ty_int u h
  refine ⟨x, rfl, ?_⟩
  have e1 : IntKind.i64.min = -9223372036854775808 := rfl
  have e2 : IntKind.i64.max = 9223372036854775807 := rfl
  simp only [Lit.wf, e1, e2, Bool.and_eq_true, decide_eq_true_eq] at hx
  simp only [i64B, Bool.and_eq_true, decide_eq_true_eq]
  omega
theorem ty_two {n : Nat} {T : TypeId} {p : PV} (hc : fldsOf T = [3, 3]) (h : Ty tau (n + 2) T p) : ∃ x y, p = .st T [.sc (.int .i64 x), .sc (.int .i64 y)] := by
  obtain ⟨fs, rfl, hf⟩ := ty_fields (n := n + 1) hc (List.cons_ne_nil _ _) h
  obtain ⟨p, q, rfl, h1, h2⟩ := tyL2 hf
  obtain ⟨x, rfl, _⟩ := ty_i64 h1
  obtain ⟨y, rfl, _⟩ := ty_i64 h2
  exact ⟨x, y, rfl⟩
theorem ty_bodies {n : Nat} {p : PV} (h : Ty tau (n + 3) 47 p) : ∃ z b, p = .ro 29 z false b ∧ (z = true → b = []) ∧ b.length ≤ maxLen ∧ b.all (PV.isRo 5) = true ∧ allInt .u8 (flat b) = true := by
  have u : tau.und 47 = some (.slice 29) := by kernel_rfl
  obtain ⟨z, b, rfl, hz, hl, hb⟩ := ty_slice u h
  obtain ⟨r1, r2⟩ := ty_rows b hb
  exact ⟨z, b, rfl, hz, hl, r1, r2⟩
theorem ty_msg {n : Nat} {p : PV} (h : Ty tau (n + 4) 54 p) : ∃ kd fr to wh wn cd cu ve co ad au su er z b,
    p = .st 54 [.sc (.int .i64 kd), .sc (.int .i64 fr), .sc (.int .i64 to), .st 34 [.sc (.int .i64 wh), .sc (.int .i64 wn)], .st 45 [.sc (.int .i64 cd), .sc (.int .i64 cu)], .sc (.int .i64 ve), .sc (.int .i64 co), .st 45 [.sc (.int .i64 ad), .sc (.int .i64 au)], .sc (.int .i64 su), .sc (.int .i64 er), .ro 29 z false b] ∧
    b.all (PV.isRo 5) = true ∧ allInt .u8 (flat b) = true ∧ b.length ≤ maxLen ∧ (z = true → b = []) := by
  have c1 : fldsOf 54 = [3, 3, 3, 34, 45, 3, 3, 45, 3, 3, 47] := by kernel_rfl
  have c2 : fldsOf 34 = [3, 3] := by kernel_rfl
  have c3 : fldsOf 45 = [3, 3] := by kernel_rfl
  obtain ⟨fs, rfl, hf⟩ := ty_fields (n := n + 3) c1 (List.cons_ne_nil _ _) h
  obtain ⟨p0, fs, rfl, h0, hf⟩ := tyL_cons hf
  obtain ⟨p1, fs, rfl, h1, hf⟩ := tyL_cons hf
  obtain ⟨p2, fs, rfl, h2, hf⟩ := tyL_cons hf
  obtain ⟨p3, fs, rfl, h3, hf⟩ := tyL_cons hf
  obtain ⟨p4, fs, rfl, h4, hf⟩ := tyL_cons hf
  obtain ⟨p5, fs, rfl, h5, hf⟩ := tyL_cons hf
  obtain ⟨p6, fs, rfl, h6, hf⟩ := tyL_cons hf
  obtain ⟨p7, fs, rfl, h7, hf⟩ := tyL_cons hf
  obtain ⟨p8, fs, rfl, h8, hf⟩ := tyL_cons hf
  obtain ⟨p9, fs, rfl, h9, hf⟩ := tyL_cons hf
  obtain ⟨p10, fs, rfl, h10, hf⟩ := tyL_cons hf
  obtain rfl := tyL_nil hf
  obtain ⟨kd, rfl, _⟩ := ty_i64 h0
  obtain ⟨fr, rfl, _⟩ := ty_i64 h1
  obtain ⟨to, rfl, _⟩ := ty_i64 h2
  obtain ⟨wh, wn, rfl⟩ := ty_two c2 h3
  obtain ⟨cd, cu, rfl⟩ := ty_two c3 h4
  obtain ⟨ve, rfl, _⟩ := ty_i64 h5
  obtain ⟨co, rfl, _⟩ := ty_i64 h6
  obtain ⟨ad, au, rfl⟩ := ty_two c3 h7
  obtain ⟨su, rfl, _⟩ := ty_i64 h8
  obtain ⟨er, rfl, _⟩ := ty_i64 h9
  obtain ⟨z, b, rfl, hz, hl, r1, r2⟩ := ty_bodies h10
  exact ⟨kd, fr, to, wh, wn, cd, cu, ve, co, ad, au, su, er, z, b, rfl, r1, r2, hl, hz⟩
theorem few_rOk {l : List PV} (h1 : l.all (PV.isRo 5) = true) (h2 : allInt .u8 (flat l) = true) (h : fewB l = true) : rOk (gB l) = true := by
  rw [fewB_eq, Bool.and_eq_true, decide_eq_true_eq] at h
  rw [gB_eq]
  refine rOk_iff.2 ⟨?_, ?_, fun p hp => ?_, by simp; omega⟩
  · exact List.all_eq_true.2 fun p hp => List.all_eq_true.1 h1 p (List.mem_of_mem_take hp)
  · have : flat l = flat (l.take 4) ++ flat (l.drop 4) := by rw [← flat_append, List.take_append_drop]
    rw [this, allInt_append, Bool.and_eq_true] at h2
    exact h2.1
  · have := List.all_eq_true.1 h.1 p (List.mem_of_mem_take hp)
    have : p.els.length ≤ 200 := by simpa using this
    omega
theorem few_small {l : List PV} (h : fewB l = true) : (∀ p ∈ gB l, p.els.length ≤ 200) ∧ (gB l).length ≤ 4 := by
  rw [fewB_eq, Bool.and_eq_true, decide_eq_true_eq] at h
  rw [gB_eq]
  refine ⟨fun p hp => ?_, by simp; omega⟩
  have := List.all_eq_true.1 h.1 p (List.mem_of_mem_take hp)
  simpa using this
end Go.Proofs.Ytcklhipdldpkhaa.Rx

namespace Go.Proofs.Ytcklhipdldpkhaa.Rx
open Go
set_option linter.unusedVariables false
set_option linter.unusedSimpArgs false
set_option maxRecDepth 100000
set_option maxHeartbeats 1000000
theorem sumP_by (bs : List Int) : ∀ x ∈ sumP bs, 0 ≤ x ∧ x < 256 := by
  intro x hx
  rw [sumP_eq] at hx
  obtain ⟨i, _, rfl⟩ := List.mem_map.1 hx
  exact wrap_by _
theorem macP_by (k t : List Int) : ∀ x ∈ macP k t, 0 ≤ x ∧ x < 256 := by rw [macP_eq]; exact sumP_by _
theorem wB_all (w : WM) : ∀ x ∈ wB w, 0 ≤ x ∧ x < 256 := by
  intro x hx
  rw [wB_eq] at hx
  rcases List.mem_append.1 hx with h | h
  · exact wB_by w x h
  · exact macP_by _ _ x h
theorem byB_wB (w : WM) : byB (pu .u8 (wB w)) = true := byB_pu.2 (wB_all w)
theorem kOk0 (i : Nat) : kOk (kb i []) = true := kb_ok i rfl
theorem txL_all : ∀ (n : Nat) (s : RS), byB s.b = true → ∀ p ∈ txL n s, ∃ t : ByteArray, t.size ≤ 65535 ∧ p = bodyP t
  | 0, s, h, p, hp => by cases hp
  | n + 1, s, h, p, hp => by
      rcases List.mem_cons.1 hp with rfl | hp
      · exact ⟨_, txtV_size h, rfl⟩
      · exact txL_all n _ (byS_txt h) p hp
theorem txL_length : ∀ (n : Nat) (s : RS), (txL n s).length = n
  | 0, _ => rfl
  | n + 1, s => by simp [txL, txL_length n]
theorem rOk_bodies {l : List PV} (h : ∀ p ∈ l, ∃ t : ByteArray, t.size ≤ 65535 ∧ p = bodyP t) (hl : l.length ≤ 1000) : rOk l = true := by
  refine rOk_iff.2 ⟨?_, ?_, ?_, hl⟩
  · exact List.all_eq_true.2 fun p hp => by obtain ⟨t, _, rfl⟩ := h p hp; rfl
  · clear hl
    induction l with
    | nil => rfl
    | cons p ps ih =>
      obtain ⟨t, _, rfl⟩ := h p List.mem_cons_self
      rw [flat_cons, allInt_append, ih fun q hq => h q (List.mem_cons_of_mem _ hq), Bool.and_true]
      show allInt .u8 (ofBytes t) = true
      rw [ofBytes_pu]; simp
  · intro p hp
    obtain ⟨t, ht, rfl⟩ := h p hp
    show (ofBytes t).length ≤ _
    rw [ofBytes_len]; exact ht
theorem rOk_pbod {p : PA} (h : byB p.b = true) : rOk (pbod p) = true := by
  rw [pbod_eq]
  cases parE0 p == 0 with
  | false => rw [rOk_eq]; rfl
  | true =>
    rw [cond_true, bodL_eq]
    have h1 : byB (stepS 1 (fS 13 ⟨p.b, 0⟩)).b = true := byS_step (byS_fS (s := ⟨p.b, 0⟩) h 13) 1
    have h2 : byB (msgS ⟨p.b, 0⟩).b = true := by
      unfold msgS
      cases decide (cntS ⟨p.b, 0⟩ > 4) with
      | true => exact h1
      | false => exact h1
    have h3 : msgN ⟨p.b, 0⟩ ≤ 4 := by
      unfold msgN
      cases h4 : decide (cntS ⟨p.b, 0⟩ > 4) with
      | true => exact Nat.zero_le _
      | false =>
        simp only [decide_eq_false_iff_not] at h4
        rw [cond_false]; omega
    exact rOk_bodies (txL_all _ _ h2) (by rw [txL_length]; omega)
theorem wB_msgOk {ks : List PV} {c : C13} {b : List PV} (hn : ∀ x ∈ numsOf c, i64B x = true) (h1 : ∀ p ∈ b, p.els.length ≤ 200) (h2 : b.length ≤ 4) (k : List Int) : MsgOk (numsOf c) (b.map txB) (macP k (wB0 ⟨ks, c, b⟩)) where
  len := rfl
  num := fun n h => by
    have hl : n < (numsOf c).length := h
    rw [List.getD_eq_getElem?_getD, List.getElem?_eq_getElem hl]
    exact hn _ (List.getElem_mem hl)
  cnt := by rw [List.length_map]; exact h2
  txt := fun t ht => Nat.le_trans (txs_small h1 t ht) (by omega)
  sum := macP_length _ _
  sumB := macP_by _ _
theorem wB0_few {w : WM} (h1 : ∀ p ∈ w.b, p.els.length ≤ 200) (h2 : w.b.length ≤ 4) : (wB0 w).length ≤ 8160 := by
  have := textsB_len 200 (w.b.map txB) (txs_small h1)
  rw [List.length_map] at this
  have h5 : w.b.length * 202 ≤ 4 * 202 := Nat.mul_le_mul_right _ h2
  rw [wB0_length]; omega
theorem wB_pu (w : WM) : pu .u8 (wB w) = pu .u8 (msgB w.c.kd (numsOf w.c) (w.b.map txB)) ++ pu .u8 (macP (ints (keyF ⟨w.l, w.c.fr⟩)) (wB0 w)) := by rw [wB_eq, pu_append]; rfl
theorem parE_wB (l ks : List PV) (c : C13) (b : List PV) (hn : ∀ x ∈ numsOf c, i64B x = true) (h1 : ∀ p ∈ b, p.els.length ≤ 200) (h2 : b.length ≤ 4) :
    parE0 ⟨l, pu .u8 (wB ⟨ks, c, b⟩)⟩ = bif chk ⟨IntKind.u8.wrap c.kd, c.fr, c.to, c.wh, c.wn, c.cd, c.cu, c.ve, c.co, c.ad, c.au, c.su, c.er⟩ == 0 then (bif macP (ints (keyF ⟨l, c.fr⟩)) (wB0 ⟨ks, c, b⟩) == macP (ints (keyF ⟨ks, c.fr⟩)) (wB0 ⟨ks, c, b⟩) then 0 else 14) else chk ⟨IntKind.u8.wrap c.kd, c.fr, c.to, c.wh, c.wn, c.cd, c.cu, c.ve, c.co, c.ad, c.au, c.su, c.er⟩ := by
  have := parE_msg (l := l) (kd := c.kd) (wB_msgOk (ks := ks) hn h1 h2 (ints (keyF ⟨ks, c.fr⟩))) (wB0_few (w := ⟨ks, c, b⟩) h1 h2)
  rw [wB_pu]
  exact this
theorem read_wB {l ks : List PV} {c : C13} {b : List PV} (hn : ∀ x ∈ numsOf c, i64B x = true) (h1 : ∀ p ∈ b, p.els.length ≤ 200) (h2 : b.length ≤ 4) (h : parE0 ⟨l, pu .u8 (wB ⟨ks, c, b⟩)⟩ = 0) :
    pfld 0 ⟨l, pu .u8 (wB ⟨ks, c, b⟩)⟩ = IntKind.u8.wrap c.kd ∧ (∀ n, n < 12 → pfld (n + 1) ⟨l, pu .u8 (wB ⟨ks, c, b⟩)⟩ = (numsOf c).getD n 0) ∧ pbod ⟨l, pu .u8 (wB ⟨ks, c, b⟩)⟩ = (b.map txB).map bodyP := by
  obtain ⟨m0, m1, m2, _, _⟩ := msg_read (kd := c.kd) (wB_msgOk (ks := ks) hn h1 h2 (ints (keyF ⟨ks, c.fr⟩)))
  simp only [pfld_eq, pbod_eq, h, beq_self_eq_true, cond_true]
  rw [wB_pu]
  exact ⟨m0, m1, m2⟩
theorem ofto (l : List UInt8) : toBytes (ofBytes (ByteArray.mk (Array.mk l))) = l := by
  simp only [ofBytes]
  show toBytes (l.map _) = l
  induction l with
  | nil => rfl
  | cons x l ih =>
    simp only [List.map_cons, toBytes, ih, PV.int]
    congr 1
    simp
theorem txs_bodies (b : List PV) : txs ((b.map txB).map bodyP) = txs b := by
  simp only [txs, List.map_map]
  apply List.map_congr_left
  intro p _
  show toBytes (ofBytes (txB p)) = toBytes p.els
  exact ofto _
theorem good_nums (c : C13) : ∀ x ∈ numsOf ⟨goodF 0 c, goodF 1 c, goodF 2 c, goodF 3 c, goodF 4 c, goodF 5 c, goodF 6 c, goodF 7 c, goodF 8 c, goodF 9 c, goodF 10 c, goodF 11 c, goodF 12 c⟩, i64B x = true := by
  intro x hx
  simp only [numsOf, goodF_eq, goodF0, List.mem_cons, List.not_mem_nil, or_false] at hx
  simp only [i64B, Bool.and_eq_true, decide_eq_true_eq]
  omega
theorem chk_good (c : C13) : chk ⟨IntKind.u8.wrap (goodF 0 c), goodF 1 c, goodF 2 c, goodF 3 c, goodF 4 c, goodF 5 c, goodF 6 c, goodF 7 c, goodF 8 c, goodF 9 c, goodF 10 c, goodF 11 c, goodF 12 c⟩ = 0 := by
  rw [chk_eq]
  simp only [goodF_eq, goodF0, wrap_u8_eq, chk0]
  have hk : innB (IntKind.i64.wrap ((1 + c.kd % 5) % 256 - 1)) 4 = true := by
    rw [wrap_i64 (by omega) (by omega)]
    simp only [innB, Bool.and_eq_true, decide_eq_true_eq]; omega
  rw [hk, cond_true]
  refine bif_t ?_
  simp only [chkB, innB, Bool.and_eq_true, decide_eq_true_eq, Bool.not_eq_true', beq_eq_false_iff_ne]
  omega
theorem parE_good (l ks : List PV) (c : C13) (b : List PV) (h1 : ∀ p ∈ b, p.els.length ≤ 200) (h2 : b.length ≤ 4) :
    parE ⟨l, pu .u8 (wB ⟨ks, ⟨goodF 0 c, goodF 1 c, goodF 2 c, goodF 3 c, goodF 4 c, goodF 5 c, goodF 6 c, goodF 7 c, goodF 8 c, goodF 9 c, goodF 10 c, goodF 11 c, goodF 12 c⟩, b⟩)⟩ = bif macP (ints (keyF ⟨l, goodF 1 c⟩)) (wB0 ⟨ks, ⟨goodF 0 c, goodF 1 c, goodF 2 c, goodF 3 c, goodF 4 c, goodF 5 c, goodF 6 c, goodF 7 c, goodF 8 c, goodF 9 c, goodF 10 c, goodF 11 c, goodF 12 c⟩, b⟩) == macP (ints (keyF ⟨ks, goodF 1 c⟩)) (wB0 ⟨ks, ⟨goodF 0 c, goodF 1 c, goodF 2 c, goodF 3 c, goodF 4 c, goodF 5 c, goodF 6 c, goodF 7 c, goodF 8 c, goodF 9 c, goodF 10 c, goodF 11 c, goodF 12 c⟩, b⟩) then 0 else 14 := by
  rw [parE_eq, parE_wB l ks _ b (good_nums c) h1 h2]
  show (bif chk ⟨IntKind.u8.wrap (goodF 0 c), goodF 1 c, goodF 2 c, goodF 3 c, goodF 4 c, goodF 5 c, goodF 6 c, goodF 7 c, goodF 8 c, goodF 9 c, goodF 10 c, goodF 11 c, goodF 12 c⟩ == 0 then _ else _) = _
  rw [chk_good]
  rfl
end Go.Proofs.Ytcklhipdldpkhaa.Rx

-- FN law16.WireBytes
namespace Go.Proofs.Ytcklhipdldpkhaa.Rx
open Go
set_option linter.unusedVariables false
set_option linter.unusedSimpArgs false
set_option maxRecDepth 100000
set_option maxHeartbeats 2000000
theorem slB_pu (w : WM) (h : rOk w.b = true) : slB (Ent.vec false 5 false (pu .u8 (wB w))).nil (pu .u8 (wB w)) = true := by
  have := wB0_small h
  exact slB_iff.2 ⟨fun h => (by cases h), by rw [pu_length, wB_length]; omega⟩
theorem take_pu (l : List Int) : List.take l.length (pu .u8 l) = pu .u8 l := List.take_of_length_le (by simp)
theorem good_same (c : C13) (b : List PV) (p : PA) (h0 : pfld 0 p = IntKind.u8.wrap (goodF 0 c)) (h1 : ∀ n, n < 12 → pfld (n + 1) p = (numsOf ⟨goodF 0 c, goodF 1 c, goodF 2 c, goodF 3 c, goodF 4 c, goodF 5 c, goodF 6 c, goodF 7 c, goodF 8 c, goodF 9 c, goodF 10 c, goodF 11 c, goodF 12 c⟩).getD n 0) (h2 : pbod p = (b.map txB).map bodyP) :
    sameM (MS.mk (C13.mk (pfld 0 p) (pfld 1 p) (pfld 2 p) (pfld 3 p) (pfld 4 p) (pfld 5 p) (pfld 6 p) (pfld 7 p) (pfld 8 p) (pfld 9 p) (pfld 10 p) (pfld 11 p) (pfld 12 p)) (pbod p)) (MS.mk ⟨goodF 0 c, goodF 1 c, goodF 2 c, goodF 3 c, goodF 4 c, goodF 5 c, goodF 6 c, goodF 7 c, goodF 8 c, goodF 9 c, goodF 10 c, goodF 11 c, goodF 12 c⟩ b) = true := by
  have e0 : pfld 0 p = goodF 0 c := by
    rw [h0, wrap_u8_eq, goodF_eq]; simp only [goodF0]; omega
  have e1 : pfld 1 p = goodF 1 c := h1 0 (by decide)
  have e2 : pfld 2 p = goodF 2 c := h1 1 (by decide)
  have e3 : pfld 3 p = goodF 3 c := h1 2 (by decide)
  have e4 : pfld 4 p = goodF 4 c := h1 3 (by decide)
  have e5 : pfld 5 p = goodF 5 c := h1 4 (by decide)
  have e6 : pfld 6 p = goodF 6 c := h1 5 (by decide)
  have e7 : pfld 7 p = goodF 7 c := h1 6 (by decide)
  have e8 : pfld 8 p = goodF 8 c := h1 7 (by decide)
  have e9 : pfld 9 p = goodF 9 c := h1 8 (by decide)
  have e10 : pfld 10 p = goodF 10 c := h1 9 (by decide)
  have e11 : pfld 11 p = goodF 11 c := h1 10 (by decide)
  have e12 : pfld 12 p = goodF 12 c := h1 11 (by decide)
  rw [sameM_eq, eqR_eq, h2, txs_bodies]
  simp only [e0, e1, e2, e3, e4, e5, e6, e7, e8, e9, e10, e11, e12]
  rw [eqC_iff.2 rfl]
  simp
theorem g12_true (kd fr to wh wn cd cu ve co ad au su er : Int) (z f : Bool) (b : List PV) (which n : Int) (h1 : b.all (PV.isRo 5) = true) (h2 : allInt .u8 (flat b) = true) (h3 : b.length ≤ 9223372036854775807) (k : Res → Option Res) : g12 0 kd fr to wh wn cd cu ve co ad au su er z f b which n k = k ⟨.sc (.bool true), [], []⟩ := by
  unfold g12
  refine (bif_t (by rw [h1, Bool.true_and, Nat.ble_eq]; exact h3)).trans ?_
  cases hf : fewB b with
  | false => rfl
  | true =>
    have hr := few_rOk h1 h2 hf
    obtain ⟨q1, q2⟩ := few_small hf
    have hfr : inA [goodF 1 ⟨kd, fr, to, wh, wn, cd, cu, ve, co, ad, au, su, er⟩, 2] = true := by
      rw [inA_1, goodF_eq]; simp only [inZ, goodF0, Bool.and_eq_true, decide_eq_true_eq]; omega
    have hW : q12_5 kd fr to wh wn cd cu ve co ad au su er b = wB ⟨[.ro 5 false false (kb 0 []), .ro 5 false false (kb 1 []), .ro 5 false false (kb 2 [])], ⟨goodF 0 ⟨kd, fr, to, wh, wn, cd, cu, ve, co, ad, au, su, er⟩, goodF 1 ⟨kd, fr, to, wh, wn, cd, cu, ve, co, ad, au, su, er⟩, goodF 2 ⟨kd, fr, to, wh, wn, cd, cu, ve, co, ad, au, su, er⟩, goodF 3 ⟨kd, fr, to, wh, wn, cd, cu, ve, co, ad, au, su, er⟩, goodF 4 ⟨kd, fr, to, wh, wn, cd, cu, ve, co, ad, au, su, er⟩, goodF 5 ⟨kd, fr, to, wh, wn, cd, cu, ve, co, ad, au, su, er⟩, goodF 6 ⟨kd, fr, to, wh, wn, cd, cu, ve, co, ad, au, su, er⟩, goodF 7 ⟨kd, fr, to, wh, wn, cd, cu, ve, co, ad, au, su, er⟩, goodF 8 ⟨kd, fr, to, wh, wn, cd, cu, ve, co, ad, au, su, er⟩, goodF 9 ⟨kd, fr, to, wh, wn, cd, cu, ve, co, ad, au, su, er⟩, goodF 10 ⟨kd, fr, to, wh, wn, cd, cu, ve, co, ad, au, su, er⟩, goodF 11 ⟨kd, fr, to, wh, wn, cd, cu, ve, co, ad, au, su, er⟩, goodF 12 ⟨kd, fr, to, wh, wn, cd, cu, ve, co, ad, au, su, er⟩⟩, gB b⟩ := rfl
    have hP : q12_2 kd fr to wh wn cd cu ve co ad au su er b = ⟨[.ro 5 false false (kb 0 []), .ro 5 false false (kb 1 []), .ro 5 false false (kb 2 [])], pu .u8 (wB ⟨[.ro 5 false false (kb 0 []), .ro 5 false false (kb 1 []), .ro 5 false false (kb 2 [])], ⟨goodF 0 ⟨kd, fr, to, wh, wn, cd, cu, ve, co, ad, au, su, er⟩, goodF 1 ⟨kd, fr, to, wh, wn, cd, cu, ve, co, ad, au, su, er⟩, goodF 2 ⟨kd, fr, to, wh, wn, cd, cu, ve, co, ad, au, su, er⟩, goodF 3 ⟨kd, fr, to, wh, wn, cd, cu, ve, co, ad, au, su, er⟩, goodF 4 ⟨kd, fr, to, wh, wn, cd, cu, ve, co, ad, au, su, er⟩, goodF 5 ⟨kd, fr, to, wh, wn, cd, cu, ve, co, ad, au, su, er⟩, goodF 6 ⟨kd, fr, to, wh, wn, cd, cu, ve, co, ad, au, su, er⟩, goodF 7 ⟨kd, fr, to, wh, wn, cd, cu, ve, co, ad, au, su, er⟩, goodF 8 ⟨kd, fr, to, wh, wn, cd, cu, ve, co, ad, au, su, er⟩, goodF 9 ⟨kd, fr, to, wh, wn, cd, cu, ve, co, ad, au, su, er⟩, goodF 10 ⟨kd, fr, to, wh, wn, cd, cu, ve, co, ad, au, su, er⟩, goodF 11 ⟨kd, fr, to, wh, wn, cd, cu, ve, co, ad, au, su, er⟩, goodF 12 ⟨kd, fr, to, wh, wn, cd, cu, ve, co, ad, au, su, er⟩⟩, gB b⟩)⟩ := by
      show PA.mk _ (List.take (wB ⟨[.ro 5 false false (kb 0 []), .ro 5 false false (kb 1 []), .ro 5 false false (kb 2 [])], ⟨goodF 0 ⟨kd, fr, to, wh, wn, cd, cu, ve, co, ad, au, su, er⟩, goodF 1 ⟨kd, fr, to, wh, wn, cd, cu, ve, co, ad, au, su, er⟩, goodF 2 ⟨kd, fr, to, wh, wn, cd, cu, ve, co, ad, au, su, er⟩, goodF 3 ⟨kd, fr, to, wh, wn, cd, cu, ve, co, ad, au, su, er⟩, goodF 4 ⟨kd, fr, to, wh, wn, cd, cu, ve, co, ad, au, su, er⟩, goodF 5 ⟨kd, fr, to, wh, wn, cd, cu, ve, co, ad, au, su, er⟩, goodF 6 ⟨kd, fr, to, wh, wn, cd, cu, ve, co, ad, au, su, er⟩, goodF 7 ⟨kd, fr, to, wh, wn, cd, cu, ve, co, ad, au, su, er⟩, goodF 8 ⟨kd, fr, to, wh, wn, cd, cu, ve, co, ad, au, su, er⟩, goodF 9 ⟨kd, fr, to, wh, wn, cd, cu, ve, co, ad, au, su, er⟩, goodF 10 ⟨kd, fr, to, wh, wn, cd, cu, ve, co, ad, au, su, er⟩, goodF 11 ⟨kd, fr, to, wh, wn, cd, cu, ve, co, ad, au, su, er⟩, goodF 12 ⟨kd, fr, to, wh, wn, cd, cu, ve, co, ad, au, su, er⟩⟩, gB b⟩).length (pu .u8 (wB ⟨[.ro 5 false false (kb 0 []), .ro 5 false false (kb 1 []), .ro 5 false false (kb 2 [])], ⟨goodF 0 ⟨kd, fr, to, wh, wn, cd, cu, ve, co, ad, au, su, er⟩, goodF 1 ⟨kd, fr, to, wh, wn, cd, cu, ve, co, ad, au, su, er⟩, goodF 2 ⟨kd, fr, to, wh, wn, cd, cu, ve, co, ad, au, su, er⟩, goodF 3 ⟨kd, fr, to, wh, wn, cd, cu, ve, co, ad, au, su, er⟩, goodF 4 ⟨kd, fr, to, wh, wn, cd, cu, ve, co, ad, au, su, er⟩, goodF 5 ⟨kd, fr, to, wh, wn, cd, cu, ve, co, ad, au, su, er⟩, goodF 6 ⟨kd, fr, to, wh, wn, cd, cu, ve, co, ad, au, su, er⟩, goodF 7 ⟨kd, fr, to, wh, wn, cd, cu, ve, co, ad, au, su, er⟩, goodF 8 ⟨kd, fr, to, wh, wn, cd, cu, ve, co, ad, au, su, er⟩, goodF 9 ⟨kd, fr, to, wh, wn, cd, cu, ve, co, ad, au, su, er⟩, goodF 10 ⟨kd, fr, to, wh, wn, cd, cu, ve, co, ad, au, su, er⟩, goodF 11 ⟨kd, fr, to, wh, wn, cd, cu, ve, co, ad, au, su, er⟩, goodF 12 ⟨kd, fr, to, wh, wn, cd, cu, ve, co, ad, au, su, er⟩⟩, gB b⟩))) = _
      rw [take_pu]
    have hE : parE (q12_2 kd fr to wh wn cd cu ve co ad au su er b) = 0 := by
      rw [hP, parE_good _ _ _ _ q1 q2]; simp
    have hE0 : parE0 ⟨[.ro 5 false false (kb 0 []), .ro 5 false false (kb 1 []), .ro 5 false false (kb 2 [])], pu .u8 (wB ⟨[.ro 5 false false (kb 0 []), .ro 5 false false (kb 1 []), .ro 5 false false (kb 2 [])], ⟨goodF 0 ⟨kd, fr, to, wh, wn, cd, cu, ve, co, ad, au, su, er⟩, goodF 1 ⟨kd, fr, to, wh, wn, cd, cu, ve, co, ad, au, su, er⟩, goodF 2 ⟨kd, fr, to, wh, wn, cd, cu, ve, co, ad, au, su, er⟩, goodF 3 ⟨kd, fr, to, wh, wn, cd, cu, ve, co, ad, au, su, er⟩, goodF 4 ⟨kd, fr, to, wh, wn, cd, cu, ve, co, ad, au, su, er⟩, goodF 5 ⟨kd, fr, to, wh, wn, cd, cu, ve, co, ad, au, su, er⟩, goodF 6 ⟨kd, fr, to, wh, wn, cd, cu, ve, co, ad, au, su, er⟩, goodF 7 ⟨kd, fr, to, wh, wn, cd, cu, ve, co, ad, au, su, er⟩, goodF 8 ⟨kd, fr, to, wh, wn, cd, cu, ve, co, ad, au, su, er⟩, goodF 9 ⟨kd, fr, to, wh, wn, cd, cu, ve, co, ad, au, su, er⟩, goodF 10 ⟨kd, fr, to, wh, wn, cd, cu, ve, co, ad, au, su, er⟩, goodF 11 ⟨kd, fr, to, wh, wn, cd, cu, ve, co, ad, au, su, er⟩, goodF 12 ⟨kd, fr, to, wh, wn, cd, cu, ve, co, ad, au, su, er⟩⟩, gB b⟩)⟩ = 0 := by rw [← parE_eq, ← hP]; exact hE
    have hb : byB (pu .u8 (q12_5 kd fr to wh wn cd cu ve co ad au su er b)) = true := by rw [hW]; exact byB_wB _
    have hpb : rOk (pbod (q12_2 kd fr to wh wn cd cu ve co ad au su er b)) = true := by rw [hP]; exact rOk_pbod (byB_wB _)
    have hS : sameM (q12_6 kd fr to wh wn cd cu ve co ad au su er b) (MS.mk (gcOf ⟨kd, fr, to, wh, wn, cd, cu, ve, co, ad, au, su, er⟩) (gB b)) = true := by
      obtain ⟨m0, m1, m2⟩ := read_wB (good_nums ⟨kd, fr, to, wh, wn, cd, cu, ve, co, ad, au, su, er⟩) q1 q2 hE0
      rw [← hP] at m0 m1 m2
      exact good_same ⟨kd, fr, to, wh, wn, cd, cu, ve, co, ad, au, su, er⟩ (gB b) _ m0 m1 m2
    have hsl : slB (Ent.vec false 5 false (pu .u8 (q12_5 kd fr to wh wn cd cu ve co ad au su er b))).nil (pu .u8 (q12_5 kd fr to wh wn cd cu ve co ad au su er b)) = true := by rw [hW]; exact slB_pu _ hr
    have htk := take_pu (q12_5 kd fr to wh wn cd cu ve co ad au su er b)
    have hai : allInt .u8 (pu .u8 (q12_5 kd fr to wh wn cd cu ve co ad au su er b)) = true := allInt_pu _ _
    simp only [List.drop_zero, htk]
    refine (bif_f rfl).trans ((bif_t (by rw [hr, kOk0, kOk0, kOk0]; rfl)).trans ((bif_t (by rw [hai]; rfl)).trans ((bif_t (by rw [hfr, hr, kOk0, kOk0, kOk0]; rfl)).trans ((bif_t (by rw [hai]; rfl)).trans ((bif_f (by rw [beqB_iff.2 rfl]; rfl)).trans ?_)))))
    refine (bif_t (by rw [hsl, hb, kOk0, kOk0, kOk0]; rfl)).trans ((bif_f (by rw [hE]; rfl)).trans ((bif_t (by rw [hpb, hr]; rfl)).trans ((bif_f (by rw [hS]; rfl)).trans ((bif_t (by rw [hpb, hr]; rfl)).trans ((bif_f (by rw [hS]; rfl)).trans ?_)))))
    have e0 := Int.emod_nonneg which (show (13 : Int) ≠ 0 by decide)
    have e1 := Int.emod_lt_of_pos which (show (0 : Int) < 13 by decide)
    have hz : zi 13 = 13 := rfl
    refine (bif_t (by rw [okW_eq, hz]; rfl)).trans ((bif_t (by rw [hz]; simp; omega)).trans ?_)
    have hL : q12_1 kd fr to wh wn cd cu ve co ad au su er which n = pu .i64 ([goodF 0 ⟨kd, fr, to, wh, wn, cd, cu, ve, co, ad, au, su, er⟩, goodF 1 ⟨kd, fr, to, wh, wn, cd, cu, ve, co, ad, au, su, er⟩, goodF 2 ⟨kd, fr, to, wh, wn, cd, cu, ve, co, ad, au, su, er⟩, goodF 3 ⟨kd, fr, to, wh, wn, cd, cu, ve, co, ad, au, su, er⟩, goodF 4 ⟨kd, fr, to, wh, wn, cd, cu, ve, co, ad, au, su, er⟩, goodF 5 ⟨kd, fr, to, wh, wn, cd, cu, ve, co, ad, au, su, er⟩, goodF 6 ⟨kd, fr, to, wh, wn, cd, cu, ve, co, ad, au, su, er⟩, goodF 7 ⟨kd, fr, to, wh, wn, cd, cu, ve, co, ad, au, su, er⟩, goodF 8 ⟨kd, fr, to, wh, wn, cd, cu, ve, co, ad, au, su, er⟩, goodF 9 ⟨kd, fr, to, wh, wn, cd, cu, ve, co, ad, au, su, er⟩, goodF 10 ⟨kd, fr, to, wh, wn, cd, cu, ve, co, ad, au, su, er⟩, goodF 11 ⟨kd, fr, to, wh, wn, cd, cu, ve, co, ad, au, su, er⟩, goodF 12 ⟨kd, fr, to, wh, wn, cd, cu, ve, co, ad, au, su, er⟩].set (0 + (which % zi 13).toNat) n) := by
      rw [← pu_set]; rfl
    rw [hL]
    have hlen : ([goodF 0 ⟨kd, fr, to, wh, wn, cd, cu, ve, co, ad, au, su, er⟩, goodF 1 ⟨kd, fr, to, wh, wn, cd, cu, ve, co, ad, au, su, er⟩, goodF 2 ⟨kd, fr, to, wh, wn, cd, cu, ve, co, ad, au, su, er⟩, goodF 3 ⟨kd, fr, to, wh, wn, cd, cu, ve, co, ad, au, su, er⟩, goodF 4 ⟨kd, fr, to, wh, wn, cd, cu, ve, co, ad, au, su, er⟩, goodF 5 ⟨kd, fr, to, wh, wn, cd, cu, ve, co, ad, au, su, er⟩, goodF 6 ⟨kd, fr, to, wh, wn, cd, cu, ve, co, ad, au, su, er⟩, goodF 7 ⟨kd, fr, to, wh, wn, cd, cu, ve, co, ad, au, su, er⟩, goodF 8 ⟨kd, fr, to, wh, wn, cd, cu, ve, co, ad, au, su, er⟩, goodF 9 ⟨kd, fr, to, wh, wn, cd, cu, ve, co, ad, au, su, er⟩, goodF 10 ⟨kd, fr, to, wh, wn, cd, cu, ve, co, ad, au, su, er⟩, goodF 11 ⟨kd, fr, to, wh, wn, cd, cu, ve, co, ad, au, su, er⟩, goodF 12 ⟨kd, fr, to, wh, wn, cd, cu, ve, co, ad, au, su, er⟩].set (0 + (which % zi 13).toNat) n).length = 13 := by rw [List.length_set]; rfl
    have hi : ∀ i, i < 13 → (PV.isInt .i64 (getP ((pu .i64 ([goodF 0 ⟨kd, fr, to, wh, wn, cd, cu, ve, co, ad, au, su, er⟩, goodF 1 ⟨kd, fr, to, wh, wn, cd, cu, ve, co, ad, au, su, er⟩, goodF 2 ⟨kd, fr, to, wh, wn, cd, cu, ve, co, ad, au, su, er⟩, goodF 3 ⟨kd, fr, to, wh, wn, cd, cu, ve, co, ad, au, su, er⟩, goodF 4 ⟨kd, fr, to, wh, wn, cd, cu, ve, co, ad, au, su, er⟩, goodF 5 ⟨kd, fr, to, wh, wn, cd, cu, ve, co, ad, au, su, er⟩, goodF 6 ⟨kd, fr, to, wh, wn, cd, cu, ve, co, ad, au, su, er⟩, goodF 7 ⟨kd, fr, to, wh, wn, cd, cu, ve, co, ad, au, su, er⟩, goodF 8 ⟨kd, fr, to, wh, wn, cd, cu, ve, co, ad, au, su, er⟩, goodF 9 ⟨kd, fr, to, wh, wn, cd, cu, ve, co, ad, au, su, er⟩, goodF 10 ⟨kd, fr, to, wh, wn, cd, cu, ve, co, ad, au, su, er⟩, goodF 11 ⟨kd, fr, to, wh, wn, cd, cu, ve, co, ad, au, su, er⟩, goodF 12 ⟨kd, fr, to, wh, wn, cd, cu, ve, co, ad, au, su, er⟩].set (0 + (which % zi 13).toNat) n)).getD i .top) []) && true) = true := fun i h => by
      simp only [getP]; rw [pu_isInt (by rw [hlen]; exact h)]; rfl
    refine (bif_t (hi 0 (by decide))).trans ((bif_t (hi 1 (by decide))).trans ((bif_t (hi 2 (by decide))).trans ((bif_t (hi 3 (by decide))).trans ((bif_t (hi 4 (by decide))).trans ((bif_t (hi 5 (by decide))).trans ((bif_t (hi 6 (by decide))).trans ?_))))))
    refine (bif_t (hi 7 (by decide))).trans ((bif_t (hi 8 (by decide))).trans ((bif_t (hi 9 (by decide))).trans ((bif_t (hi 10 (by decide))).trans ((bif_t (hi 11 (by decide))).trans ((bif_t (hi 12 (by decide))).trans ?_)))))
    generalize (getP ((pu .i64 ([goodF 0 ⟨kd, fr, to, wh, wn, cd, cu, ve, co, ad, au, su, er⟩, goodF 1 ⟨kd, fr, to, wh, wn, cd, cu, ve, co, ad, au, su, er⟩, goodF 2 ⟨kd, fr, to, wh, wn, cd, cu, ve, co, ad, au, su, er⟩, goodF 3 ⟨kd, fr, to, wh, wn, cd, cu, ve, co, ad, au, su, er⟩, goodF 4 ⟨kd, fr, to, wh, wn, cd, cu, ve, co, ad, au, su, er⟩, goodF 5 ⟨kd, fr, to, wh, wn, cd, cu, ve, co, ad, au, su, er⟩, goodF 6 ⟨kd, fr, to, wh, wn, cd, cu, ve, co, ad, au, su, er⟩, goodF 7 ⟨kd, fr, to, wh, wn, cd, cu, ve, co, ad, au, su, er⟩, goodF 8 ⟨kd, fr, to, wh, wn, cd, cu, ve, co, ad, au, su, er⟩, goodF 9 ⟨kd, fr, to, wh, wn, cd, cu, ve, co, ad, au, su, er⟩, goodF 10 ⟨kd, fr, to, wh, wn, cd, cu, ve, co, ad, au, su, er⟩, goodF 11 ⟨kd, fr, to, wh, wn, cd, cu, ve, co, ad, au, su, er⟩, goodF 12 ⟨kd, fr, to, wh, wn, cd, cu, ve, co, ad, au, su, er⟩].set (0 + (which % zi 13).toNat) n)).getD 1 .top) []).int = x1
    by_cases d1 : x1 < 0
    · exact bif_t (by simpa using d1)
    refine (bif_f (by simpa using d1)).trans ?_
    by_cases d2 : x1 > 2
    · exact bif_t (by simpa using d2)
    refine (bif_f (by simpa using d2)).trans ?_
    have hfr2 : inA [x1, 2] = true := by
      rw [inA_1]; simp only [inZ, Bool.and_eq_true, decide_eq_true_eq]; omega
    have hb0 : byB (pu .u8 (q12_0 kd fr to wh wn cd cu ve co ad au su er b which n)) = true := byB_wB _
    have hsl0 : slB (Ent.vec false 5 false (pu .u8 (q12_0 kd fr to wh wn cd cu ve co ad au su er b which n))).nil (pu .u8 (q12_0 kd fr to wh wn cd cu ve co ad au su er b which n)) = true := slB_pu _ hr
    have htk0 := take_pu (q12_0 kd fr to wh wn cd cu ve co ad au su er b which n)
    have hpb0 : rOk (pbod (q12_3 kd fr to wh wn cd cu ve co ad au su er b which n)) = true := by
      refine rOk_pbod ?_
      show byB (List.take (q12_0 kd fr to wh wn cd cu ve co ad au su er b which n).length (pu .u8 (q12_0 kd fr to wh wn cd cu ve co ad au su er b which n))) = true
      rw [htk0]; exact hb0
    rw [htk0]
    refine (bif_t (by rw [hfr2, hr, kOk0, kOk0, kOk0]; rfl)).trans ((bif_t (by rw [hsl0, hb0, kOk0, kOk0, kOk0]; rfl)).trans ((bif_t (by rw [hb0, kOk0, kOk0, kOk0]; rfl)).trans ((bif_t (by simp)).trans ((bif_t (by rw [hpb0]; rfl)).trans ?_))))
    rw [sameM_self]
noncomputable def run12' : List PV → List Ent → (Res → Option Res) → Option Res
  | [.st 54 [.sc (.int .i64 kd), .sc (.int .i64 fr), .sc (.int .i64 to), .st 34 [.sc (.int .i64 wh), .sc (.int .i64 wn)], .st 45 [.sc (.int .i64 cd), .sc (.int .i64 cu)], .sc (.int .i64 ve), .sc (.int .i64 co), .st 45 [.sc (.int .i64 ad), .sc (.int .i64 au)], .sc (.int .i64 su), .sc (.int .i64 er), .ro 29 z f b], .sc (.int .i64 which), .sc (.int .i64 n)], [], k => bif b.all (PV.isRo 5) && (allInt .u8 (flat b) && decide (b.length ≤ 9223372036854775807)) then k ⟨.sc (.bool true), [], []⟩ else none
  | _, _, _ => none
noncomputable def s12' : Sig := { own := [], run := run12' }
theorem ok12' : CallOk tau Try.prog 12 s12' := CallOk.mk' fun xs es k res hl hr => by
  change run12' xs es k = some res at hr
  unfold run12' at hr
  split at hr
  · rename_i kd fr to wh wn cd cu ve co ad au su er z f b which n
    obtain ⟨hc, hr⟩ := of_bif hr
    simp only [Bool.and_eq_true, decide_eq_true_eq] at hc
    exact fn_at tabOk F12_ok mixed fo12 bo12 an12 [.ro] 0 0 (ia12 0) hl rfl ((e12 0 kd fr to wh wn cd cu ve co ad au su er z f b which n k).trans ((g12_true kd fr to wh wn cd cu ve co ad au su er z f b which n hc.1 hc.2.1 hc.2.2 k).trans hr))
  · cases hr
theorem run12_true : ∀ pvs, TyL tau 4 [54, 3, 3] pvs → s12'.run pvs [] some = some ⟨.sc (.bool true), [], []⟩ := by
  intro pvs h
  obtain ⟨p, q, r, rfl, h1, h2, h3⟩ := tyL3 h
  obtain ⟨kd, fr, to, wh, wn, cd, cu, ve, co, ad, au, su, er, z, b, rfl, r1, r2, r3, _⟩ := ty_msg (n := 0) h1
  obtain ⟨x, rfl, _⟩ := ty_i64 h2
  obtain ⟨y, rfl, _⟩ := ty_i64 h3
  have hm : maxLen ≤ 9223372036854775807 := by decide
  exact bif_t (by rw [r1, r2, decide_eq_true (Nat.le_trans r3 hm)]; rfl)
end Go.Proofs.Ytcklhipdldpkhaa.Rx
